/- Ranges as bytes and back, in plain words: no program in it. -/
import Derived.Test.YtgihecpobichbaaVarN
import Derived.Test.YtgihecpobichbaaEx1
import Derived.Test.YtgihecpobichbaaMx2
import Derived.Test.YtgihecpobichbaaMx3
import Derived.Test.YtgihecpobichbaaOx2
import Derived.Test.YtgihecpobichbaaQx1
import Derived.Test.YtgihecpobichbaaTx
namespace Go.Proofs.Ytgihecpobichbaa.Q
open Go.RowKit Go.Proofs.YtgihecpobichbaaW.PrintWords Go.Proofs.YtgihecpobichbaaW.PrintLast Go.Proofs.YtgihecpobichbaaW.PrintMore
set_option linter.unusedVariables false
set_option linter.unusedSimpArgs false

abbrev Rg := S83
theorem rg_drop (l : List Rg) (j : Int) (h0 : 0 ≤ j) (h1 : j < (l.length : Int)) : l.drop j.toNat = rd_T83 l j :: l.drop (j + 1).toNat := by
  have e : (j + 1).toNat = j.toNat + 1 := by omega
  have hl : j.toNat < l.length := by omega
  rw [e, List.drop_eq_getElem_cons hl]
  unfold rd_T83
  rw [List.getD_eq_getElem?_getD, List.getElem?_eq_getElem hl]
  rfl
def okR (y : Rg) : Bool := decide (0 ≤ y.f0 ∧ y.f0 ≤ y.f1 ∧ y.f1 ≤ 1099511627776)
def rightR (l : List Rg) : Bool := decide (1 ≤ l.length ∧ l.length ≤ 4) && l.all okR
theorem check_loop (l : List Rg) (hl : l.length ≤ 9223372036854775806) : ∀ (d : Nat) (i : Int), 0 ≤ i → i + d = l.length → Ev (fun k => offs_Check.l0 k l (l.length : Int) i) (if (l.drop i.toNat).all okR = true then 0 else 80) := by
  intro d
  induction d with
  | zero =>
    intro i h0 h1
    rw [List.drop_of_length_le (by omega)]
    exact Ev.step (f := fun _ => some 0) (fun k => by simp only [offs_Check.l0]; rw [if_neg (by omega)]) (Ev.now _)
  | succ d ih =>
    intro i h0 h1
    have e2 : wrap64 (i + 1) = i + 1 := wrap_in (by unfold in64; omega)
    rw [rg_drop l i h0 (by omega), List.all_cons]
    obtain ⟨y, hy⟩ : ∃ y, rd_T83 l i = y := ⟨_, rfl⟩
    have key : ∀ b : Bool, b = !(okR y) → Ev (fun k => offs_Check.j2 k l (l.length : Int) i b) (if (okR y && (l.drop (i + 1).toNat).all okR) = true then 0 else 80) := by
      intro b hb
      cases hv : okR y with
      | false =>
        rw [hv] at hb
        subst hb
        exact Ev.step (f := fun _ => some 80) (fun k => by simp only [offs_Check.j2]; rw [if_pos (by simp)]) (by simpa using Ev.now (80 : Int))
      | true =>
        rw [hv] at hb
        subst hb
        exact Ev.step (fun k => by simp only [offs_Check.j2]; rw [if_neg (by simp), e2]) (by simpa using ih (i + 1) (by omega) (by omega))
    rw [hy]
    refine Ev.step (fun k => ?_) (key (!(okR y)) rfl)
    simp only [offs_Check.l0]
    rw [if_pos (by omega), if_pos h0, if_pos (by omega), hy]
    unfold okR
    by_cases q1 : y.f0 < 0
    · rw [if_pos q1, show (!decide (0 ≤ y.f0 ∧ y.f0 ≤ y.f1 ∧ y.f1 ≤ 1099511627776)) = true by simp; omega]
    rw [if_neg q1]
    by_cases q2 : y.f1 < y.f0
    · rw [if_pos q2, show (!decide (0 ≤ y.f0 ∧ y.f0 ≤ y.f1 ∧ y.f1 ≤ 1099511627776)) = true by simp; omega]
    rw [if_neg q2]
    congr 1
    rw [← decide_not, decide_eq_decide]
    omega
theorem Check_ev (l : List Rg) (hl : l.length ≤ 9223372036854775806) : Ev (fun k => offs_Check.f k l) (if rightR l = true then 0 else 80) := by
  unfold offs_Check.f rightR
  by_cases h1 : (l.length : Int) < 1
  · refine Ev.congr (fun k => if_pos h1) ?_
    rw [if_neg (by simp; omega)]
    exact Ev.step (f := fun _ => some 80) (fun k => by simp only [offs_Check.j0]; rw [if_pos trivial]) (Ev.now _)
  refine Ev.congr (fun k => if_neg h1) ?_
  by_cases h2 : (l.length : Int) > 4
  · rw [if_neg (by simp; omega)]
    exact Ev.step (f := fun _ => some 80) (fun k => by simp only [offs_Check.j0]; rw [if_pos (by simpa using h2)]) (Ev.now _)
  · have e : decide (1 ≤ l.length ∧ l.length ≤ 4) = true := by simp; omega
    rw [e, Bool.true_and]
    refine Ev.step (fun k => ?_) (check_loop l hl l.length 0 (by omega) (by omega))
    simp only [offs_Check.j0]
    rw [if_neg (by simpa using h2)]
theorem right_loop (l : List Rg) (hl : l.length ≤ 9223372036854775806) : ∀ (d : Nat) (i : Int), 0 ≤ i → i + d = l.length → Ev (fun k => headgateref08_Right.l0 k l i) ((l.drop i.toNat).all okR) := by
  intro d
  induction d with
  | zero =>
    intro i h0 h1
    rw [List.drop_of_length_le (by omega)]
    exact Ev.step (f := fun _ => some true) (fun k => by simp only [headgateref08_Right.l0]; rw [if_neg (by omega)]) (Ev.now _)
  | succ d ih =>
    intro i h0 h1
    have e2 : wrap64 (i + 1) = i + 1 := wrap_in (by unfold in64; omega)
    rw [rg_drop l i h0 (by omega), List.all_cons]
    obtain ⟨y, hy⟩ : ∃ y, rd_T83 l i = y := ⟨_, rfl⟩
    have key : ∀ b : Bool, b = !(okR y) → Ev (fun k => headgateref08_Right.j2 k l i b) (okR y && (l.drop (i + 1).toNat).all okR) := by
      intro b hb
      cases hv : okR y with
      | false =>
        rw [hv] at hb
        subst hb
        exact Ev.step (f := fun _ => some false) (fun k => by simp only [headgateref08_Right.j2]; rw [if_pos (by simp)]) (by simpa using Ev.now false)
      | true =>
        rw [hv] at hb
        subst hb
        exact Ev.step (fun k => by simp only [headgateref08_Right.j2]; rw [if_neg (by simp), e2]) (by simpa using ih (i + 1) (by omega) (by omega))
    rw [hy]
    refine Ev.step (fun k => ?_) (key (!(okR y)) rfl)
    simp only [headgateref08_Right.l0]
    rw [if_pos (by omega), if_pos h0, hy]
    unfold okR
    by_cases q1 : y.f0 < 0
    · rw [if_pos q1, show (!decide (0 ≤ y.f0 ∧ y.f0 ≤ y.f1 ∧ y.f1 ≤ 1099511627776)) = true by simp; omega]
    rw [if_neg q1]
    by_cases q3 : y.f1 < 0
    · rw [if_pos q3, show (!decide (0 ≤ y.f0 ∧ y.f0 ≤ y.f1 ∧ y.f1 ≤ 1099511627776)) = true by simp; omega]
    rw [if_neg q3]
    by_cases q2 : y.f0 > y.f1
    · rw [if_pos q2, show (!decide (0 ≤ y.f0 ∧ y.f0 ≤ y.f1 ∧ y.f1 ≤ 1099511627776)) = true by simp; omega]
    rw [if_neg q2]
    congr 1
    rw [← decide_not, decide_eq_decide]
    omega
theorem Right_ev (l : List Rg) (hl : l.length ≤ 9223372036854775806) : Ev (fun k => headgateref08_Right.f k l) (rightR l) := by
  unfold headgateref08_Right.f rightR
  by_cases h1 : (l.length : Int) = 0
  · refine Ev.congr (fun k => if_pos h1) ?_
    rw [show decide (1 ≤ l.length ∧ l.length ≤ 4) = false by simp; omega, Bool.false_and]
    exact Ev.step (f := fun _ => some false) (fun k => by simp only [headgateref08_Right.j0]; rw [if_pos trivial]) (Ev.now _)
  refine Ev.congr (fun k => if_neg h1) ?_
  by_cases h2 : (l.length : Int) > 4
  · rw [show decide (1 ≤ l.length ∧ l.length ≤ 4) = false by simp; omega, Bool.false_and]
    exact Ev.step (f := fun _ => some false) (fun k => by simp only [headgateref08_Right.j0]; rw [if_pos (by simpa using h2)]) (Ev.now _)
  · have e : decide (1 ≤ l.length ∧ l.length ≤ 4) = true := by simp; omega
    rw [e, Bool.true_and]
    refine Ev.step (fun k => ?_) (right_loop l hl l.length 0 (by omega) (by omega))
    simp only [headgateref08_Right.j0]
    rw [if_neg (by simpa using h2)]
theorem alive08 : headgatelaw08_alive.f 40 = some true := by kernel_rfl
theorem right_parts {l : List Rg} (h : rightR l = true) : 1 ≤ l.length ∧ l.length ≤ 4 ∧ l.all okR = true := by
  unfold rightR at h
  rw [Bool.and_eq_true] at h
  have := of_decide_eq_true h.1
  exact ⟨this.1, this.2, h.2⟩
def pairsR : List Rg → List Int
  | [] => []
  | y :: l => y.f0 :: y.f1 :: pairsR l
theorem pairsR_len : ∀ (l : List Rg), (pairsR l).length = 2 * l.length
  | [] => rfl
  | y :: l => by
    simp only [pairsR, List.length_cons, pairsR_len l]
    omega
theorem pairsR_in : ∀ (l : List Rg), l.all okR = true → ∀ x ∈ pairsR l, in64 x
  | [], _, x, hx => absurd hx (by simp [pairsR])
  | y :: l, h, x, hx => by
    rw [List.all_cons, Bool.and_eq_true] at h
    have hy := of_decide_eq_true h.1
    simp only [pairsR, List.mem_cons] at hx
    rcases hx with rfl | rfl | hx
    · unfold in64; omega
    · unfold in64; omega
    · exact pairsR_in l h.2 x hx
def unp : List Int → List Rg
  | a :: b :: r => ⟨a, b⟩ :: unp r
  | _ => []
theorem unp_pairs : ∀ (l : List Rg), unp (pairsR l) = l
  | [] => rfl
  | y :: l => by
    simp only [pairsR, unp, unp_pairs l]
theorem unp_len : ∀ (n : List Int), (unp n).length = n.length / 2
  | [] => rfl
  | [a] => by simp [unp]
  | a :: b :: r => by
    simp only [unp, List.length_cons, unp_len r]
    omega
/-- The package's loop that lays the ints. -/
theorem offsPack_loop (l : List Rg) (hl : l.length ≤ 4) (R : List Int × Int) (hR : Ev (fun k => code_Nums.f k (pairsR l)) R) : ∀ (d i : Nat) (pre : List Int), i + d = l.length → pre.length = 2 * i → pre ++ pairsR (l.drop i) = pairsR l →
    Ev (fun k => offs_Pack.l0 k l (pre ++ List.replicate (2 * d) 0) (l.length : Int) (i : Int)) R := by
  intro d
  induction d with
  | zero =>
    intro i pre hi hp he
    rw [List.drop_of_length_le (by omega)] at he
    simp only [pairsR, List.append_nil] at he
    refine Ev.step (f := fun k => (code_Nums.f k pre).bind fun bt155 => some (bt155.1, bt155.2)) (fun k => ?_) (Ev.bind (he ▸ hR) (Ev.now _))
    simp only [offs_Pack.l0]
    rw [if_neg (by omega)]
    simp
  | succ d ih =>
    intro i pre hi hp he
    have hd := rg_drop l (i : Int) (by omega) (by omega)
    rw [show ((i : Int) + 1).toNat = i + 1 by omega, Int.toNat_natCast] at hd
    obtain ⟨y, hy⟩ : ∃ y, rd_T83 l (i : Int) = y := ⟨_, rfl⟩
    rw [hy] at hd
    have e1 : wrap64 (2 * (i : Int)) = 2 * (i : Int) := wrap_in (by unfold in64; omega)
    have e2 : wrap64 (2 * (i : Int) + 1) = 2 * (i : Int) + 1 := wrap_in (by unfold in64; omega)
    have e3 : wrap64 ((i : Int) + 1) = ((i + 1 : Nat) : Int) := by
      have h : wrap64 ((i : Int) + 1) = (i : Int) + 1 := wrap_in (by unfold in64; omega)
      rw [h]
      omega
    have hset : ((pre ++ List.replicate (2 * (d + 1)) (0 : Int)).set (2 * (i : Int)).toNat y.f0).set (2 * (i : Int) + 1).toNat y.f1 = (pre ++ [y.f0, y.f1]) ++ List.replicate (2 * d) 0 := by
      rw [show (2 * (i : Int)).toNat = pre.length by omega, show (2 * (i : Int) + 1).toNat = pre.length + 1 by omega, show 2 * (d + 1) = 2 * d + 1 + 1 by omega, List.replicate_succ, List.replicate_succ]
      rw [List.set_append_right _ _ (Nat.le_refl _), Nat.sub_self, List.set_cons_zero, List.set_append_right _ _ (by omega), show pre.length + 1 - pre.length = 1 by omega]
      simp
    have h2 := ih (i + 1) (pre ++ [y.f0, y.f1]) (by omega) (by simp; omega) (by rw [← he, hd]; simp [pairsR])
    refine Ev.step (fun k => ?_) h2
    simp only [offs_Pack.l0]
    rw [e1, e2, e3, hy, hset, List.length_append, List.length_replicate]
    rw [if_pos (by omega), if_pos (by omega), if_pos (by omega), if_pos (by omega), if_pos (by omega), if_pos (by omega), if_pos (by omega)]
theorem offsPack_right (l : List Rg) (h : rightR l = true) : Ev (fun k => offs_Pack.f k l) (numsAll (pairsR l), 0) := by
  obtain ⟨h1, h2, h3⟩ := right_parts h
  have hp := pairsR_len l
  have hc := codeNums_ev (pairsR l) (by omega) (pairsR_in l h3)
  have hn := numsAll_len (pairsR l)
  unfold codeNums at hc
  rw [if_neg (by omega)] at hc
  unfold offs_Pack.f
  refine Ev.bind (Check_ev l (by omega)) ?_
  rw [if_pos h]
  have e1 : wrap64 (2 * (l.length : Int)) = 2 * (l.length : Int) := wrap_in (by unfold in64; omega)
  refine Ev.congr (f := fun k => offs_Pack.l0 k l (List.replicate (2 * l.length) 0) (l.length : Int) 0) (fun k => by rw [e1, if_pos rfl, if_pos (by omega), if_pos (by omega), show (2 * (l.length : Int)).toNat = 2 * l.length by omega]) ?_
  exact offsPack_loop l h2 _ hc l.length 0 [] (by omega) rfl (by rw [List.drop_zero]; rfl)
theorem offsPack_wrong (l : List Rg) (hl : l.length ≤ 300) (h : ¬ rightR l = true) : Ev (fun k => offs_Pack.f k l) ([], 80) := by
  unfold offs_Pack.f
  refine Ev.bind (Check_ev l (by omega)) ?_
  rw [if_neg h]
  exact Ev.congr (fun k => if_neg (by decide)) (Ev.now _)
theorem refPack_loop (l : List Rg) (hl : l.length ≤ 4) (R : ByteArray) (hR : Ev (fun k => headgateref04_Nums.f k (pairsR l)) (R, 0)) : ∀ (d i : Nat) (pre : List Int), i + d = l.length → pre.length = 2 * i → pre ++ pairsR (l.drop i) = pairsR l →
    Ev (fun k => headgateref08_Pack.l0 k l pre (i : Int)) R := by
  intro d
  induction d with
  | zero =>
    intro i pre hi hp he
    rw [List.drop_of_length_le (by omega)] at he
    simp only [pairsR, List.append_nil] at he
    refine Ev.step (f := fun k => (headgateref04_Nums.f k pre).bind fun bt155 => some bt155.1) (fun k => ?_) (Ev.bind (he ▸ hR) (Ev.now _))
    simp only [headgateref08_Pack.l0]
    rw [if_neg (by omega)]
  | succ d ih =>
    intro i pre hi hp he
    have hd := rg_drop l (i : Int) (by omega) (by omega)
    rw [show ((i : Int) + 1).toNat = i + 1 by omega, Int.toNat_natCast] at hd
    obtain ⟨y, hy⟩ : ∃ y, rd_T83 l (i : Int) = y := ⟨_, rfl⟩
    rw [hy] at hd
    have e3 : wrap64 ((i : Int) + 1) = ((i + 1 : Nat) : Int) := by
      have h : wrap64 ((i : Int) + 1) = (i : Int) + 1 := wrap_in (by unfold in64; omega)
      rw [h]
      omega
    have h2 := ih (i + 1) (pre ++ [y.f0, y.f1]) (by omega) (by simp; omega) (by rw [← he, hd]; simp [pairsR])
    refine Ev.step (fun k => ?_) h2
    simp only [headgateref08_Pack.l0, Option.bind_some]
    rw [e3, hy, if_pos (by omega), if_pos (by omega), if_pos (by simp; omega)]
theorem refPack_right (l : List Rg) (h : rightR l = true) : Ev (fun k => headgateref08_Pack.f k l) (strOfNums (numsAll (pairsR l))) := by
  obtain ⟨h1, h2, h3⟩ := right_parts h
  have hp := pairsR_len l
  have hn := numsAll_len (pairsR l)
  have hc : Ev (fun k => headgateref04_Nums.f k (pairsR l)) (refNums (pairsR l)) := Ev.congr (f := fun _ => some _) (fun k => if_pos ⟨by omega, pairsR_in l h3⟩) (Ev.now _)
  unfold refNums at hc
  rw [if_neg (by omega)] at hc
  exact refPack_loop l h2 _ hc l.length 0 [] (by omega) rfl (by rw [List.drop_zero]; rfl)
theorem unp_snoc (n : List Int) : ∀ (i : Nat), 2 * i + 1 < n.length → unp (n.take (2 * (i + 1))) = unp (n.take (2 * i)) ++ [⟨rd n (2 * (i : Int)), rd n (2 * (i : Int) + 1)⟩] := by
  have key : ∀ (i : Nat) (n : List Int), 2 * i + 1 < n.length → unp (n.take (2 * (i + 1))) = unp (n.take (2 * i)) ++ [⟨n.getD (2 * i) 0, n.getD (2 * i + 1) 0⟩] := by
    intro i
    induction i with
    | zero =>
      intro n hn
      match n, hn with
      | a :: b :: r, _ => rfl
    | succ i ih =>
      intro n hn
      match n, hn with
      | a :: b :: r, hn =>
        simp only [List.length_cons] at hn
        have := ih r (by omega)
        rw [show 2 * (i + 1 + 1) = 2 * (i + 1) + 1 + 1 by omega, show 2 * (i + 1) = 2 * i + 1 + 1 by omega]
        rw [show 2 * i + 1 + 1 = 2 * (i + 1) by omega]
        simp only [List.take_succ_cons, unp]
        rw [this]
        rw [show 2 * (i + 1) = 2 * i + 1 + 1 by omega]
        simp only [List.take_succ_cons, unp, List.cons_append, List.getD_cons_succ]
  intro i hi
  have := key i n hi
  unfold rd
  rw [show (2 * (i : Int)).toNat = 2 * i by omega, show (2 * (i : Int) + 1).toNat = 2 * i + 1 by omega]
  exact this
def unR (r : List Int × Int) : List Rg × Int := if r.2 = 0 ∧ r.1.length % 2 = 0 ∧ rightR (unp r.1) = true then (unp r.1, 0) else ([], 80)
theorem offsUn_loop (n : List Int) (hn : n.length ≤ 1000000) (he : n.length % 2 = 0) : ∀ (d i : Nat), i + d = n.length / 2 →
    Ev (fun k => offs_Unpack.l0 k n (unp (n.take (2 * i))) ((n.length / 2 : Nat) : Int) (i : Int)) (if rightR (unp n) = true then (unp n, 0) else ([], 80)) := by
  intro d
  induction d with
  | zero =>
    intro i hi
    rw [List.take_of_length_le (by omega)]
    have hl := unp_len n
    refine Ev.step (f := fun k => (offs_Check.f k (unp n)).bind fun t146 => (if t146 = 0 then (some (unp n, 0)) else (some ([], 80)))) (fun k => ?_) (Ev.bind (Check_ev (unp n) (by omega)) ?_)
    · simp only [offs_Unpack.l0]
      rw [if_neg (by omega)]
    · by_cases hr : rightR (unp n) = true
      · simp only [if_pos hr]
        exact Ev.now _
      · simp only [if_neg hr]
        exact Ev.now _
  | succ d ih =>
    intro i hi
    have hs := unp_snoc n i (by omega)
    have h2 := ih (i + 1) (by omega)
    have e1 : wrap64 (2 * (i : Int)) = 2 * (i : Int) := wrap_in (by unfold in64; omega)
    have e2 : wrap64 (2 * (i : Int) + 1) = 2 * (i : Int) + 1 := wrap_in (by unfold in64; omega)
    have e3 : wrap64 ((i : Int) + 1) = ((i + 1 : Nat) : Int) := by
      have h : wrap64 ((i : Int) + 1) = (i : Int) + 1 := wrap_in (by unfold in64; omega)
      rw [h]
      omega
    have hl := unp_len (n.take (2 * i))
    rw [List.length_take] at hl
    rw [hs] at h2
    refine Ev.step (fun k => ?_) h2
    simp only [offs_Unpack.l0]
    rw [e1, e2, e3, if_pos (by omega), if_pos (by omega), if_pos (by omega), if_pos (by omega), if_pos (by omega), if_pos (by omega)]
theorem offsUn_ev (b : List Int) (hb : b.length ≤ 1000000) (hlen : (readI b).1.length ≤ 1000000) : Ev (fun k => offs_Unpack.f k b) (unR (readI b)) := by
  unfold offs_Unpack.f
  refine Ev.bind (Ev.congr (f := fun _ => some (readI b)) (fun k => if_pos (by omega)) (Ev.now _)) ?_
  generalize readI b = r at hlen ⊢
  obtain ⟨n, e⟩ := r
  simp only [unR] at hlen ⊢
  by_cases he : e = 0
  · simp only [he, if_true, true_and]
    by_cases h2 : n.length % 2 = 0
    · have hb : (((n.length : Int) % 2) == 1) = false := by simp; omega
      rw [hb]
      have h := offsUn_loop n hlen h2 (n.length / 2) 0 (by omega)
      have hx : (if n.length % 2 = 0 ∧ rightR (unp n) = true then (unp n, (0 : Int)) else ([], 80)) = (if rightR (unp n) = true then (unp n, 0) else ([], 80)) := by
        by_cases hr : rightR (unp n) = true
        · rw [if_pos ⟨h2, hr⟩, if_pos hr]
        · rw [if_neg (fun h => hr h.2), if_neg hr]
      rw [hx]
      refine Ev.step (fun k => ?_) h
      simp only [offs_Unpack.j0]
      have ew : wrap64 ((n.length : Int) / 2) = ((n.length / 2 : Nat) : Int) := by
        have h : wrap64 ((n.length : Int) / 2) = (n.length : Int) / 2 := wrap_in (by unfold in64; omega)
        rw [h]
        omega
      rw [if_neg (by simp), ew]
      rfl
    · have hb : (((n.length : Int) % 2) == 1) = true := by simp; omega
      rw [hb, if_neg (fun h => h2 h.1)]
      refine Ev.step (f := fun _ => some ([], 80)) (fun k => ?_) (Ev.now _)
      simp only [offs_Unpack.j0]
      rw [if_pos trivial]
  · rw [if_neg (show ¬ (e = 0 ∧ n.length % 2 = 0 ∧ rightR (unp n) = true) from fun h => he h.1)]
    simp only [if_neg he]
    refine Ev.step (f := fun _ => some ([], 80)) (fun k => ?_) (Ev.now _)
    simp only [offs_Unpack.j0]
    rw [if_pos trivial]
theorem refUn_loop (n : List Int) (hn : n.length ≤ 8) (he : n.length % 2 = 0) : ∀ (d i : Nat), i + d = n.length / 2 →
    Ev (fun k => headgateref08_Unpack.l0 k n (unp (n.take (2 * i))) ((2 * i : Nat) : Int)) (unp n, rightR (unp n)) := by
  intro d
  induction d with
  | zero =>
    intro i hi
    rw [List.take_of_length_le (by omega)]
    have hl := unp_len n
    refine Ev.step (f := fun k => (headgateref08_Right.f k (unp n)).bind fun t121 => (some (unp n, t121))) (fun k => ?_) (Ev.bind (Right_ev (unp n) (by omega)) (Ev.now _))
    simp only [headgateref08_Unpack.l0]
    rw [if_neg (by omega)]
  | succ d ih =>
    intro i hi
    have hs := unp_snoc n i (by omega)
    have h2 := ih (i + 1) (by omega)
    have e2 : wrap64 (((2 * i : Nat) : Int) + 1) = 2 * (i : Int) + 1 := by
      have h : wrap64 (((2 * i : Nat) : Int) + 1) = ((2 * i : Nat) : Int) + 1 := wrap_in (by unfold in64; omega)
      rw [h]
      omega
    have e3 : wrap64 (((2 * i : Nat) : Int) + 2) = ((2 * (i + 1) : Nat) : Int) := by
      have h : wrap64 (((2 * i : Nat) : Int) + 2) = ((2 * i : Nat) : Int) + 2 := wrap_in (by unfold in64; omega)
      rw [h]
      omega
    have hl := unp_len (n.take (2 * i))
    rw [List.length_take] at hl
    rw [hs] at h2
    have e0 : ((2 * i : Nat) : Int) = 2 * (i : Int) := by omega
    refine Ev.step (fun k => ?_) h2
    simp only [headgateref08_Unpack.l0]
    rw [e2, e3, if_pos (by omega), if_pos (by omega), if_pos (by omega), if_pos (by omega), if_pos (by omega), e0]
theorem refUn_ev (s : ByteArray) (hs : s.size ≤ 1000000) : ∃ want ok, Ev (fun k => headgateref08_Unpack.f k s) (want, ok) ∧ ((ok = true ∧ unR (readI (bytesOf s)) = (want, 0)) ∨ (ok = false ∧ unR (readI (bytesOf s)) = ([], 80))) := by
  have hu := refUnnums s hs
  unfold headgateref08_Unpack.f
  generalize readI (bytesOf s) = r at hu ⊢
  obtain ⟨n, e⟩ := r
  simp only at hu
  have bad : ∀ b : Bool, b = true → Ev (fun k => headgateref08_Unpack.j0 k n b) ([], false) := by
    intro b hb
    subst hb
    refine Ev.step (f := fun _ => some ([], false)) (fun k => ?_) (Ev.now _)
    simp only [headgateref08_Unpack.j0]
    rw [if_pos trivial]
  by_cases he : e = 0
  · have hd : decide (e = 0) = true := decide_eq_true he
    rw [hd] at hu
    by_cases h2 : n.length % 2 = 0
    · by_cases h8 : n.length > 8
      · refine ⟨[], false, Ev.bind hu (Ev.congr (fun k => if_pos rfl) (Ev.congr (fun k => if_pos (by simp; omega)) (bad _ (decide_eq_true (by simp; omega))))), .inr ⟨rfl, ?_⟩⟩
        unfold unR
        refine if_neg (fun h => ?_)
        have := (right_parts h.2.2).2.1
        rw [unp_len] at this
        simp only at this
        omega
      · have hj : Ev (fun k => headgateref08_Unpack.j0 k n (decide ((n.length : Int) > 8))) (unp n, rightR (unp n)) := by
          rw [decide_eq_false (by omega)]
          refine Ev.step (fun k => ?_) (refUn_loop n (by omega) h2 (n.length / 2) 0 (by omega))
          simp only [headgateref08_Unpack.j0]
          rw [if_neg (by simp)]
          rfl
        refine ⟨unp n, rightR (unp n), Ev.bind hu (Ev.congr (fun k => if_pos rfl) (Ev.congr (fun k => if_pos (by simp; omega)) hj)), ?_⟩
        unfold unR
        cases hr : rightR (unp n) with
        | true => exact .inl ⟨rfl, if_pos ⟨he, h2, rfl⟩⟩
        | false => exact .inr ⟨rfl, if_neg (fun h => absurd h.2.2 (by simp))⟩
    · refine ⟨[], false, Ev.bind hu (Ev.congr (fun k => if_pos rfl) (Ev.congr (fun k => if_neg (by simp; omega)) (bad _ rfl))), .inr ⟨rfl, ?_⟩⟩
      unfold unR
      exact if_neg (fun h => h2 h.2.1)
  · have hd : decide (e = 0) = false := decide_eq_false he
    rw [hd] at hu
    refine ⟨[], false, Ev.bind hu (Ev.congr (fun k => if_neg (by simp)) (bad _ rfl)), .inr ⟨rfl, ?_⟩⟩
    unfold unR
    exact if_neg (fun h => he h.1)
theorem same_loop (l : List Rg) (hl : l.length ≤ 9223372036854775806) : ∀ (d : Nat) (i : Int), 0 ≤ i → i + d = l.length → Ev (fun k => headgateref08_Same.l0 k l l i) true := by
  intro d
  induction d with
  | zero =>
    intro i h0 h1
    exact Ev.step (f := fun _ => some true) (fun k => by simp only [headgateref08_Same.l0]; rw [if_neg (by omega)]) (Ev.now _)
  | succ d ih =>
    intro i h0 h1
    have e2 : wrap64 (i + 1) = i + 1 := wrap_in (by unfold in64; omega)
    refine Ev.step (fun k => ?_) (ih (i + 1) (by omega) (by omega))
    simp only [headgateref08_Same.l0]
    rw [e2, if_pos (by omega), if_pos h0, if_pos (by omega), if_neg (by simp)]
theorem same_self (l : List Rg) (hl : l.length ≤ 9223372036854775806) : Ev (fun k => headgateref08_Same.f k l l) true :=
  Ev.congr (fun k => if_pos rfl) (same_loop l hl l.length 0 (by omega) (by omega))
theorem offsBack (l : List Rg) (h : rightR l = true) : Ev (fun k => offs_Unpack.f k (numsAll (pairsR l))) (l, 0) := by
  obtain ⟨h1, h2, h3⟩ := right_parts h
  have hp := pairsR_len l
  have hn := numsAll_len (pairsR l)
  have hr := readI_back (pairsR l) (pairsR_in l h3) (by omega)
  have hu := offsUn_ev (numsAll (pairsR l)) (by omega) (by rw [hr]; simp only; omega)
  rw [hr] at hu
  unfold unR at hu
  simp only at hu
  rw [if_pos ⟨trivial, by omega, by rw [unp_pairs]; exact h⟩, unp_pairs] at hu
  exact hu
end Go.Proofs.Ytgihecpobichbaa.Q
