/- Ints as bytes and back: the package's and the document's, in plain words: no program in it. -/
import Derived.Test.YtgihecpobichbaaVarL
import Derived.Test.YtgihecpobichbaaHUnnums
import Derived.Test.YtgihecpobichbaaRefNums
namespace Go.Proofs.Ytgihecpobichbaa.Q
open Go.RowKit Go.Proofs.YtgihecpobichbaaW.PrintWords Go.Proofs.YtgihecpobichbaaW.PrintLast Go.Proofs.YtgihecpobichbaaW.PrintMore
set_option linter.unusedVariables false
set_option linter.unusedSimpArgs false

theorem numsB_flat : ∀ (l : List Int), numsB l = flat encI l
  | [] => rfl
  | n :: l => by
    show numR 9 (zig n) ++ numsB l = encI n ++ flat encI l
    rw [numsB_flat l]
    rfl
theorem encI_pos (a : Int) : 0 < (encI a).length := numR_pos _ _
theorem readI_X (l : List Int) : readI l = readX itemI l := by
  unfold readI readX
  cases readItems itemI l <;> rfl
theorem readI_back (l : List Int) (hin : ∀ x ∈ l, in64 x) (hl : (numsAll l).length ≤ 16777216) : readI (numsAll l) = (l, 0) := by
  unfold numsAll at hl ⊢
  rw [numsB_flat] at hl ⊢
  rw [readI_X]
  exact readX_back itemI encI encI_pos l hl (fun a ha r => itemI_back (hin a ha) r)
theorem readI_only (b l : List Int) (hb : Bytes b) (h : readI b = (l, 0)) : b = numsAll l ∧ (∀ x ∈ l, in64 x) ∧ b.length ≤ 16777216 := by
  unfold numsAll
  rw [numsB_flat]
  exact readX_only itemI encI in64 itemI_only b l hb (readI_X b ▸ h)
/-- What the document's reader comes to, from a place on. -/
def finX {α : Type} (N : Nat) (xs : List α) (r : Option (List α × List Int)) : List α × Bool :=
  match r with
  | some (ys, l') => if l'.length = 0 ∧ N ≤ 16777216 then (xs ++ ys, true) else ([], false)
  | none => ([], false)
theorem finX_readX {α : Type} (item : List Int → Option (α × List Int)) (hl : ∀ l a r, item l = some (a, r) → r.length < l.length) (b : List Int) :
    finX b.length [] (if (un b).2.2 = 0 then readN item (un b).1.toNat (b.drop (un b).2.1.toNat) else none) = ((readX item b).1, decide ((readX item b).2 = 0)) := by
  unfold readX readItems
  by_cases h : (un b).2.2 = 0
  · rw [if_pos h, if_pos h]
    by_cases h2 : (un b).1 > ((b.drop (un b).2.1.toNat).length : Int)
    · rw [if_pos h2, readN_short item hl _ _ (by omega)]
      rfl
    · rw [if_neg h2]
      cases hr : readN item (un b).1.toNat (b.drop (un b).2.1.toNat) with
      | none => rfl
      | some p =>
        obtain ⟨ys, l'⟩ := p
        simp only [finX]
        by_cases h3 : l'.length > 0 ∨ b.length > 16777216
        · simp only [if_pos h3]
          rw [if_neg (by omega)]
          rfl
        · simp only [if_neg h3]
          rw [if_pos (by omega)]
          rfl
  · rw [if_neg h, if_neg h]
    rfl
theorem refUnint_at (s : ByteArray) (hs : s.size ≤ 1000000) (p : Nat) (hp : p ≤ s.size) :
    Ev (fun k => headgateref04_Unint.f k s (p : Int)) (match itemI ((bytesOf s).drop p) with | some (x, l') => (x, (s.size : Int) - l'.length) | none => (0, -1)) := by
  have hl := bytesOf_length s
  unfold headgateref04_Unint.f
  refine Ev.bind (ref_at_nat s hs p hp) ?_
  unfold refOfA itemI
  by_cases h : (un ((bytesOf s).drop p)).2.2 = 0
  · rw [if_pos h, if_pos h]
    obtain ⟨n, k, hu⟩ : ∃ n k, un ((bytesOf s).drop p) = (n, k, 0) := ⟨(un ((bytesOf s).drop p)).1, (un ((bytesOf s).drop p)).2.1, by rw [← h]⟩
    have hpos := un_pos h
    obtain ⟨r, e1, e2, e3, e4⟩ := un_only (fun x hx => bytesOf_range s x (List.mem_of_mem_drop hx)) hu
    rw [hu] at hpos ⊢
    rw [List.length_drop] at hpos
    have hk : (s.size : Int) - (((bytesOf s).drop p).drop k.toNat).length = (p : Int) + k := by
      rw [List.length_drop, List.length_drop]
      simp only at hpos
      omega
    simp only [hk]
    rw [unz_val e3 e4]
    unfold zag
    have t1 : Int.tmod n 2 = n % 2 := Int.tmod_eq_emod_of_nonneg e3
    have t2 : Int.tdiv n 2 = n / 2 := Int.tdiv_eq_ediv_of_nonneg e3
    have t3 : IntKind.u64.wrap (n / 2) = n / 2 := wrap_u _ (by omega) (by omega)
    have t4 : wrap64 (n / 2) = n / 2 := wrap_in (by unfold in64; omega)
    have t5 : wrap64 (-(n / 2)) = -(n / 2) := wrap_in (by unfold in64; omega)
    have t6 : wrap64 (-(n / 2) - 1) = -(n / 2) - 1 := wrap_in (by unfold in64; omega)
    rw [t1, t2, t3, t4, t5, t6]
    by_cases ho : n % 2 = 1
    · rw [if_pos ho, if_pos ho]
      exact Ev.now _
    · rw [if_neg ho, if_neg ho]
      exact Ev.now _
  · rw [if_neg h, if_neg h]
    exact Ev.congr (f := fun _ => some ((0 : Int), (-1 : Int))) (fun k => by kernel_rfl) (Ev.now _)
theorem refUnnums_loop (s : ByteArray) (hs : s.size ≤ 1000000) (n : Int) (hn : n < 18446744073709551616) : ∀ (m p d : Nat) (xs : List Int) (i : Int), p ≤ s.size → s.size - p ≤ m → 0 ≤ i → n = i + d → xs.length ≤ p →
    Ev (fun k => headgateref04_Unnums.l0 k s n (p : Int) xs i) (finX s.size xs (readN itemI d ((bytesOf s).drop p))) := by
  have hl := bytesOf_length s
  have hj : ∀ (p : Int) (xs : List Int), Ev (fun k => headgateref04_Unnums.j1 k s p xs) (if p = (s.size : Int) then (if (s.size : Int) > 16777216 then ([], false) else (xs, true)) else ([], false)) := by
    intro p xs
    refine Ev.step (f := fun _ => some _) (fun k => ?_) (Ev.now _)
    simp only [headgateref04_Unnums.j1]
    split <;> (try split) <;> rfl
  intro m
  induction m with
  | zero =>
    intro p d xs i hp hm hi hd hx
    obtain rfl : p = s.size := by omega
    rw [List.drop_of_length_le (by omega)]
    cases d with
    | zero =>
      have h := hj (s.size : Int) xs
      rw [if_pos rfl, if_neg (by omega)] at h
      refine Ev.step (f := fun k => headgateref04_Unnums.j1 k s (s.size : Int) xs) (fun k => ?_) ?_
      · simp only [headgateref04_Unnums.l0]
        rw [if_neg (by omega)]
      · simp only [readN, finX, List.length_nil]
        rw [if_pos ⟨trivial, by omega⟩, List.append_nil]
        exact h
    | succ d =>
      have hI := refUnint_at s hs s.size (Nat.le_refl _)
      rw [List.drop_of_length_le (by omega)] at hI
      have hnone : itemI [] = none := rfl
      simp only [hnone] at hI
      have hr : readN itemI (d + 1) [] = none := by simp only [readN, hnone, Option.bind_none]
      rw [hr]
      have h2 : Ev (fun k => headgateref04_Unnums.l0 k s n (-1) (xs ++ [0]) (IntKind.u64.wrap (i + 1))) (finX s.size xs none) := by
        have h := hj (-1) (xs ++ [0])
        rw [if_neg (by omega)] at h
        refine Ev.step (fun k => ?_) h
        simp only [headgateref04_Unnums.l0]
        rw [if_neg (show ¬ (-1 : Int) ≥ 0 by omega)]
        split <;> rfl
      refine Ev.step (fun k => ?_) (Ev.bind (f := fun k (y : Int × Int) => headgateref04_Unnums.l0 k s n y.2 (xs ++ [y.1]) (IntKind.u64.wrap (i + 1))) hI h2)
      simp only [headgateref04_Unnums.l0]
      rw [if_pos (by omega), if_pos (by omega)]
      congr 1
      funext y
      rw [if_pos (by omega)]
  | succ m ih =>
    intro p d xs i hp hm hi hd hx
    cases d with
    | zero =>
      have h := hj (p : Int) xs
      refine Ev.step (f := fun k => headgateref04_Unnums.j1 k s (p : Int) xs) (fun k => ?_) ?_
      · simp only [headgateref04_Unnums.l0]
        rw [if_neg (by omega)]
      · simp only [readN, finX, List.length_drop, hl]
        rw [List.append_nil]
        by_cases hq : p = s.size
        · rw [if_pos (by omega), if_neg (by omega)] at h
          rw [if_pos (by omega)]
          exact h
        · rw [if_neg (by omega)] at h
          rw [if_neg (by omega)]
          exact h
    | succ d =>
      have hI := refUnint_at s hs p hp
      have hw : IntKind.u64.wrap (i + 1) = i + 1 := wrap_u _ (by omega) (by omega)
      cases hit : itemI ((bytesOf s).drop p) with
      | none =>
        rw [hit] at hI
        simp only at hI
        have hr : readN itemI (d + 1) ((bytesOf s).drop p) = none := by simp only [readN, hit, Option.bind_none]
        rw [hr]
        have h2 : Ev (fun k => headgateref04_Unnums.l0 k s n (-1) (xs ++ [0]) (IntKind.u64.wrap (i + 1))) (finX s.size xs none) := by
          have h := hj (-1) (xs ++ [0])
          rw [if_neg (by omega)] at h
          refine Ev.step (fun k => ?_) h
          simp only [headgateref04_Unnums.l0]
          rw [if_neg (show ¬ (-1 : Int) ≥ 0 by omega)]
          split <;> rfl
        refine Ev.step (fun k => ?_) (Ev.bind (f := fun k (y : Int × Int) => headgateref04_Unnums.l0 k s n y.2 (xs ++ [y.1]) (IntKind.u64.wrap (i + 1))) hI h2)
        simp only [headgateref04_Unnums.l0]
        rw [if_pos (by omega), if_pos (by omega)]
        congr 1
        funext y
        rw [if_pos (by omega)]
      | some q =>
        obtain ⟨x, l'⟩ := q
        rw [hit] at hI
        simp only at hI
        have hless := itemI_less _ _ _ hit
        obtain ⟨e1, e2⟩ := itemI_only _ _ _ (fun x hx => bytesOf_range s x (List.mem_of_mem_drop hx)) hit
        rw [List.length_drop] at hless
        have hdr : l' = (bytesOf s).drop (s.size - l'.length) := by
          have h3 : (bytesOf s).drop (p + (encI x).length) = l' := by
            rw [← List.drop_drop, e1]
            simp
          have h4 : (encI x).length + l'.length = s.size - p := by
            have := congrArg List.length e1
            rw [List.length_drop, List.length_append] at this
            omega
          have h5 : p + (encI x).length = s.size - l'.length := by omega
          rw [← h5]
          exact h3.symm
        have hcast : (s.size : Int) - (l'.length : Int) = ((s.size - l'.length : Nat) : Int) := by omega
        rw [hcast] at hI
        obtain ⟨p2, hp2⟩ : ∃ p2, p2 = s.size - l'.length := ⟨_, rfl⟩
        rw [← hp2] at hI hdr
        have h2 := ih p2 d (xs ++ [x]) (i + 1) (by omega) (by omega) (by omega) (by omega) (by rw [List.length_append]; simp; omega)
        rw [← hdr] at h2
        have hfin : finX s.size (xs ++ [x]) (readN itemI d l') = finX s.size xs (readN itemI (d + 1) ((bytesOf s).drop p)) := by
          simp only [readN, hit, Option.bind_some]
          cases readN itemI d l' with
          | none => rfl
          | some q =>
            simp only [Option.map_some, finX]
            split <;> simp
        rw [hfin, ← hw] at h2
        refine Ev.step (fun k => ?_) (Ev.bind (f := fun k (y : Int × Int) => headgateref04_Unnums.l0 k s n y.2 (xs ++ [y.1]) (IntKind.u64.wrap (i + 1))) hI h2)
        simp only [headgateref04_Unnums.l0]
        rw [if_pos (by omega), if_pos (by omega)]
        congr 1
        funext y
        rw [if_pos (by omega)]
theorem refUnnums (s : ByteArray) (hs : s.size ≤ 1000000) : Ev (fun k => headgateref04_Unnums.f k s) ((readI (bytesOf s)).1, decide ((readI (bytesOf s)).2 = 0)) := by
  have hl := bytesOf_length s
  unfold headgateref04_Unnums.f
  rw [readI_X, ← finX_readX itemI itemI_less, hl]
  refine Ev.bind (ref_at_nat s hs 0 (by omega)) ?_
  rw [List.drop_zero]
  unfold refOfA
  by_cases h : (un (bytesOf s)).2.2 = 0
  · rw [if_pos h, if_pos h]
    obtain ⟨n, k, hu⟩ : ∃ n k, un (bytesOf s) = (n, k, 0) := ⟨(un (bytesOf s)).1, (un (bytesOf s)).2.1, by rw [← h]⟩
    have hpos := un_pos h
    obtain ⟨r, e1, e2, e3, e4⟩ := un_only (bytesOf_range s) hu
    rw [hu] at hpos ⊢
    simp only at hpos ⊢
    have h2 := refUnnums_loop s hs n e4 s.size k.toNat n.toNat [] 0 (by omega) (by omega) (by omega) (by omega) (by simp)
    rw [show ((k.toNat : Nat) : Int) = ((0 : Nat) : Int) + k by omega] at h2
    exact h2
  · rw [if_neg h, if_neg h]
    simp only
    refine Ev.step (f := fun k => headgateref04_Unnums.j1 k s (-1) []) (fun k => ?_) (Ev.step (f := fun _ => some ([], false)) (fun k => ?_) (Ev.now _))
    · simp only [headgateref04_Unnums.l0]
      rw [if_neg (by omega)]
    · simp only [headgateref04_Unnums.j1]
      rw [if_neg (by omega)]
/-- What the package tells of ints. -/
def codeNums (l : List Int) : List Int × Int := if (numsAll l).length > 16777216 then ([], 42) else (numsAll l, 0)
theorem codeNums_loop (l : List Int) (hl : l.length ≤ 1000000) (hin : ∀ x ∈ l, in64 x) : ∀ (d i : Nat) (xs : List Int), i + d = l.length → xs.length ≤ 10 * (i + 1) →
    Ev (fun k => code_List_int64.l0 k xs l (l.length : Int) (i : Int)) (xs ++ numsB (l.drop i)) := by
  intro d
  induction d with
  | zero =>
    intro i xs hi hx
    rw [List.drop_of_length_le (by omega)]
    refine Ev.step (f := fun _ => some (xs ++ [])) (fun k => ?_) (Ev.now _)
    simp only [code_List_int64.l0, List.append_nil]
    rw [if_neg (by omega)]
  | succ d ih =>
    intro i xs hi hx
    have hlt : i < l.length := by omega
    have hd := rd_drop l (i : Int) (by omega) (by omega)
    rw [show ((i : Int) + 1).toNat = i + 1 by omega, Int.toNat_natCast] at hd
    have hm := rd_mem l (i : Int) (by omega) (by omega)
    obtain ⟨n, hn⟩ : ∃ n, rd l (i : Int) = n := ⟨_, rfl⟩
    rw [hn] at hd hm
    have h64 := hin n hm
    have hz := zig_range h64
    have hlen := numR_len 9 (zig n)
    have h1 : Ev (fun k => code_Nums_1.f k n) (numR 9 (zig n)) := by
      unfold code_Nums_1.f
      rw [whole_zig h64]
      simp only [Option.bind_some]
      refine Ev.congr (f := fun k => code_Num.f k (zig n)) (fun k => ?_) (Ev.of (fun k => code_Num.mono _ k) (code_Num_eq (zig n) hz.1 hz.2 0))
      cases code_Num.f k (zig n) <;> rfl
    have hw : wrap64 ((i : Int) + 1) = ((i + 1 : Nat) : Int) := by
      have h : wrap64 ((i : Int) + 1) = (i : Int) + 1 := wrap_in (by unfold in64; omega)
      rw [h]
      omega
    have h2 := ih (i + 1) (xs ++ numR 9 (zig n)) (by omega) (by rw [List.length_append]; omega)
    rw [hd]
    have hfin : xs ++ numR 9 (zig n) ++ numsB (l.drop (i + 1)) = xs ++ numsB (n :: l.drop (i + 1)) := by
      rw [List.append_assoc]
      rfl
    rw [hfin] at h2
    refine Ev.step (fun k => ?_) (Ev.bind h1 (f := fun k y => if xs.length + y.length < 140737488355328 then code_List_int64.l0 k (xs ++ y) l (l.length : Int) (wrap64 ((i : Int) + 1)) else none) (by rw [hw]; exact Ev.congr (fun k => if_pos (by omega)) h2))
    simp only [code_List_int64.l0]
    rw [if_pos (by omega), if_pos (by omega), if_pos (by omega), hn]
theorem codeNums_ev (l : List Int) (hl : l.length ≤ 1000000) (hin : ∀ x ∈ l, in64 x) : Ev (fun k => code_Nums.f k l) (codeNums l) := by
  unfold code_Nums.f
  refine Ev.bind (a := numsAll l) ?_ ?_
  · unfold code_List_int64.f
    have hw : IntKind.u64.wrap (l.length : Int) = (l.length : Int) := wrap_u _ (by omega) (by omega)
    rw [hw]
    refine Ev.bind (Ev.of (fun k => code_Num.mono _ k) (code_Num_eq (l.length : Int) (by omega) (by omega) 0)) ?_
    have hlen := numR_len 9 (l.length : Int)
    have := codeNums_loop l hl hin l.length 0 (numR 9 (l.length : Int)) (by omega) (by omega)
    rw [List.drop_zero] at this
    exact this
  · unfold code_told.f codeNums
    by_cases h : (numsAll l).length > 16777216
    · rw [if_pos h, if_pos (by omega)]
      exact Ev.now _
    · rw [if_neg h, if_neg (by omega)]
      exact Ev.now _
theorem numsAll_bytes (l : List Int) (hl : l.length ≤ 1000000) (hin : ∀ x ∈ l, in64 x) : Bytes (numsAll l) := by
  unfold numsAll
  rw [numsB_flat]
  refine Bytes.app (numR_bytes 9 _ (by omega)) (flat_bytes encI l (fun a ha => ?_))
  exact numR_bytes 9 _ (zig_range (hin a ha)).1
theorem numsAll_len (l : List Int) : (numsAll l).length ≤ 10 * l.length + 10 := by
  unfold numsAll
  have h1 := numR_len 9 (l.length : Int)
  have h2 := numsB_len l
  rw [List.length_append]
  omega
end Go.Proofs.Ytgihecpobichbaa.Q
