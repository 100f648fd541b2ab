/- The number at the beginning of some bytes: the package's and the document's are the same. -/
import Derived.Test.YtgihecpobichbaaCodeA
import Derived.Lib.VarintBits
namespace Go.Proofs.Ytgihecpobichbaa.Q
open Go.RowKit Go.Proofs.YtgihecpobichbaaW.PrintWords Go.Proofs.YtgihecpobichbaaW.PrintLast Go.Proofs.YtgihecpobichbaaW.PrintMore
set_option linter.unusedVariables false
set_option linter.unusedSimpArgs false

theorem and_fin : ∀ x : Fin 256, bits .and .u8 ((x.val : Nat) : Int) 127 = ((x.val % 128 : Nat) : Int) := by decide +kernel
theorem and_127 (x : Int) (h0 : 0 ≤ x) (h1 : x < 256) : bits .and .u8 x 127 = x % 128 := by
  obtain ⟨n, rfl⟩ := Int.eq_ofNat_of_zero_le h0
  have := and_fin ⟨n, by omega⟩
  simp only at this
  rw [this]
  omega
theorem wrap_u (x : Int) (h0 : 0 ≤ x) (h1 : x < 18446744073709551616) : IntKind.u64.wrap x = x := by
  show x % 18446744073709551616 = x
  omega
theorem unAdd_eq (i : Nat) (hi : i ≤ 9) (n c : Int) (h0 : 0 ≤ n) (h1 : n < 2 ^ (7 * i)) (c0 : 0 ≤ c) (c1 : c ≤ 255) (h9 : i = 9 → c ≤ 1) :
    unAdd i n c = n + (c % 128) * 2 ^ (7 * i) ∧ n + (c % 128) * 2 ^ (7 * i) < 2 ^ (7 * (i + 1)) ∧ n + (c % 128) * 2 ^ (7 * i) < 18446744073709551616 ∧ (c % 128) * 2 ^ (7 * i) < 18446744073709551616 := by
  unfold unAdd shl
  rw [and_127 c c0 (by omega), wrap_u (c % 128) (by omega) (by omega)]
  rcases (show i = 0 ∨ i = 1 ∨ i = 2 ∨ i = 3 ∨ i = 4 ∨ i = 5 ∨ i = 6 ∨ i = 7 ∨ i = 8 ∨ i = 9 by omega) with rfl | rfl | rfl | rfl | rfl | rfl | rfl | rfl | rfl | rfl
  all_goals
    simp only [show (min (7 * ((0 : Nat) : Int)).toNat IntKind.u64.bits) = 0 from rfl, show (min (7 * ((1 : Nat) : Int)).toNat IntKind.u64.bits) = 7 from rfl, show (min (7 * ((2 : Nat) : Int)).toNat IntKind.u64.bits) = 14 from rfl, show (min (7 * ((3 : Nat) : Int)).toNat IntKind.u64.bits) = 21 from rfl, show (min (7 * ((4 : Nat) : Int)).toNat IntKind.u64.bits) = 28 from rfl, show (min (7 * ((5 : Nat) : Int)).toNat IntKind.u64.bits) = 35 from rfl, show (min (7 * ((6 : Nat) : Int)).toNat IntKind.u64.bits) = 42 from rfl, show (min (7 * ((7 : Nat) : Int)).toNat IntKind.u64.bits) = 49 from rfl, show (min (7 * ((8 : Nat) : Int)).toNat IntKind.u64.bits) = 56 from rfl, show (min (7 * ((9 : Nat) : Int)).toNat IntKind.u64.bits) = 63 from rfl]
    simp only [Nat.reduceMul, Nat.reduceAdd, Int.reducePow, Nat.mul_zero, Int.pow_zero] at h1 ⊢
    refine ⟨?_, by omega, by omega, by omega⟩
    rw [wrap_u _ (by omega) (by omega)]
  · exact u64_orv0 n _ h0 h1 (by omega) (by omega) (by omega)
  · exact u64_orv7 n _ h0 h1 (by omega) (by omega) (by omega)
  · exact u64_orv14 n _ h0 h1 (by omega) (by omega) (by omega)
  · exact u64_orv21 n _ h0 h1 (by omega) (by omega) (by omega)
  · exact u64_orv28 n _ h0 h1 (by omega) (by omega) (by omega)
  · exact u64_orv35 n _ h0 h1 (by omega) (by omega) (by omega)
  · exact u64_orv42 n _ h0 h1 (by omega) (by omega) (by omega)
  · exact u64_orv49 n _ h0 h1 (by omega) (by omega) (by omega)
  · exact u64_orv56 n _ h0 h1 (by omega) (by omega) (by omega)
  · exact u64_orv63 n _ h0 h1 (by omega) (by omega) (by omega)
def refOf (r : Int × Int × Int) : Int × Int := if r.2.2 = 0 then (r.1, r.2.1) else (0, -1)
theorem ref_val (i : Nat) (hi : i ≤ 9) (n c : Int) (h0 : 0 ≤ n) (h1 : n < 2 ^ (7 * i)) (c0 : 0 ≤ c) (c1 : c ≤ 255) (h9 : i = 9 → c ≤ 1) : IntKind.u64.wrap (n + shl .u64 (Int.tmod c 128) (7 * (i : Int))) = unAdd i n c := by
  obtain ⟨e1, e2, e3, e4⟩ := unAdd_eq i hi n c h0 h1 c0 c1 h9
  rw [e1]
  unfold shl
  have hb : IntKind.u64.bits = 64 := rfl
  have ht : Int.tmod c 128 = c % 128 := Int.tmod_eq_emod_of_nonneg c0
  have hm : min (7 * (i : Int)).toNat IntKind.u64.bits = 7 * i := by rw [hb]; omega
  have hp : 0 ≤ (c % 128) * 2 ^ (7 * i) := Int.mul_nonneg (by omega) (Int.pow_nonneg (by omega))
  rw [ht, hm, wrap_u _ hp e4, wrap_u _ (by omega) e3]
theorem ref_un_step (s : ByteArray) (hs : s.size ≤ 2000) (i : Nat) (n : Int) (hi : i ≤ 9) (h0 : 0 ≤ n) (h1 : n < 2 ^ (7 * i))
    (ih : i < 9 → ∀ n' : Int, 0 ≤ n' → n' < 2 ^ (7 * (i + 1)) → Ev (fun k => headgateref04_Unnum.l0 k s 0 n' ((i + 1 : Nat) : Int)) (refOf (unS (i + 1) n' ((bytesOf s).drop (i + 1))))) :
    Ev (fun k => headgateref04_Unnum.l0 k s 0 n (i : Int)) (refOf (unS i n ((bytesOf s).drop i))) := by
  have hl := bytesOf_length s
  have e1 : wrap64 (0 + (i : Int)) = (i : Int) := by
    rw [Int.zero_add]
    exact wrap_in (by unfold in64; omega)
  have e2 : wrap64 (7 * (i : Int)) = 7 * (i : Int) := wrap_in (by unfold in64; omega)
  have e3 : IntKind.u64.wrap (7 * (i : Int)) = 7 * (i : Int) := wrap_u _ (by omega) (by omega)
  have e4 : wrap64 ((i : Int) + 1) = ((i + 1 : Nat) : Int) := by
    have h : wrap64 ((i : Int) + 1) = (i : Int) + 1 := wrap_in (by unfold in64; omega)
    rw [h]
    omega
  by_cases hsz : i < s.size
  · have hd := rd_drop (bytesOf s) (i : Int) (by omega) (by omega)
    rw [show ((i : Int) + 1).toNat = i + 1 by omega, Int.toNat_natCast, rd_bytesOf] at hd
    rw [hd]
    have hr := bt_range s (i : Int)
    have e5 : IntKind.u64.wrap (bt s (i : Int)) = bt s (i : Int) := wrap_u _ hr.1 (by omega)
    obtain ⟨c, hc⟩ : ∃ c, bt s (i : Int) = c := ⟨_, rfl⟩
    rw [hc] at hr e5 ⊢
    have hj2 : ∀ b : Bool, b = (i == 9 && decide (c > 1)) → Ev (fun k => headgateref04_Unnum.j2 k s 0 n (i : Int) c b) (refOf (unS i n (c :: (bytesOf s).drop (i + 1)))) := by
      intro b hb
      unfold unS
      by_cases hB : i = 9 ∧ c > 1
      · have hu : unBad i c = true := by unfold unBad; simp [hB.1, hB.2]
        have hbt : b = true := by rw [hb]; simp [hB.1, hB.2]
        subst hbt
        rw [if_pos hu]
        exact Ev.step (f := fun _ => some (0, -1)) (fun k => by simp only [headgateref04_Unnum.j2]; rw [if_pos trivial]) (Ev.now _)
      · have h9 : i = 9 → c ≤ 1 := fun h => by
          rcases Int.lt_or_le 1 c with h' | h'
          · exact absurd ⟨h, h'⟩ hB
          · exact h'
        have hb9 : (i == 9 && decide (c > 1)) = false := by
          by_cases h : i = 9
          · have := h9 h
            simp [h]; omega
          · simp [h]
        rw [hb9] at hb
        subst hb
        have hv := ref_val i hi n c h0 h1 hr.1 hr.2 h9
        obtain ⟨a1, a2, a3, a4⟩ := unAdd_eq i hi n c h0 h1 hr.1 hr.2 h9
        by_cases hlt : c < 128
        · by_cases hz : i > 0 ∧ c = 0
          · have hu : unBad i c = true := by unfold unBad; rw [hb9]; simp [hz.2]; omega
            rw [if_pos hu]
            refine Ev.step (f := fun _ => some (0, -1)) (fun k => ?_) (Ev.now _)
            simp only [headgateref04_Unnum.j2]
            rw [if_neg (by simp), e2, e3, if_pos (by omega), if_pos hlt, if_pos (by omega), if_pos hz.2]
          · have hu : ¬ unBad i c = true := by
              unfold unBad
              rw [hb9]
              simp
              omega
            rw [if_neg hu, if_pos hlt]
            refine Ev.step (f := fun _ => some (unAdd i n c, (i : Int) + 1)) (fun k => ?_) (Ev.now _)
            simp only [headgateref04_Unnum.j2]
            rw [if_neg (by simp), e2, e3, if_pos (by omega), if_pos hlt, e1, e4, hv]
            have e6 : ((i + 1 : Nat) : Int) = (i : Int) + 1 := by omega
            rw [e6]
            by_cases hp : (i : Int) > 0
            · rw [if_pos hp, if_neg (by omega)]
            · rw [if_neg hp]
        · have hu : ¬ unBad i c = true := by
            unfold unBad
            rw [hb9]
            simp
            omega
          rw [if_neg hu, if_neg hlt]
          have h9' : i < 9 := by omega
          have hp : 0 ≤ (c % 128) * 2 ^ (7 * i) := Int.mul_nonneg (by omega) (Int.pow_nonneg (by omega))
          refine Ev.step (fun k => ?_) (ih h9' (unAdd i n c) (by rw [a1]; omega) (by rw [a1]; exact a2))
          simp only [headgateref04_Unnum.j2]
          rw [if_neg (by simp), e2, e3, if_pos (by omega), if_neg hlt, hv, e4]
    refine Ev.step (f := fun k => headgateref04_Unnum.j1 k s 0 n (i : Int) false) (fun k => ?_) (Ev.step (fun k => ?_) (hj2 _ rfl))
    · simp only [headgateref04_Unnum.l0]
      rw [if_pos (by omega), if_neg (by omega), e1, decide_eq_false (by omega)]
    · simp only [headgateref04_Unnum.j1]
      rw [if_neg (by simp), e1, if_pos (by omega), if_pos (by omega), hc, e5]
      by_cases h9 : (i : Int) = 9
      · have h9' : i = 9 := by omega
        subst h9'
        rw [if_pos h9]
        rfl
      · rw [if_neg h9]
        have h9' : (i == 9) = false := by simp; omega
        rw [h9', Bool.false_and]
  · rw [List.drop_of_length_le (by omega)]
    refine Ev.step (f := fun k => headgateref04_Unnum.j1 k s 0 n (i : Int) true) (fun k => ?_) (Ev.step (f := fun _ => some (0, -1)) (fun k => ?_) (Ev.now _))
    · simp only [headgateref04_Unnum.l0]
      rw [if_pos (by omega), if_neg (by omega), e1, decide_eq_true (by omega)]
    · simp only [headgateref04_Unnum.j1]
      rw [if_pos trivial]
theorem ref_un_ev (s : ByteArray) (hs : s.size ≤ 2000) : ∀ (d i : Nat) (n : Int), i + d = 9 → 0 ≤ n → n < 2 ^ (7 * i) → Ev (fun k => headgateref04_Unnum.l0 k s 0 n (i : Int)) (refOf (unS i n ((bytesOf s).drop i))) := by
  intro d
  induction d with
  | zero =>
    intro i n hi h0 h1
    obtain rfl : i = 9 := by omega
    exact ref_un_step s hs 9 n (by omega) h0 h1 (fun h => absurd h (by omega))
  | succ d ih =>
    intro i n hi h0 h1
    exact ref_un_step s hs i n (by omega) h0 h1 (fun h n' h0' h1' => ih (i + 1) n' (by omega) h0' h1')
theorem ref_un (s : ByteArray) (hs : s.size ≤ 2000) : Ev (fun k => headgateref04_Unnum.f k s 0) (refOf (un (bytesOf s))) := ref_un_ev s hs 9 0 0 rfl (by omega) (by decide)
end Go.Proofs.Ytgihecpobichbaa.Q
