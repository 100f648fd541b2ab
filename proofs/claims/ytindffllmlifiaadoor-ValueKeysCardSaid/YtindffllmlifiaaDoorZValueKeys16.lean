/- Keys stand as their rows do: in plain Lean. -/
import Derived.Test.YtindffllmlifiaaDoorZValueKeys8
import Derived.Test.YtindffllmlifiaaDoorZValueKeys15
namespace Go.Proofs.YtindffllmlifiaaDoor.Q
open Go.RowKit Go.Proofs.YtindffllmlifiaaDoorW.PrintWords Go.Proofs.YtindffllmlifiaaDoorW.PrintLast Go.Proofs.YtindffllmlifiaaDoorW.PrintMore
set_option linter.unusedVariables false
set_option linter.unusedSimpArgs false
/-- Which of two lists comes first, number by number. -/
def cmpL : List Int → List Int → Int
  | [], [] => 0
  | [], _ :: _ => -1
  | _ :: _, [] => 1
  | x :: a, y :: b => if x < y then -1 else if y < x then 1 else cmpL a b
theorem cmpL_lt {x y : Int} {a b : List Int} (h : x < y) : cmpL (x :: a) (y :: b) = -1 := if_pos h
theorem cmpL_eq (x : Int) (a b : List Int) : cmpL (x :: a) (x :: b) = cmpL a b := by
  show (if x < x then (-1 : Int) else if x < x then 1 else cmpL a b) = _
  rw [if_neg (by omega), if_neg (by omega)]
theorem cmpL_self : ∀ a : List Int, cmpL a a = 0
  | [] => rfl
  | x :: a => by rw [cmpL_eq, cmpL_self a]
theorem cmpL_pre : ∀ (p a b : List Int), cmpL (p ++ a) (p ++ b) = cmpL a b
  | [], _, _ => rfl
  | x :: p, a, b => by rw [List.cons_append, List.cons_append, cmpL_eq, cmpL_pre p a b]
theorem cmpL_anti : ∀ a b : List Int, cmpL b a = - cmpL a b
  | [], [] => rfl
  | [], _ :: _ => rfl
  | _ :: _, [] => rfl
  | x :: a, y :: b => by
    have h := cmpL_anti a b
    unfold cmpL
    by_cases h1 : x < y
    · rw [if_neg (by omega), if_pos h1, if_pos h1]
      rfl
    · by_cases h2 : y < x
      · rw [if_pos h2, if_neg h1, if_pos h2]
      · rw [if_neg h2, if_neg h1, if_neg h1, if_neg h2, h]
def toU (a : List Int) : List UInt8 := a.map fun x => x.toNat.toUInt8
/-- A number's bytes, the highest first, by what is left. -/
def beB : Nat → Int → List Int
  | 0, _ => []
  | k + 1, n => n / 256 ^ k :: beB k (n % 256 ^ k)
theorem eight_be (n : Int) (h0 : 0 ≤ n) (h1 : n < 18446744073709551616) : eightB n = beB 8 n := by
  simp only [eightB, beB, List.range, List.range.loop, List.map_cons, List.map_nil, Nat.reduceMul, Nat.reduceSub, Int.reducePow, List.cons.injEq, and_true]
  refine ⟨?_, ?_, ?_, ?_, ?_, ?_, ?_, ?_⟩ <;> omega
theorem beB_lt : ∀ (k : Nat) (n m : Int) (s t : List Int), 0 ≤ n → n < m → m < 256 ^ k → cmpL (beB k n ++ s) (beB k m ++ t) = -1
  | 0, n, m, s, t, h0, h1, h2 => by simp at h2; omega
  | k + 1, n, m, s, t, h0, h1, h2 => by
    have hP : (0 : Int) < 256 ^ k := Int.pow_pos (by omega)
    have hle : n / 256 ^ k ≤ m / 256 ^ k := Int.ediv_le_ediv hP (by omega)
    have en := Int.mul_ediv_add_emod n (256 ^ k)
    have em := Int.mul_ediv_add_emod m (256 ^ k)
    show cmpL (n / 256 ^ k :: (beB k (n % 256 ^ k) ++ s)) (m / 256 ^ k :: (beB k (m % 256 ^ k) ++ t)) = -1
    by_cases hq : n / 256 ^ k < m / 256 ^ k
    · exact cmpL_lt hq
    · have hqe : n / 256 ^ k = m / 256 ^ k := by omega
      rw [hqe, cmpL_eq]
      rw [hqe] at en
      exact beB_lt k _ _ s t (Int.emod_nonneg _ (by omega)) (by omega) (Int.emod_lt_of_pos _ hP)
/-- A text's bytes and its end keep the order. -/
def escL (l : List UInt8) : List Int := (escU l).map fun b => (b.toNat : Int)
theorem escL_cons (a : UInt8) (l : List UInt8) : escL (a :: l) = (if a = 0 then [0, 255] else [(a.toNat : Int)]) ++ escL l := by
  unfold escL escU
  rw [List.flatMap_cons, List.map_append]
  by_cases h : a = 0
  · rw [if_pos h, if_pos h]; rfl
  · rw [if_neg h, if_neg h]; rfl
theorem u8_pos {a : UInt8} (h : a ≠ 0) : 0 < (a.toNat : Int) := by
  have : a.toNat ≠ 0 := fun e => h (UInt8.toNat_inj.1 (by simpa using e))
  omega
theorem esc_lt : ∀ (u v : List UInt8) (s t : List Int), Lib.compareBytes u v = -1 → cmpL (escL u ++ ([0, 0] ++ s)) (escL v ++ ([0, 0] ++ t)) = -1
  | [], [], _, _, h => by simp [Lib.compareBytes] at h
  | [], y :: v, s, t, _ => by
    rw [escL_cons]
    show cmpL (0 :: 0 :: s) _ = -1
    by_cases hy : y = 0
    · rw [if_pos hy]
      show cmpL (0 :: 0 :: s) (0 :: 255 :: (escL v ++ ([0, 0] ++ t))) = -1
      rw [cmpL_eq]
      exact cmpL_lt (by decide)
    · rw [if_neg hy]
      exact cmpL_lt (u8_pos hy)
  | _ :: _, [], _, _, h => by simp [Lib.compareBytes] at h
  | x :: u, y :: v, s, t, h => by
    unfold Lib.compareBytes at h
    rw [escL_cons, escL_cons]
    by_cases h1 : x < y
    · have hy : y ≠ 0 := fun e => by subst e; simp [UInt8.lt_iff_toNat_lt] at h1
      rw [if_neg hy]
      have hxy : (x.toNat : Int) < y.toNat := by rw [UInt8.lt_iff_toNat_lt] at h1; omega
      by_cases hx : x = 0
      · rw [if_pos hx]
        exact cmpL_lt (u8_pos hy)
      · rw [if_neg hx]
        exact cmpL_lt hxy
    · rw [if_neg h1] at h
      by_cases h2 : y < x
      · rw [if_pos h2] at h
        exact absurd h (by decide)
      · rw [if_neg h2] at h
        have e : x = y := by
          rw [UInt8.lt_iff_toNat_lt] at h1 h2
          exact UInt8.toNat_inj.1 (by omega)
        subst e
        rw [List.append_assoc, List.append_assoc, cmpL_pre]
        exact esc_lt u v s t h
theorem escB_eq (s : ByteArray) : escB s = escL s.data.toList := rfl
/-- Of right values the keys stand as the values do, whatever follows. -/
theorem keyV_lt (a b : S23) (ha : chkV a = 0) (hb : chkV b = 0) (ia : in64 a.f1) (ib : in64 b.f1) (s t : List Int) (h : cmpV a.f0 a.f1 a.f2 b.f0 b.f1 b.f2 = -1) : cmpL (keyV a ++ s) (keyV b ++ t) = -1 := by
  obtain ⟨k, n, x⟩ := a
  obtain ⟨l, m, y⟩ := b
  unfold cmpV c2 at h
  simp only at h ia ib
  have hk : 0 ≤ k ∧ k ≤ 3 := by rcases chk_parts ha with h | h | h | h <;> (simp only at h; omega)
  have hl : 0 ≤ l ∧ l ≤ 3 := by rcases chk_parts hb with h | h | h | h <;> (simp only at h; omega)
  by_cases h1 : k < l
  · unfold keyV
    simp only
    rw [List.append_assoc, List.append_assoc]
    exact cmpL_lt (by omega)
  · by_cases h2 : k > l
    · simp [h1, h2] at h
    · obtain rfl : k = l := by omega
      simp only [Int.lt_irrefl, if_false] at h
      unfold keyV
      simp only
      rw [List.append_assoc, List.append_assoc, cmpL_pre]
      rcases chk_parts ha with ⟨k0, n0, x0⟩ | ⟨k0, x0⟩ | ⟨k0, n0, x0⟩ | ⟨k0, n0, x0⟩
      · simp only at k0 n0 x0
        subst k0
        rcases chk_parts hb with ⟨l0, m0, y0⟩ | ⟨l0, y0⟩ | ⟨l0, m0, y0⟩ | ⟨l0, m0, y0⟩
        · simp only at m0 y0
          subst n0; subst m0
          rw [toList_nil x0, toList_nil y0] at h
          simp [Lib.compareBytes] at h
        · simp only at l0; omega
        · simp only at l0; omega
        · simp only at l0; omega
      · simp only at k0 x0
        subst k0
        have y0 : y.toList = [] := by
          rcases chk_parts hb with ⟨l0, m0, y0⟩ | ⟨l0, y0⟩ | ⟨l0, m0, y0⟩ | ⟨l0, m0, y0⟩
          · simp only at l0; omega
          · exact y0
          · simp only at l0; omega
          · simp only at l0; omega
        rw [toList_nil x0, toList_nil y0] at h
        rw [if_pos rfl, if_pos rfl]
        unfold in64 at ia ib
        have hlt : n < m := by
          by_cases h3 : n < m
          · exact h3
          · by_cases h4 : n > m
            · simp [h3, h4] at h
            · simp [h3, h4, Lib.compareBytes] at h
        rw [eight_be _ (by omega) (by omega), eight_be _ (by omega) (by omega)]
        exact beB_lt 8 _ _ s t (by omega) (by omega) (by have : (256 : Int) ^ 8 = 18446744073709551616 := by decide
                                                         omega)
      · simp only at k0 n0 x0
        subst k0
        obtain ⟨m0, y0⟩ : (m = 0 ∨ m = 1) ∧ y.toList = [] := by
          rcases chk_parts hb with ⟨l0, m0, y0⟩ | ⟨l0, y0⟩ | ⟨l0, m0, y0⟩ | ⟨l0, m0, y0⟩
          · simp only at l0; omega
          · simp only at l0; omega
          · exact ⟨m0, y0⟩
          · simp only at l0; omega
        rw [toList_nil x0, toList_nil y0] at h
        rw [if_neg (by decide), if_pos rfl, if_neg (by decide), if_pos rfl]
        have hlt : n < m := by
          by_cases h3 : n < m
          · exact h3
          · by_cases h4 : n > m
            · simp [h3, h4] at h
            · simp [h3, h4, Lib.compareBytes] at h
        exact cmpL_lt (by omega)
      · simp only at k0 n0 x0
        subst k0
        have m0 : m = 0 := by
          rcases chk_parts hb with ⟨l0, m0, y0⟩ | ⟨l0, y0⟩ | ⟨l0, m0, y0⟩ | ⟨l0, m0, y0⟩
          · simp only at l0; omega
          · simp only at l0; omega
          · simp only at l0; omega
          · exact m0
        subst n0; subst m0
        rw [if_neg (by decide), if_neg (by decide), if_pos rfl, if_neg (by decide), if_neg (by decide), if_pos rfl, List.append_assoc, List.append_assoc, escB_eq, escB_eq]
        exact esc_lt _ _ s t (by simpa using h)
theorem cmpV_anti (a0 a1 : Int) (a2 : ByteArray) (b0 b1 : Int) (b2 : ByteArray) : cmpV b0 b1 b2 a0 a1 a2 = - cmpV a0 a1 a2 b0 b1 b2 := by
  unfold cmpV c2
  by_cases h0 : a0 < b0
  · simp [h0, show ¬ b0 < a0 by omega]
  by_cases h1 : a0 > b0
  · simp [h0, h1]
  obtain rfl : a0 = b0 := by omega
  by_cases h2 : a1 < b1
  · simp [h2, show ¬ b1 < a1 by omega]
  by_cases h3 : a1 > b1
  · simp [h2, h3]
  obtain rfl : a1 = b1 := by omega
  simpa using cb_anti a2.data.toList b2.data.toList
theorem cmpV_zero {a b : S23} (h : cmpV a.f0 a.f1 a.f2 b.f0 b.f1 b.f2 = 0) : a = b := by
  obtain ⟨k, n, x⟩ := a
  obtain ⟨l, m, y⟩ := b
  unfold cmpV c2 at h
  simp only at h
  by_cases h0 : k < l
  · simp [h0] at h
  by_cases h1 : k > l
  · simp [h0, h1] at h
  obtain rfl : k = l := by omega
  by_cases h2 : n < m
  · simp [h2] at h
  by_cases h3 : n > m
  · simp [h2, h3] at h
  obtain rfl : n = m := by omega
  have h4 := ((bl_cmp x.data.toList y.data.toList).2.1).2 (by simpa using h)
  have : x = y := by
    apply ByteArray.ext
    exact Array.ext' h4
  rw [this]
theorem keyV_pos (v : S23) : ∃ x r, keyV v = x :: r := ⟨_, _, rfl⟩
/-- Of right rows the keys stand as the rows do. -/
theorem keyB_cmp : ∀ (l m : List S23), (∀ v ∈ l, chkV v = 0 ∧ in64 v.f1) → (∀ v ∈ m, chkV v = 0 ∧ in64 v.f1) → cmpL (keyB l) (keyB m) = cmpRowV l m
  | [], [], _, _ => rfl
  | [], b :: m, _, _ => by
    obtain ⟨x, r, h⟩ := keyV_pos b
    unfold keyB
    rw [h]
    rfl
  | a :: l, [], _, _ => by
    obtain ⟨x, r, h⟩ := keyV_pos a
    unfold keyB
    rw [h]
    rfl
  | a :: l, b :: m, hl, hm => by
    have ih := keyB_cmp l m (fun v hv => hl v (by simp [hv])) (fun v hv => hm v (by simp [hv]))
    obtain ⟨ha, ia⟩ := hl a (by simp)
    obtain ⟨hb, ib⟩ := hm b (by simp)
    show cmpL (keyV a ++ keyB l) (keyV b ++ keyB m) = (if cmpV a.f0 a.f1 a.f2 b.f0 b.f1 b.f2 = 0 then cmpRowV l m else cmpV a.f0 a.f1 a.f2 b.f0 b.f1 b.f2)
    have hin : cmpV a.f0 a.f1 a.f2 b.f0 b.f1 b.f2 = -1 ∨ cmpV a.f0 a.f1 a.f2 b.f0 b.f1 b.f2 = 0 ∨ cmpV a.f0 a.f1 a.f2 b.f0 b.f1 b.f2 = 1 := cmpV_in _ _ _ _ _ _
    rcases hin with h | h | h
    · rw [h, if_neg (by decide)]
      exact keyV_lt a b ha hb ia ib _ _ h
    · rw [if_pos h, cmpV_zero h, cmpL_pre]
      exact ih
    · rw [h, if_neg (by decide)]
      have h2 : cmpV b.f0 b.f1 b.f2 a.f0 a.f1 a.f2 = -1 := by rw [cmpV_anti, h]
      rw [cmpL_anti, keyV_lt b a hb ha ib ia _ _ h2]
      rfl
end Go.Proofs.YtindffllmlifiaaDoor.Q
