/- Numbers as bytes and back, in plain words: no program in it. -/
import Derived.Test.YtgihecpobichbaaNumsP
import Derived.Test.YtgihecpobichbaaNumsQ
import Derived.Lib.Zigzag
import Derived.Laws.BitsAllLaws
namespace Go.Proofs.Ytgihecpobichbaa.Q
open Go.RowKit Go.Proofs.YtgihecpobichbaaW.PrintWords Go.Proofs.YtgihecpobichbaaW.PrintLast Go.Proofs.YtgihecpobichbaaW.PrintMore
set_option linter.unusedVariables false
set_option linter.unusedSimpArgs false

/-- An int as a number. -/
def zig (n : Int) : Int := if n < 0 then -2 * n - 1 else 2 * n
theorem zig_range {n : Int} (h : in64 n) : 0 ≤ zig n ∧ zig n < 18446744073709551616 := by
  unfold in64 at h
  unfold zig
  split <;> omega
theorem xor_zero (x : Int) (h0 : 0 ≤ x) (h1 : x < 18446744073709551616) : bits .xor .u64 x 0 = x := by
  rw [u64_xor x 0 h0 h1 (by omega) (by omega)]
  simp
  omega
theorem xor_all (x : Int) (h0 : 0 ≤ x) (h1 : x < 18446744073709551616) : bits .xor .u64 x 18446744073709551615 = 18446744073709551615 - x := by
  rw [u64_xor x _ h0 h1 (by omega) (by omega)]
  have e : (18446744073709551615 : Int).toNat = 2 ^ 64 - 1 := by decide
  rw [e, Nat.xor_comm, Lib.xor_ones64 _ (by omega)]
  omega
theorem whole_zig {a : Int} (h : in64 a) : code_whole.f a = some (zig a) := by
  unfold in64 at h
  unfold code_whole.f zig
  congr 1
  have e1 : IntKind.u64.wrap (wrap64 (a * 2)) = if a < 0 then 2 * a + 18446744073709551616 else 2 * a := by
    rw [wrapu]
    unfold wrap64
    split <;> omega
  have e2 : IntKind.u64.wrap (a / 9223372036854775808) = if a < 0 then 18446744073709551615 else 0 := by
    rw [wrapu]
    split <;> omega
  rw [e1, e2]
  by_cases hn : a < 0
  · rw [if_pos hn, if_pos hn, if_pos hn, xor_all _ (by omega) (by omega)]
    omega
  · rw [if_neg hn, if_neg hn, if_neg hn, xor_zero _ (by omega) (by omega)]
theorem xor_i64_comm (x y : Int) : bits .xor .i64 x y = bits .xor .i64 y x := by
  show IntKind.i64.wrap ((BitVec.ofInt 64 x ^^^ BitVec.ofInt 64 y).toNat : Int) = IntKind.i64.wrap ((BitVec.ofInt 64 y ^^^ BitVec.ofInt 64 x).toNat : Int)
  rw [BitVec.xor_comm]
theorem xor_i64_zero (x : Int) (h0 : 0 ≤ x) (h1 : x < 9223372036854775808) : bits .xor .i64 x 0 = x := by
  show IntKind.i64.wrap ((BitVec.ofInt 64 x ^^^ BitVec.ofInt 64 0).toNat : Int) = _
  obtain ⟨n, rfl⟩ := Int.eq_ofNat_of_zero_le h0
  have h2 : (BitVec.ofInt 64 (n : Int)).toNat = n := by
    rw [BitVec.ofInt_natCast, BitVec.toNat_ofNat]; exact Nat.mod_eq_of_lt (by omega)
  have h3 : (BitVec.ofInt 64 0).toNat = 0 := by decide
  rw [BitVec.toNat_xor, h2, h3, Nat.xor_zero, IntKind.wrap_i64]
  omega
/-- A number as an int. -/
def zag (n : Int) : Int := if n % 2 = 1 then -(n / 2) - 1 else n / 2
theorem unz_val {n : Int} (h0 : 0 ≤ n) (h1 : n < 18446744073709551616) : unz n = zag n := by
  unfold unz zag
  have e1 : wrap64 (n / 2) = n / 2 := wrap_in (by unfold in64; omega)
  rw [e1, Lib.u64_and1 n h0 h1]
  have e2 : wrap64 (-wrap64 (n % 2)) = -(n % 2) := by
    have : wrap64 (n % 2) = n % 2 := wrap_in (by unfold in64; omega)
    rw [this]
    exact wrap_in (by unfold in64; omega)
  rw [e2]
  by_cases hn : n % 2 = 1
  · rw [if_pos hn, hn, xor_i64_comm]
    obtain ⟨m, hm⟩ := Int.eq_ofNat_of_zero_le (show 0 ≤ n / 2 by omega)
    rw [hm]
    exact Lib.i64_not m (by omega)
  · rw [if_neg hn, show n % 2 = 0 by omega]
    exact xor_i64_zero _ (by omega) (by omega)
theorem zag_zig {a : Int} (h : in64 a) : zag (zig a) = a := by
  unfold in64 at h
  unfold zag zig
  split <;> split <;> omega
theorem zig_zag {n : Int} (h0 : 0 ≤ n) (h1 : n < 18446744073709551616) : zig (zag n) = n ∧ in64 (zag n) := by
  unfold zag zig in64
  split <;> split <;> omega
theorem unz_zig {a : Int} (h : in64 a) : unz (zig a) = a := by
  have := zig_range h
  rw [unz_val this.1 this.2, zag_zig h]
theorem zig_unz {n : Int} (h0 : 0 ≤ n) (h1 : n < 18446744073709551616) : zig (unz n) = n ∧ in64 (unz n) := by
  rw [unz_val h0 h1]
  exact zig_zag h0 h1
theorem pow7 (i : Nat) : (2 : Int) ^ (7 * (i + 1)) = 128 * 2 ^ (7 * i) := by
  rw [show 7 * (i + 1) = 7 * i + 7 by omega, Int.pow_add, Int.mul_comm]
  rfl
theorem pow7_pos (i : Nat) : 0 < (2 : Int) ^ (7 * i) := Int.pow_pos (by omega)
theorem split128 (m p : Int) : (m % 128) * p + (m / 128) * (128 * p) = m * p := by
  rw [← Int.mul_assoc, ← Int.add_mul]
  congr 1
  omega
theorem rest128 (m p : Int) (hp : 0 < p) : 0 ≤ (m % 128) * p := Int.mul_nonneg (by omega) (by omega)
theorem nine {m : Int} (h : m * 2 ^ (7 * 9) < 18446744073709551616) : m < 2 := by
  have e : (2 : Int) ^ (7 * 9) = 9223372036854775808 := by decide
  rw [e] at h
  omega
/-- What a number's bytes come to, ahead of whatever. -/
theorem unS_numR (r : List Int) : ∀ (f i : Nat) (acc m : Int), i + f = 9 → 0 ≤ acc → acc < 2 ^ (7 * i) → 0 ≤ m → m * 2 ^ (7 * i) < 18446744073709551616 → (0 < i → 0 < m) →
    unS i acc (numR f m ++ r) = (acc + m * 2 ^ (7 * i), (i : Int) + (numR f m).length, 0)
  | 0, i, acc, m, hi, a0, a1, m0, m1, mp => by
    obtain rfl : i = 9 := by omega
    have h2 := nine m1
    have h3 := mp (by omega)
    obtain rfl : m = 1 := by omega
    show unS 9 acc (1 :: r) = _
    unfold unS
    have hb : ¬ unBad 9 1 = true := by decide
    rw [if_neg hb, if_pos (by omega), (unAdd_eq 9 (by omega) acc 1 a0 a1 (by omega) (by omega) (by omega)).1]
    simp [numR]
  | f + 1, i, acc, m, hi, a0, a1, m0, m1, mp => by
    unfold numR
    by_cases hm : m ≥ 128
    · rw [if_pos hm, List.cons_append]
      unfold unS
      have hb : ¬ unBad i (m % 128 + 128) = true := by
        have h1 : (m % 128 + 128 == 0) = false := by simp; omega
        have h2 : (i == 9) = false := by simp; omega
        simp [unBad, h1, h2]
      obtain ⟨e1, e2, e3, e4⟩ := unAdd_eq i (by omega) acc (m % 128 + 128) a0 a1 (by omega) (by omega) (by omega)
      have e5 : (m % 128 + 128) % 128 = m % 128 := by omega
      rw [e5] at e1 e2
      have hs := split128 m (2 ^ (7 * i))
      have hp := pow7 i
      have hr := rest128 m _ (pow7_pos i)
      rw [if_neg hb, if_neg (by omega), e1, unS_numR r f (i + 1) _ (m / 128) (by omega) (by omega) e2 (by omega) (by rw [hp]; omega) (by omega)]
      rw [hp]
      simp only [List.length_cons]
      congr 1
      · omega
      · congr 1
        omega
    · rw [if_neg hm]
      show unS i acc (m % 256 :: r) = _
      have e0 : m % 256 = m := by omega
      rw [e0]
      unfold unS
      have h9 : (i == 9) = false := by simp; omega
      have hb : ¬ unBad i m = true := by
        simp [unBad, h9]
        intro h
        have := mp h
        omega
      obtain ⟨e1, e2, e3, e4⟩ := unAdd_eq i (by omega) acc m a0 a1 (by omega) (by omega) (by omega)
      have e5 : m % 128 = m := by omega
      rw [e5] at e1
      rw [if_neg hb, if_pos (by omega), e1]
      simp
theorem un_numR {n : Int} (h0 : 0 ≤ n) (h1 : n < 18446744073709551616) (r : List Int) : un (numR 9 n ++ r) = (n, ((numR 9 n).length : Int), 0) := by
  have h := unS_numR r 9 0 0 n rfl (by omega) (by decide) h0 (by simpa using h1) (by omega)
  unfold un
  rw [h]
  simp
/-- Bytes that are a number are that number's. -/
theorem unS_only : ∀ (l : List Int) (i : Nat) (acc n k : Int), i ≤ 9 → (∀ x ∈ l, 0 ≤ x ∧ x ≤ 255) → 0 ≤ acc → acc < 2 ^ (7 * i) → acc < 18446744073709551616 → unS i acc l = (n, k, 0) →
    ∃ (m : Int) (r : List Int), n = acc + m * 2 ^ (7 * i) ∧ l = numR (9 - i) m ++ r ∧ k = (i : Int) + (numR (9 - i) m).length ∧ 0 ≤ m ∧ (0 < i → 0 < m) ∧ n < 18446744073709551616
  | [], i, acc, n, k, hi, hl, a0, a1, a2, h => by
    exact absurd h (by simp [unS])
  | c :: l, i, acc, n, k, hi, hl, a0, a1, a2, h => by
    have hc := hl c (by simp)
    unfold unS at h
    by_cases hb : unBad i c = true
    · rw [if_pos hb] at h
      simp at h
    · rw [if_neg hb] at h
      have h9 : i = 9 → c ≤ 1 := by
        intro e
        subst e
        rcases Int.lt_or_le 1 c with h' | h'
        · exact absurd (by simp [unBad, h']) hb
        · exact h'
      have hz : 0 < i → c ≠ 0 := by
        intro e e2
        subst e2
        exact absurd (by simp [unBad, e]) hb
      obtain ⟨e1, e2, e3, e4⟩ := unAdd_eq i hi acc c a0 a1 hc.1 hc.2 h9
      have hr := rest128 c _ (pow7_pos i)
      by_cases h1 : c < 128
      · rw [if_pos h1] at h
        simp only [Prod.mk.injEq, and_true] at h
        obtain ⟨rfl, rfl⟩ := h
        have e5 : c % 128 = c := by omega
        rw [e5] at e1 e3
        refine ⟨c, l, e1, ?_, ?_, hc.1, fun h => by have := hz h; omega, by omega⟩
        · have e6 : c % 256 = c := by omega
          cases hf : 9 - i with
          | zero => simp [numR, e6]
          | succ f => simp [numR, e6, show ¬ 128 ≤ c by omega]
        · cases hf : 9 - i with
          | zero => simp [numR]
          | succ f => simp [numR, show ¬ 128 ≤ c by omega]
      · rw [if_neg h1, e1] at h
        have hi9 : i ≠ 9 := fun e => by have := h9 e; omega
        obtain ⟨m, r, f1, f2, f3, f4, f5, f6⟩ := unS_only l (i + 1) _ n k (by omega) (fun x hx => hl x (by simp [hx])) (by omega) e2 e3 h
        have hm := f5 (by omega)
        have hd : (m * 128 + c % 128) % 128 = c % 128 := by omega
        have hq : (m * 128 + c % 128) / 128 = m := by omega
        have hnr : numR (9 - i) (m * 128 + c % 128) = c :: numR (9 - (i + 1)) m := by
          rw [show 9 - i = (9 - (i + 1)) + 1 by omega]
          generalize 9 - (i + 1) = f
          show (if m * 128 + c % 128 ≥ 128 then ((m * 128 + c % 128) % 128 + 128) :: numR f ((m * 128 + c % 128) / 128) else [(m * 128 + c % 128) % 256]) = _
          rw [if_pos (by omega), hd, hq]
          congr 1
          omega
        refine ⟨m * 128 + c % 128, r, ?_, ?_, ?_, by omega, fun _ => by omega, f6⟩
        · rw [f1, pow7, Int.add_mul, Int.mul_assoc]
          omega
        · rw [hnr, List.cons_append, ← f2]
        · rw [hnr, f3]
          simp only [List.length_cons]
          omega
theorem un_only {l : List Int} {n k : Int} (hl : ∀ x ∈ l, 0 ≤ x ∧ x ≤ 255) (h : un l = (n, k, 0)) : ∃ r, l = numR 9 n ++ r ∧ k = ((numR 9 n).length : Int) ∧ 0 ≤ n ∧ n < 18446744073709551616 := by
  obtain ⟨m, r, f1, f2, f3, f4, f5, f6⟩ := unS_only l 0 0 n k (by omega) hl (by omega) (by decide) (by omega) h
  have e : n = m := by rw [f1]; simp
  subst e
  exact ⟨r, f2, by rw [f3]; simp, f4, f6⟩
theorem numR_pos : ∀ (f : Nat) (n : Int), 0 < (numR f n).length
  | 0, n => by simp [numR]
  | f + 1, n => by
    unfold numR
    split <;> simp
theorem numR_bytes : ∀ (f : Nat) (n : Int), 0 ≤ n → ∀ x ∈ numR f n, 0 ≤ x ∧ x ≤ 255
  | 0, n, h0, x, hx => by
    simp [numR] at hx
    omega
  | f + 1, n, h0, x, hx => by
    unfold numR at hx
    split at hx
    · rcases List.mem_cons.1 hx with h | h
      · omega
      · exact numR_bytes f (n / 128) (by omega) x h
    · simp at hx
      omega
theorem bytes_strNums {l : List Int} (h : ∀ x ∈ l, 0 ≤ x ∧ x ≤ 255) : bytesOf (strOfNums l) = l := by
  unfold bytesOf strOfNums
  simp only [List.map_map]
  conv => rhs; rw [← List.map_id l]
  apply List.map_congr_left
  intro x hx
  have := h x hx
  simp
  omega
theorem bytesOf_range (s : ByteArray) : ∀ x ∈ bytesOf s, 0 ≤ x ∧ x ≤ 255 := by
  intro x hx
  unfold bytesOf at hx
  obtain ⟨b, _, rfl⟩ := List.mem_map.1 hx
  have := b.toNat_lt
  omega
end Go.Proofs.Ytgihecpobichbaa.Q
