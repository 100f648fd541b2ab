/- A number's bytes: the package's and the document's are the same. -/
import Derived.Test.YtgihecpobichbaaCodeA
import Derived.Test.YtgihecpobichbaaBx1
import Derived.Test.YtgihecpobichbaaCx1
namespace Go.Proofs.Ytgihecpobichbaa.Q
open Go.RowKit Go.Proofs.YtgihecpobichbaaW.PrintWords Go.Proofs.YtgihecpobichbaaW.PrintLast Go.Proofs.YtgihecpobichbaaW.PrintMore
set_option linter.unusedVariables false
set_option linter.unusedSimpArgs false

theorem or_fin : ∀ x : Fin 256, bits .or .u8 ((x.val : Nat) : Int) 128 = ((x.val % 128 + 128 : Nat) : Int) := by decide +kernel
theorem or_128 (x : Int) (h0 : 0 ≤ x) (h1 : x < 256) : bits .or .u8 x 128 = x % 128 + 128 := by
  obtain ⟨n, rfl⟩ := Int.eq_ofNat_of_zero_le h0
  have := or_fin ⟨n, by omega⟩
  simp only at this
  rw [this]
  omega
/-- A number's bytes, seven bits each. -/
def numR : Nat → Int → List Int
  | 0, n => [n % 256]
  | f + 1, n => if n ≥ 128 then (n % 128 + 128) :: numR f (n / 128) else [n % 256]
theorem num_loop : ∀ (f g : Nat) (n : Int) (xs : List Int), 0 ≤ n → n < 128 ^ (f + 1) → xs.length + f ≤ 1000 → code_Num.l0 (f + 1 + g) n xs = some (xs ++ numR f n)
  | 0, g, n, xs, h0, h1, hx => by
    rw [show 0 + 1 + g = g + 1 by omega]
    simp only [code_Num.l0]
    rw [if_neg (by omega), if_pos (by omega)]
    rfl
  | f + 1, g, n, xs, h0, h1, hx => by
    rw [show f + 1 + 1 + g = (f + 1 + g) + 1 by omega]
    simp only [code_Num.l0]
    unfold numR
    by_cases hn : n ≥ 128
    · rw [if_pos hn, if_pos hn, if_pos (by omega)]
      have hp : n / 128 < 128 ^ (f + 1) := by
        have e : (128 : Int) ^ (f + 1 + 1) = 128 ^ (f + 1) * 128 := Int.pow_succ 128 (f + 1)
        rw [e] at h1
        exact Int.ediv_lt_of_lt_mul (by omega) h1
      rw [num_loop f g (n / 128) _ (by omega) hp (by rw [List.length_append]; simp; omega), or_128 _ (by omega) (by omega)]
      have e2 : n % 256 % 128 + 128 = n % 128 + 128 := by omega
      rw [e2]
      simp
    · rw [if_neg hn, if_neg hn, if_pos (by omega)]
theorem code_Num_eq (n : Int) (h0 : 0 ≤ n) (h1 : n < 18446744073709551616) (g : Nat) : code_Num.f (10 + g) n = some (numR 9 n) := by
  unfold code_Num.f
  have := num_loop 9 g n [] h0 (by have : (128 : Int) ^ 10 = 1180591620717411303424 := by decide
                                   omega) (by simp)
  simpa using this
theorem str_cons (a : Int) (l : List Int) : strOfNums [a] ++ strOfNums l = strOfNums (a :: l) := by
  apply ByteArray.ext
  simp [strOfNums]
theorem numR_len : ∀ (f : Nat) (n : Int), (numR f n).length ≤ f + 1
  | 0, n => by simp [numR]
  | f + 1, n => by
    unfold numR
    split
    · have := numR_len f (n / 128)
      simp only [List.length_cons]
      omega
    · simp
theorem str_size (l : List Int) : (strOfNums l).size = l.length := by
  simp [strOfNums, ByteArray.size]
theorem ref_Num_eq : ∀ (f g : Nat) (n : Int), 0 ≤ n → n < 18446744073709551616 → n < 128 ^ (f + 1) → f ≤ 1000 → headgateref04_Num.f (f + 1 + g) n = some (strOfNums (numR f n))
  | 0, g, n, h0, h6, h1, hf => by
    rw [show 0 + 1 + g = g + 1 by omega]
    unfold headgateref04_Num.f
    rw [if_pos (by omega)]
    rfl
  | f + 1, g, n, h0, h6, h1, hf => by
    rw [show f + 1 + 1 + g = (f + 1 + g) + 1 by omega]
    unfold headgateref04_Num.f numR
    by_cases hn : n < 128
    · rw [if_pos hn, if_neg (by omega)]
    · rw [if_neg hn, if_pos (by omega)]
      have hp : n / 128 < 128 ^ (f + 1) := by
        have e : (128 : Int) ^ (f + 1 + 1) = 128 ^ (f + 1) * 128 := Int.pow_succ 128 (f + 1)
        rw [e] at h1
        exact Int.ediv_lt_of_lt_mul (by omega) h1
      have e1 : Int.tmod n 128 = n % 128 := Int.tmod_eq_emod_of_nonneg h0
      have e2 : Int.tdiv n 128 = n / 128 := Int.tdiv_eq_ediv_of_nonneg h0
      have e3 : IntKind.u64.wrap (n / 128) = n / 128 := by
        show n / 128 % 18446744073709551616 = n / 128
        omega
      have e4 : IntKind.u64.wrap (n % 128 + 128) % 256 = n % 128 + 128 := by
        show (n % 128 + 128) % 18446744073709551616 % 256 = n % 128 + 128
        omega
      simp only [Option.bind_some]
      rw [e1, e2, e3, e4, ref_Num_eq f g (n / 128) (by omega) (by omega) hp (by omega)]
      simp only [Option.bind_some]
      have hl := numR_len f (n / 128)
      rw [if_pos (by rw [str_size, str_size]; simp; omega), str_cons]
end Go.Proofs.Ytgihecpobichbaa.Q
