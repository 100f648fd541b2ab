/- A decimal numeral: what strconv's ParseInt and FormatInt say together is what reading digit by digit says. -/
import Derived.Lib.ParseIntBCases
import Derived.Lib.ItoaMem
namespace Go.Proofs.YtnjlgeenhmamjaaGreatDoor.Q
open Go.Lib
/-- The number that digits spell, behind others that spell acc. -/
def valD (acc : Nat) : List UInt8 → Nat
  | [] => acc
  | c :: r => valD (acc * 10 + (c.toNat - 48)) r
/-- All are digits. -/
def digL (l : List UInt8) : Prop := ∀ c ∈ l, 48 ≤ c.toNat ∧ c.toNat ≤ 57
theorem valD_snoc : ∀ (l : List UInt8) (acc : Nat) (c : UInt8), valD acc (l ++ [c]) = valD acc l * 10 + (c.toNat - 48)
  | [], acc, c => rfl
  | d :: r, acc, c => by
    show valD _ (r ++ [c]) = _
    rw [valD_snoc r _ c]
    rfl
theorem valD_le : ∀ (l : List UInt8) (acc : Nat), acc ≤ valD acc l
  | [], acc => Nat.le_refl _
  | c :: r, acc => Nat.le_trans (by omega) (valD_le r (acc * 10 + (c.toNat - 48)))
theorem parseM_ok (M : Nat) (hM : M ≤ 18446744073709551615) : ∀ (l : List UInt8) (acc : Nat), digL l → valD acc l ≤ M → parseUintM M acc l = .ok (valD acc l)
  | [], acc, _, _ => rfl
  | c :: r, acc, hd, hv => by
    have h1 := hd c (by simp)
    have h2 := valD_le r (acc * 10 + (c.toNat - 48))
    have h3 : valD (acc * 10 + (c.toNat - 48)) r ≤ M := hv
    unfold parseUintM
    rw [if_pos h1, if_neg (by omega), if_neg (by omega)]
    exact parseM_ok M hM r _ (fun x hx => hd x (by simp [hx])) hv
/-- No zero ahead of others. -/
def canon (l : List UInt8) : Prop := l ≠ [] ∧ digL l ∧ (l.length = 1 ∨ ∀ c, l.head? = some c → c.toNat ≠ 48)
theorem ofNat_digit {c : UInt8} (h : 48 ≤ c.toNat ∧ c.toNat ≤ 57) : UInt8.ofNat (48 + (c.toNat - 48)) = c := by
  rw [show 48 + (c.toNat - 48) = c.toNat by omega]
  exact UInt8.ofNat_toNat
theorem snoc_cases (l : List UInt8) : l = [] ∨ ∃ r c, l = r ++ [c] := by
  rcases List.eq_nil_or_concat l with h | ⟨r, c, h⟩
  · exact .inl h
  · exact .inr ⟨r, c, by rw [h, List.concat_eq_append]⟩
theorem valD_pos : ∀ (l : List UInt8), l ≠ [] → digL l → (∀ c, l.head? = some c → c.toNat ≠ 48) → 10 ^ (l.length - 1) ≤ valD 0 l := by
  intro l
  induction h : l.length generalizing l with
  | zero => intro hn; exact absurd (List.length_eq_zero_iff.1 h) hn
  | succ n ih =>
    intro hn hd hh
    rcases snoc_cases l with rfl | ⟨r, c, rfl⟩
    · exact absurd rfl hn
    · have hr : r.length = n := by simpa using h
      rw [valD_snoc]
      cases n with
      | zero =>
        obtain rfl := List.length_eq_zero_iff.1 hr
        have h1 := hd c (by simp)
        have h2 := hh c rfl
        show 1 ≤ 0 * 10 + (c.toNat - 48)
        omega
      | succ m =>
        have hrn : r ≠ [] := fun e => by rw [e] at hr; simp at hr
        have := ih r hr hrn (fun x hx => hd x (by simp [hx])) (fun x hx => hh x (by
          cases r with
          | nil => exact absurd rfl hrn
          | cons a r => simpa using hx))
        simp only [Nat.add_sub_cancel] at this ⊢
        rw [Nat.pow_succ]
        omega
theorem dec_val : ∀ (l : List UInt8), canon l → decDigits (valD 0 l) = l := by
  intro l
  induction h : l.length generalizing l with
  | zero => intro hc; exact absurd (List.length_eq_zero_iff.1 h) hc.1
  | succ n ih =>
    rintro ⟨hn, hd, hh⟩
    rcases snoc_cases l with rfl | ⟨r, c, rfl⟩
    · exact absurd rfl hn
    · have hr : r.length = n := by simpa using h
      have hc := hd c (by simp)
      rw [valD_snoc]
      cases n with
      | zero =>
        obtain rfl := List.length_eq_zero_iff.1 hr
        show decDigits (0 * 10 + (c.toNat - 48)) = [c]
        rw [show 0 * 10 + (c.toNat - 48) = c.toNat - 48 by omega, decDigits_one (by omega), ofNat_digit hc]
      | succ m =>
        have hrn : r ≠ [] := fun e => by rw [e] at hr; simp at hr
        have hh2 : ∀ x, r.head? = some x → x.toNat ≠ 48 := by
          rcases hh with hh | hh
          · rw [h] at hh; omega
          · intro x hx
            exact hh x (by
              cases r with
              | nil => exact absurd rfl hrn
              | cons a r => simpa using hx)
        have hdr : digL r := fun x hx => hd x (by simp [hx])
        have hp := valD_pos r hrn hdr hh2
        have hp1 : 1 ≤ 10 ^ (r.length - 1) := Nat.one_le_pow _ _ (by decide)
        have e := ih r hr ⟨hrn, hdr, .inr hh2⟩
        rw [decDigits, dif_neg (by omega), show (valD 0 r * 10 + (c.toNat - 48)) / 10 = valD 0 r by omega, e, show (valD 0 r * 10 + (c.toNat - 48)) % 10 = c.toNat - 48 by omega, ofNat_digit hc]
theorem dec_canon (u : Nat) : canon (decDigits u) ∧ valD 0 (decDigits u) = u ∧ (1 ≤ u → ∀ c, (decDigits u).head? = some c → c.toNat ≠ 48) := by
  induction u using Nat.strongRecOn with
  | _ u ih =>
    have key : ∀ k, k < 10 → (UInt8.ofNat (48 + k)).toNat = 48 + k := fun k hk => by
      show (48 + k) % 256 = 48 + k
      omega
    by_cases h : u < 10
    · rw [decDigits_one h]
      refine ⟨⟨by simp, fun c hc => ?_, .inl rfl⟩, ?_, fun h1 c hc => ?_⟩
      · rw [List.mem_singleton.1 hc, key u h]; omega
      · show 0 * 10 + ((UInt8.ofNat (48 + u)).toNat - 48) = u
        rw [key u h]; omega
      · injection hc with hc
        rw [← hc, key u h]; omega
    · obtain ⟨⟨h1, h2, h3⟩, h4, h5⟩ := ih (u / 10) (by omega)
      have h6 := h5 (by omega)
      have hk := key (u % 10) (by omega)
      rw [decDigits, dif_neg h]
      have hh : ∀ c, (decDigits (u / 10) ++ [UInt8.ofNat (48 + u % 10)]).head? = some c → c.toNat ≠ 48 := fun c hc => h6 c (by
        cases he : decDigits (u / 10) with
        | nil => exact absurd he h1
        | cons a r => rw [he] at hc; simpa using hc)
      refine ⟨⟨by simp, fun c hc => ?_, .inr hh⟩, ?_, fun _ => hh⟩
      · rcases List.mem_append.1 hc with hc | hc
        · exact h2 c hc
        · rw [List.mem_singleton.1 hc, hk]; omega
      · rw [valD_snoc, h4, hk]; omega
theorem canon_len {l : List UInt8} (h : canon l) (hv : valD 0 l < 10000000000000000000) : l.length ≤ 19 := by
  obtain ⟨h1, h2, h3⟩ := h
  rcases h3 with h3 | h3
  · omega
  · have := valD_pos l h1 h2 h3
    rcases Nat.lt_or_ge 19 l.length with hl | hl
    · have : 10 ^ 19 ≤ 10 ^ (l.length - 1) := Nat.pow_le_pow_right (by decide) (by omega)
      omega
    · exact hl
theorem canon_b (l : List UInt8) : (l ≠ [] ∧ l.all (fun c => decide (48 ≤ c.toNat ∧ c.toNat ≤ 57)) = true ∧ (l.length = 1 ∨ l.head? ≠ some 48)) ↔ canon l := by
  unfold canon digL
  simp only [List.all_eq_true, decide_eq_true_eq]
  constructor
  · rintro ⟨a, b, c⟩
    refine ⟨a, b, c.imp id (fun h x hx e => h ?_)⟩
    rw [hx, show x = 48 from UInt8.toNat_inj.1 e]
  · rintro ⟨a, b, c⟩
    exact ⟨a, b, c.imp id (fun h e => h 48 e rfl)⟩
instance (l : List UInt8) : Decidable (canon l) := decidable_of_iff _ (canon_b l)
/-- What reading digit by digit says. -/
def numL (l : List UInt8) : Option Int :=
  if l.head? = some 45 then (if canon l.tail ∧ l.tail.length ≤ 19 ∧ l.tail.head? ≠ some 48 ∧ valD 0 l.tail ≤ 9223372036854775808 then some (-(valD 0 l.tail : Int)) else none)
  else (if canon l ∧ l.length ≤ 19 ∧ valD 0 l < 9223372036854775808 then some (valD 0 l : Int) else none)
/-- What ParseInt and FormatInt say. -/
def saysL (l : List UInt8) : Option Int := match parseIntB 64 l with
  | .ok n => if itoa n = l then some n else none
  | _ => none
def inN (n : Int) : Prop := -9223372036854775808 ≤ n ∧ n ≤ 9223372036854775807
theorem pow63 : (2 : Nat) ^ (64 - 1) = 9223372036854775808 := by decide
theorem parse_itoa (n : Int) (hn : inN n) : parseIntB 64 (itoa n) = .ok n := by
  obtain ⟨h0, h1⟩ := hn
  have hM : (2 : Nat) ^ 64 - 1 = 18446744073709551615 := by decide
  by_cases h : n < 0
  · obtain ⟨⟨c1, c2, c3⟩, v, _⟩ := dec_canon n.natAbs
    unfold itoa
    rw [if_pos h, parseIntB_minus]
    have : parseUintB 64 (decDigits n.natAbs) = .ok n.natAbs := by
      unfold parseUintB
      rw [if_neg c1, hM, parseM_ok _ (Nat.le_refl _) _ _ c2 (by omega), v]
    rw [this, pow63]
    unfold signedC
    simp only
    rw [if_neg (by omega)]
    congr 1
    omega
  · obtain ⟨⟨c1, c2, c3⟩, v, _⟩ := dec_canon n.toNat
    unfold itoa
    rw [if_neg h]
    cases he : decDigits n.toNat with
    | nil => exact absurd he c1
    | cons a r =>
      have ha : 48 ≤ a.toNat ∧ a.toNat ≤ 57 := c2 a (by rw [he]; simp)
      rw [parseIntB_plain 64 a r (by omega) (by omega), ← he]
      have : parseUintB 64 (decDigits n.toNat) = .ok n.toNat := by
        unfold parseUintB
        rw [if_neg c1, hM, parseM_ok _ (Nat.le_refl _) _ _ c2 (by omega), v]
      rw [this, pow63]
      unfold signlessC
      simp only
      rw [if_neg (by omega)]
      congr 1
      omega
theorem parse_in {l : List UInt8} {n : Int} (h : parseIntB 64 l = .ok n) : inN n := by
  unfold inN
  cases l with
  | nil => cases h
  | cons c r =>
    by_cases h45 : c.toNat = 45
    · obtain rfl : c = 45 := UInt8.toNat_inj.1 h45
      rw [parseIntB_minus, pow63] at h
      cases hp : parseUintB 64 r with
      | «syntax» => rw [hp] at h; cases h
      | range => rw [hp] at h; cases h
      | ok u =>
        rw [hp] at h
        simp only [signedC] at h
        split at h
        · cases h
        · injection h with h; omega
    · have hs : ∀ x, signlessC 9223372036854775808 x = .ok n → -9223372036854775808 ≤ n ∧ n ≤ 9223372036854775807 := fun x hx => by
        cases x with
        | «syntax» => cases hx
        | range => cases hx
        | ok u =>
          simp only [signlessC] at hx
          split at hx
          · cases hx
          · injection hx with hx; omega
      by_cases h43 : c.toNat = 43
      · obtain rfl : c = 43 := UInt8.toNat_inj.1 h43
        rw [parseIntB_plus, pow63] at h
        exact hs _ h
      · rw [parseIntB_plain 64 c r h43 h45, pow63] at h
        exact hs _ h
theorem saysL_iff (l : List UInt8) (n : Int) : saysL l = some n ↔ inN n ∧ l = itoa n := by
  unfold saysL
  constructor
  · intro h
    cases hp : parseIntB 64 l with
    | «syntax» => rw [hp] at h; cases h
    | range => rw [hp] at h; cases h
    | ok m =>
      rw [hp] at h
      simp only at h
      split at h
      · rename_i he
        injection h with h
        subst h
        exact ⟨parse_in hp, he.symm⟩
      · cases h
  · rintro ⟨h1, rfl⟩
    rw [parse_itoa n h1]
    simp
theorem numL_iff (l : List UInt8) (n : Int) : numL l = some n ↔ inN n ∧ l = itoa n := by
  unfold numL inN
  constructor
  · intro h
    split at h
    · rename_i h45
      split at h
      · rename_i hc
        obtain ⟨c1, c2, c3, c4⟩ := hc
        injection h with h
        cases l with
        | nil => cases h45
        | cons a r =>
          injection h45 with h45
          subst h45
          simp only [List.tail_cons] at c1 c2 c3 c4 h
          have hd := dec_val r c1
          have hpos : 1 ≤ valD 0 r := by
            rcases Nat.eq_zero_or_pos (valD 0 r) with e | e
            · rw [e] at hd
              exfalso
              apply c3
              rw [← hd, decDigits_one (by decide)]
              rfl
            · exact e
          refine ⟨by omega, ?_⟩
          rw [← h, itoa_neg _ hpos, hd]
      · cases h
    · split at h
      · rename_i hc
        obtain ⟨c1, c2, c3⟩ := hc
        injection h with h
        refine ⟨by omega, ?_⟩
        rw [← h, itoa_nonneg, dec_val l c1]
      · cases h
  · rintro ⟨⟨h0, h1⟩, rfl⟩
    by_cases h : n < 0
    · obtain ⟨hc, hv, hh⟩ := dec_canon n.natAbs
      unfold itoa
      rw [if_pos h, if_pos (show (45 :: decDigits n.natAbs).head? = some 45 from rfl)]
      rw [if_pos (show canon (45 :: decDigits n.natAbs).tail ∧ (45 :: decDigits n.natAbs).tail.length ≤ 19 ∧ (45 :: decDigits n.natAbs).tail.head? ≠ some 48 ∧ valD 0 (45 :: decDigits n.natAbs).tail ≤ 9223372036854775808 from ⟨hc, canon_len hc (by show valD 0 (decDigits n.natAbs) < _; omega), fun e => hh (by omega) 48 e rfl, by show valD 0 (decDigits n.natAbs) ≤ _; omega⟩)]
      show some (-(valD 0 (decDigits n.natAbs) : Int)) = some n
      rw [hv]
      congr 1
      omega
    · obtain ⟨hc, hv, hh⟩ := dec_canon n.toNat
      unfold itoa
      rw [if_neg h, if_neg, if_pos ⟨hc, canon_len hc (by omega), by omega⟩, hv]
      · congr 1
        omega
      · intro e
        have := hc.2.1 45 (by
          cases he : decDigits n.toNat with
          | nil => rw [he] at e; cases e
          | cons a r => rw [he] at e; injection e with e; rw [e]; simp)
        have e45 : (45 : UInt8).toNat = 45 := rfl
        omega
theorem says_num (l : List UInt8) : saysL l = numL l := by
  cases h : numL l with
  | none =>
    cases h2 : saysL l with
    | none => rfl
    | some n => rw [(numL_iff l n).2 ((saysL_iff l n).1 h2)] at h; cases h
  | some n => exact (saysL_iff l n).2 ((numL_iff l n).1 h)
end Go.Proofs.YtnjlgeenhmamjaaGreatDoor.Q
