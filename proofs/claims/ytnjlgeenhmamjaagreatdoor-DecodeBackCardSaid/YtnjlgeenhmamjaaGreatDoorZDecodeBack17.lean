/- Values' checks, and what a row's fields are, in plain words. -/
import Derived.Test.YtnjlgeenhmamjaaGreatDoorZDecodeBack2
import Derived.Test.YtnjlgeenhmamjaaGreatDoorZDecodeBack15
import Derived.Test.YtnjlgeenhmamjaaGreatDoorZDecodeBack12
import Derived.Lib.Strings
import Derived.Lib.ItoaLen
import Derived.Lib.Join
import Derived.Lib.Small
import Derived.Test.YtnjlgeenhmamjaaGreatDoorZDecodeBack13
namespace Go.Proofs.YtnjlgeenhmamjaaGreatDoor.Q
open Go.RowKit Go.Proofs.YtnjlgeenhmamjaaGreatDoorW.PrintWords Go.Proofs.YtnjlgeenhmamjaaGreatDoorW.PrintLast Go.Proofs.YtnjlgeenhmamjaaGreatDoorW.PrintMore
set_option linter.unusedVariables false
set_option linter.unusedSimpArgs false
/-- What is wrong with a value. -/
def chkV (v : S41) : Int :=
  if v.f0 = 0 then (if v.f1 = 0 ∧ v.f2.toList = [] then 0 else 31)
  else if v.f0 = 1 then (if v.f2.toList = [] then 0 else 31)
  else if v.f0 = 2 then (if (v.f1 = 0 ∨ v.f1 = 1) ∧ v.f2.toList = [] then 0 else 31)
  else if v.f0 = 3 then (if v.f1 = 0 ∧ v.f2.size ≤ 200 then 0 else 31) else 30
theorem chk_ev (v : S41) : Go.Proofs.YtnjlgeenhmamjaaGreatDoorW.PrintWords.Ev (fun k => value_Check.f k v.f0 v.f1 v.f2) (chkV v) := by
  obtain ⟨k0, n, s⟩ := v
  unfold value_Check.f chkV
  simp only
  have hj1 : ∀ b : Bool, Go.Proofs.YtnjlgeenhmamjaaGreatDoorW.PrintWords.Ev (fun k => value_Check.j1 k b) (if b = true then 31 else 0) := by
    intro b
    refine Go.Proofs.YtnjlgeenhmamjaaGreatDoorW.PrintWords.Ev.step (f := fun _ => some (if b = true then 31 else 0)) (fun k => ?_) (Go.Proofs.YtnjlgeenhmamjaaGreatDoorW.PrintWords.Ev.now _)
    simp only [value_Check.j1]
    split <;> rfl
  have hj0 : ∀ (g : Bool), Go.Proofs.YtnjlgeenhmamjaaGreatDoorW.PrintWords.Ev (fun k => value_Check.j0 k g k0 n s) (if g = true then (if k0 = 3 then 0 else (if s.toList = [] then 0 else 31)) else 31) := by
    intro g
    cases g with
    | false =>
      refine Go.Proofs.YtnjlgeenhmamjaaGreatDoorW.PrintWords.Ev.step (fun k => ?_) (hj1 true)
      simp only [value_Check.j0]
      rw [if_neg (by simp)]
    | true =>
      by_cases h3 : k0 = 3
      · simp only [if_true, if_pos h3]
        refine Go.Proofs.YtnjlgeenhmamjaaGreatDoorW.PrintWords.Ev.step (fun k => ?_) (hj1 false)
        simp only [value_Check.j0]
        rw [if_pos trivial, if_pos h3]
      · simp only [if_true, if_neg h3]
        have h := hj1 (s.toList != [])
        have e : (if (s.toList != []) = true then (31 : Int) else 0) = (if s.toList = [] then 0 else 31) := by
          by_cases hs : s.toList = []
          · rw [if_neg (by simp [hs]), if_pos hs]
          · rw [if_pos (by simp [hs]), if_neg hs]
        rw [e] at h
        refine Go.Proofs.YtnjlgeenhmamjaaGreatDoorW.PrintWords.Ev.step (fun k => ?_) h
        simp only [value_Check.j0]
        rw [if_pos trivial, if_neg h3]
  by_cases h0 : k0 = 0
  · rw [if_pos h0]
    refine Go.Proofs.YtnjlgeenhmamjaaGreatDoorW.PrintWords.Ev.congr (fun k => if_pos h0) ?_
    have h := hj0 (n == 0)
    rw [if_neg (show ¬ k0 = 3 by omega)] at h
    by_cases hn : n = 0
    · rw [if_pos (by simp [hn])] at h
      have e : (if n = 0 ∧ s.toList = [] then (0 : Int) else 31) = (if s.toList = [] then 0 else 31) := by simp [hn]
      rw [e]
      exact h
    · rw [if_neg (by simp [hn])] at h
      rw [if_neg (fun z => hn z.1)]
      exact h
  · rw [if_neg h0]
    refine Go.Proofs.YtnjlgeenhmamjaaGreatDoorW.PrintWords.Ev.congr (fun k => if_neg h0) ?_
    by_cases h1 : k0 = 1
    · rw [if_pos h1]
      refine Go.Proofs.YtnjlgeenhmamjaaGreatDoorW.PrintWords.Ev.congr (fun k => if_pos h1) ?_
      have h := hj0 true
      rw [if_pos rfl, if_neg (show ¬ k0 = 3 by omega)] at h
      exact h
    · rw [if_neg h1]
      refine Go.Proofs.YtnjlgeenhmamjaaGreatDoorW.PrintWords.Ev.congr (fun k => if_neg h1) ?_
      by_cases h2 : k0 = 2
      · rw [if_pos h2]
        refine Go.Proofs.YtnjlgeenhmamjaaGreatDoorW.PrintWords.Ev.congr (fun k => if_pos h2) ?_
        by_cases hn : n = 0
        · refine Go.Proofs.YtnjlgeenhmamjaaGreatDoorW.PrintWords.Ev.congr (fun k => if_pos hn) ?_
          have h := hj0 true
          rw [if_pos rfl, if_neg (show ¬ k0 = 3 by omega)] at h
          have e : (if (n = 0 ∨ n = 1) ∧ s.toList = [] then (0 : Int) else 31) = (if s.toList = [] then 0 else 31) := by simp [hn]
          rw [e]
          exact h
        · refine Go.Proofs.YtnjlgeenhmamjaaGreatDoorW.PrintWords.Ev.congr (fun k => if_neg hn) ?_
          have h := hj0 (n == 1)
          rw [if_neg (show ¬ k0 = 3 by omega)] at h
          by_cases hn1 : n = 1
          · rw [if_pos (by simp [hn1])] at h
            have e : (if (n = 0 ∨ n = 1) ∧ s.toList = [] then (0 : Int) else 31) = (if s.toList = [] then 0 else 31) := by simp [hn1]
            rw [e]
            exact h
          · rw [if_neg (by simp [hn1])] at h
            rw [if_neg (fun z => by omega)]
            exact h
      · rw [if_neg h2]
        refine Go.Proofs.YtnjlgeenhmamjaaGreatDoorW.PrintWords.Ev.congr (fun k => if_neg h2) ?_
        by_cases h3 : k0 = 3
        · rw [if_pos h3]
          refine Go.Proofs.YtnjlgeenhmamjaaGreatDoorW.PrintWords.Ev.congr (fun k => if_pos h3) ?_
          by_cases hn : n = 0
          · refine Go.Proofs.YtnjlgeenhmamjaaGreatDoorW.PrintWords.Ev.congr (fun k => if_pos hn) ?_
            have h := hj0 (decide ((s.size : Int) ≤ 200))
            rw [if_pos h3] at h
            by_cases hs : s.size ≤ 200
            · rw [if_pos (by simp; omega)] at h
              rw [if_pos ⟨hn, hs⟩]
              exact h
            · rw [if_neg (by simp; omega)] at h
              rw [if_neg (fun z => hs z.2)]
              exact h
          · refine Go.Proofs.YtnjlgeenhmamjaaGreatDoorW.PrintWords.Ev.congr (fun k => if_neg hn) ?_
            have h := hj0 false
            rw [if_neg (by simp)] at h
            rw [if_neg (fun z => hn z.1)]
            exact h
        · rw [if_neg h3]
          exact Go.Proofs.YtnjlgeenhmamjaaGreatDoorW.PrintWords.Ev.congr (fun k => if_neg h3) (Go.Proofs.YtnjlgeenhmamjaaGreatDoorW.PrintWords.Ev.now _)
/-- A value as a field. -/
def fieldB (v : Va) : ByteArray :=
  if v.f0 = 0 then ⟨#[92, 78]⟩ else if v.f0 = 1 then ⟨(Lib.itoa v.f1).toArray⟩ else if v.f0 = 2 then ⟨(Lib.formatBool (v.f1 == 1)).toArray⟩ else strOfNums (escS (bytesOf v.f2))
/-- May a value stand in a column? -/
def okF (c : Co) (v : Va) : Bool := decide (chkV v = 0) && (decide (v.f0 = 0) || decide (v.f0 = c.f1))
/-- A row's fields. -/
def recL : List Co → List Va → Option (List ByteArray)
  | c :: cs, v :: vs => if okF c v = true then (recL cs vs).map (fieldB v :: ·) else none
  | _, _ => some []
theorem recL_cons (c : Co) (cs : List Co) (v : Va) (vs : List Va) : recL (c :: cs) (v :: vs) = if okF c v = true then (recL cs vs).map (fieldB v :: ·) else none := rfl
def joinB (fs : List ByteArray) : ByteArray := ⟨(Lib.join (fs.map (·.data.toList)) [44]).toArray⟩
/-- What decode.Record answers, r being what is wrong with the columns. -/
def recR (r : Int) (l : List Co) (vs : List Va) : List Int × Int :=
  if r ≠ 0 then ([], r) else if vs.length ≠ l.length then ([], 121) else match recL l vs with
    | none => ([], 122)
    | some fs => (bytesOf (joinB fs), 0)
theorem size_mk (a : Array UInt8) : (⟨a⟩ : ByteArray).size = a.size := rfl
theorem strNums_size (l : List Int) : (strOfNums l).size = l.length := by
  unfold strOfNums
  first | (rw [size_mk]; simp; done) | (simp [ByteArray.size]; done)
theorem field_size (v : Va) (h64 : in64 v.f1) (hc : chkV v = 0) : (fieldB v).size ≤ 400 := by
  unfold fieldB
  split
  · decide
  · split
    · rw [size_mk, List.size_toArray]
      have := Lib.itoa_length_le v.f1 h64.1 h64.2
      omega
    · split
      · rw [size_mk, List.size_toArray]
        cases (v.f1 == 1) <;> decide
      · rename_i h0 h1 h2
        rw [strNums_size, escS_len, bytesOf_length]
        have h9 := cntS_le (bytesOf v.f2)
        rw [bytesOf_length] at h9
        have : v.f2.size ≤ 200 := by
          unfold chkV at hc
          rw [if_neg h0, if_neg h1, if_neg h2] at hc
          split at hc
          · split at hc
            · rename_i h; exact h.2
            · cases hc
          · cases hc
        omega
theorem recL_size : ∀ (l : List Co) (vs : List Va) (fs : List ByteArray), (∀ v ∈ vs, in64 v.f1) → recL l vs = some fs → fs.length ≤ vs.length ∧ ∀ f ∈ fs, f.size ≤ 400
  | c :: cs, v :: vs, fs, h64, h => by
    rw [recL_cons] at h
    split at h
    · rename_i hok
      cases hr : recL cs vs with
      | none => rw [hr] at h; cases h
      | some gs =>
        rw [hr] at h
        obtain rfl : fieldB v :: gs = fs := Option.some.inj h
        obtain ⟨i1, i2⟩ := recL_size cs vs gs (fun x hx => h64 x (List.mem_cons_of_mem _ hx)) hr
        refine ⟨by simp only [List.length_cons]; omega, fun f hf => ?_⟩
        rcases List.mem_cons.1 hf with rfl | hf
        · unfold okF at hok
          rw [Bool.and_eq_true] at hok
          exact field_size v (h64 v (List.mem_cons_self ..)) (of_decide_eq_true hok.1)
        · exact i2 f hf
    · cases h
  | [], vs, fs, _, h => by obtain rfl : [] = fs := by cases vs <;> exact Option.some.inj h
                           exact ⟨Nat.zero_le _, fun f hf => by cases hf⟩
  | _ :: _, [], fs, _, h => by obtain rfl : [] = fs := Option.some.inj h
                               exact ⟨Nat.zero_le _, fun f hf => by cases hf⟩
theorem tail_len (sep : List UInt8) (m : Nat) : ∀ r : List (List UInt8), (∀ x ∈ r, x.length ≤ m) → (Lib.joinTail sep r).length ≤ r.length * (sep.length + m)
  | [], _ => by simp [Lib.joinTail]
  | x :: r, h => by
    have ih := tail_len sep m r (fun y hy => h y (List.mem_cons_of_mem _ hy))
    have hx := h x (List.mem_cons_self ..)
    have e : (Lib.joinTail sep (x :: r)).length = sep.length + x.length + (Lib.joinTail sep r).length := by simp [Lib.joinTail, Nat.add_assoc]
    rw [e, List.length_cons, Nat.succ_mul]
    omega
theorem join_len (sep : List UInt8) (m : Nat) (r : List (List UInt8)) (h : ∀ x ∈ r, x.length ≤ m) : (Lib.join r sep).length ≤ r.length * (sep.length + m) := by
  cases r with
  | nil => simp [Lib.join_nil]
  | cons x r =>
    rw [Lib.join_cons, List.length_append, List.length_cons, Nat.succ_mul]
    have := tail_len sep m r (fun y hy => h y (List.mem_cons_of_mem _ hy))
    have := h x (List.mem_cons_self ..)
    omega
theorem joinB_size (fs : List ByteArray) (n : Nat) (hn : fs.length ≤ n) (h : ∀ f ∈ fs, f.size ≤ 400) : (Lib.join (fs.map (·.data.toList)) [44]).length ≤ n * 401 := by
  refine Nat.le_trans (join_len [44] 400 _ (fun x hx => ?_)) ?_
  · obtain ⟨f, hf, rfl⟩ := List.mem_map.1 hx
    exact Nat.le_trans (Nat.le_of_eq (by rw [Array.length_toList]; rfl)) (h f hf)
  · rw [List.length_map]
    exact Nat.mul_le_mul_right _ hn
end Go.Proofs.YtnjlgeenhmamjaaGreatDoor.Q
/- headgateref12.Record in plain words: it says what decode.Record says. -/
namespace Go.Proofs.YtnjlgeenhmamjaaGreatDoor.Q
open Go.RowKit Go.Proofs.YtnjlgeenhmamjaaGreatDoorW.PrintWords Go.Proofs.YtnjlgeenhmamjaaGreatDoorW.PrintLast Go.Proofs.YtnjlgeenhmamjaaGreatDoorW.PrintMore
set_option linter.unusedVariables false
set_option linter.unusedSimpArgs false
theorem ba_assoc (a b c : ByteArray) : a ++ b ++ c = a ++ (b ++ c) := by
  apply ByteArray.ext
  simp
theorem ba_nil' (a : ByteArray) : a ++ (⟨#[]⟩ : ByteArray) = a := by
  apply ByteArray.ext
  simp
theorem bytes_drop (s : ByteArray) (j : Nat) (h : j < s.size) : (bytesOf s).drop j = bt s j :: (bytesOf s).drop (j + 1) := by
  have hl := bytesOf_length s
  rw [List.drop_eq_getElem_cons (by omega)]
  congr 1
  rw [← rd_bytesOf s (j : Int)]
  unfold rd
  rw [Int.toNat_natCast, List.getD_eq_getElem?_getD, List.getElem?_eq_getElem (by omega)]
  rfl
def tailB (fs : List ByteArray) : ByteArray := ⟨(Lib.joinTail [44] (fs.map (·.data.toList))).toArray⟩
theorem tailB_cons (f : ByteArray) (fs : List ByteArray) : tailB (f :: fs) = ⟨#[44]⟩ ++ f ++ tailB fs := by
  apply ByteArray.ext
  apply Array.ext'
  simp [tailB, Lib.joinTail]
theorem joinB_cons (f : ByteArray) (fs : List ByteArray) : joinB (f :: fs) = f ++ tailB fs := by
  apply ByteArray.ext
  apply Array.ext'
  simp [tailB, joinB, Lib.join_cons]
end Go.Proofs.YtnjlgeenhmamjaaGreatDoor.Q
/- Records and rows, there and back, in plain words. -/
namespace Go.Proofs.YtnjlgeenhmamjaaGreatDoor.Q
open Go.RowKit Go.Proofs.YtnjlgeenhmamjaaGreatDoorW.PrintWords Go.Proofs.YtnjlgeenhmamjaaGreatDoorW.PrintLast Go.Proofs.YtnjlgeenhmamjaaGreatDoorW.PrintMore
set_option linter.unusedVariables false
set_option linter.unusedSimpArgs false
theorem back_nums (xs : List Int) (h : ∀ x ∈ xs, 0 ≤ x ∧ x ≤ 255) : bytesOf (strOfNums xs) = xs := by
  simp only [bytesOf, strOfNums, List.map_map]
  show List.map _ xs = xs
  conv => rhs; rw [← List.map_id xs]
  apply List.map_congr_left
  intro x hx
  have := h x hx
  simp only [Function.comp, id_eq]
  have e : (x.toNat.toUInt8).toNat = x.toNat % 256 := rfl
  rw [e]
  omega
theorem bytes_range (s : ByteArray) : ∀ x ∈ bytesOf s, 0 ≤ x ∧ x ≤ 255 := by
  intro x hx
  obtain ⟨c, _, rfl⟩ := List.mem_map.1 hx
  have := c.toNat_lt
  omega
theorem bytes_inj {a b : ByteArray} (h : bytesOf a = bytesOf b) : a = b := by
  rw [← strNums_bytesOf a, ← strNums_bytesOf b, h]
/-! #### a text's fields, byte by byte -/
/-- The fields of what is left, 'cur' being what the field holds yet; t: is the next byte taken as it is? -/
def spl : List Int → Bool → List Int → List (List Int)
  | [], _, cur => [cur]
  | c :: r, t, cur => if t = false ∧ c = 44 then cur :: spl r false [] else spl r (!t && c == 92) (cur ++ [c])
theorem spl_cons (c : Int) (r : List Int) (t : Bool) (cur : List Int) : spl (c :: r) t cur = if t = false ∧ c = 44 then cur :: spl r false [] else spl r (!t && c == 92) (cur ++ [c]) := rfl
theorem spl_ne : ∀ (l : List Int) (t : Bool) (cur : List Int), spl l t cur ≠ []
  | [], _, _ => by simp [spl]
  | c :: r, t, cur => by
    rw [spl_cons]
    split
    · simp
    · exact spl_ne r _ _
def mid (s : ByteArray) (a F : Nat) : List Int := ((bytesOf s).drop a).take (F - a)
theorem bytes_mid (s : ByteArray) (a F : Nat) (h : F ≤ s.size) : bytesOf (s.extract a F) = mid s a F := by
  rw [← str_mid' s a F h]
  refine back_nums _ (fun x hx => bytes_range s x ?_)
  exact List.mem_of_mem_drop (List.mem_of_mem_take hx)
theorem fields_map (s : ByteArray) (a : Nat) (ha : a ≤ s.size) : (fields s (s.size + 1) a).map bytesOf = mid s a (fieldE s a) :: (rest s (fieldE s a)).map bytesOf := by
  rw [fields_eq s a ha, List.map_cons, bytes_mid s a _ (fieldE_le s a)]
theorem rest_end (s : ByteArray) : rest s s.size = [] := by
  unfold rest
  rw [if_neg (by omega)]
theorem spl_at (s : ByteArray) : ∀ (n i a : Nat) (t : Bool), i + n = s.size → a ≤ i →
    spl ((bytesOf s).drop i) t (mid s a i) = mid s a (min (endS s (if t = true then i + 1 else i)) s.size) :: (rest s (min (endS s (if t = true then i + 1 else i)) s.size)).map bytesOf := by
  intro n
  induction n with
  | zero =>
    intro i a t hi ha
    have hge : i ≤ endS s (if t = true then i + 1 else i) := by
      refine Nat.le_trans ?_ (endF_le s (s.size + 1) _)
      split <;> omega
    have hm : min (endS s (if t = true then i + 1 else i)) s.size = s.size := by omega
    rw [List.drop_of_length_le (by rw [bytesOf_length]; omega), hm, rest_end]
    have : i = s.size := by omega
    subst this
    rfl
  | succ n ih =>
    intro i a t hi ha
    have hlt : i < s.size := by omega
    have hsn : mid s a i ++ [bt s i] = mid s a (i + 1) := mid_snoc s a i ha hlt
    rw [bytes_drop s i hlt, spl_cons]
    cases t with
    | true =>
      rw [if_neg (by simp)]
      rw [hsn]
      have h := ih (i + 1) a false (by omega) (by omega)
      simp only [Bool.false_eq_true, if_false] at h
      simp only [Bool.not_true, Bool.false_and, if_true]
      exact h
    | false =>
      simp only [Bool.false_eq_true, if_false, true_and]
      by_cases h44 : bt s i = 44
      · rw [if_pos h44]
        have he : endS s i = i := by rw [endS_eq, if_neg (fun h => h.2 h44)]
        have hm : min i s.size = i := by omega
        rw [he, hm]
        have h := ih (i + 1) (i + 1) false (by omega) (by omega)
        simp only [Bool.false_eq_true, if_false] at h
        have e0 : mid s (i + 1) (i + 1) = [] := by unfold mid; rw [Nat.sub_self]; rfl
        rw [e0] at h
        rw [h]
        have hr : rest s i = fields s (s.size + 1) (i + 1) := by unfold rest; rw [if_pos (by omega)]
        rw [hr, fields_map s (i + 1) (by omega)]
        rfl
      · rw [if_neg h44, hsn]
        by_cases h92 : bt s i = 92
        · have he : endS s i = endS s (i + 2) := by
            rw [endS_eq]
            rw [if_pos ⟨by omega, h44⟩, if_pos h92]
          have h := ih (i + 1) a true (by omega) (by omega)
          simp only [if_true] at h
          rw [show (!false && bt s i == 92) = true by rw [h92]; rfl, h, he]
        · have he : endS s i = endS s (i + 1) := by
            rw [endS_eq]
            rw [if_pos ⟨by omega, h44⟩, if_neg h92]
          have h := ih (i + 1) a false (by omega) (by omega)
          simp only [Bool.false_eq_true, if_false] at h
          rw [show (!false && bt s i == 92) = false by simpa using h92, h, he]
theorem fields_spl (s : ByteArray) : (fields s (s.size + 1) 0).map bytesOf = spl (bytesOf s) false [] := by
  have h := spl_at s s.size 0 0 false (by omega) (Nat.le_refl _)
  simp only [Bool.false_eq_true, if_false] at h
  rw [fields_map s 0 (Nat.zero_le _)]
  have e0 : mid s 0 0 = [] := rfl
  rw [e0, List.drop_zero] at h
  rw [h]
  rfl
/-! #### fields joined -/
def jn : List (List Int) → List Int
  | [] => []
  | [f] => f
  | f :: g :: r => f ++ 44 :: jn (g :: r)
theorem jn_cons (f : List Int) (r : List (List Int)) (h : r ≠ []) : jn (f :: r) = f ++ 44 :: jn r := by
  cases r with
  | nil => exact absurd rfl h
  | cons g r => rfl
theorem jn_spl : ∀ (l : List Int) (t : Bool) (cur : List Int), jn (spl l t cur) = cur ++ l
  | [], _, cur => by simp [spl, jn]
  | c :: r, t, cur => by
    rw [spl_cons]
    split
    · rename_i h
      rw [jn_cons _ _ (spl_ne r false []), jn_spl r false [], h.2]
      rfl
    · rw [jn_spl r _ _, List.append_assoc]
      rfl
theorem joinB_bytes : ∀ fs : List ByteArray, bytesOf (joinB fs) = jn (fs.map bytesOf)
  | [] => rfl
  | [f] => by
    rw [joinB_cons, show tailB [] = ⟨#[]⟩ from rfl, ba_nil']
    rfl
  | f :: g :: r => by
    have ih := joinB_bytes (g :: r)
    rw [List.map_cons, jn_cons _ _ (by simp), ← ih, joinB_cons, tailB_cons, ba_assoc, ← joinB_cons]
    unfold bytesOf
    simp
/-! #### fields that are closed -/
def clB : List Int → Bool → Bool
  | [], t => !t
  | c :: r, t => !(decide (t = false ∧ c = 44)) && clB r (!t && c == 92)
theorem clB_cons (c : Int) (r : List Int) (t : Bool) : clB (c :: r) t = (!(decide (t = false ∧ c = 44)) && clB r (!t && c == 92)) := rfl
theorem spl_last : ∀ (f : List Int) (t : Bool) (cur : List Int), clB f t = true → spl f t cur = [cur ++ f]
  | [], t, cur, h => by simp [spl]
  | c :: r, t, cur, h => by
    rw [clB_cons, Bool.and_eq_true] at h
    have h1 : ¬ (t = false ∧ c = 44) := of_decide_eq_false (by simpa only [Bool.not_eq_true'] using h.1)
    rw [spl_cons, if_neg h1, spl_last r _ _ h.2, List.append_assoc]
    rfl
theorem spl_next : ∀ (f : List Int) (t : Bool) (cur R : List Int), clB f t = true → spl (f ++ 44 :: R) t cur = (cur ++ f) :: spl R false []
  | [], t, cur, R, h => by
    have ht : t = false := by simpa [clB] using h
    rw [List.nil_append, spl_cons, if_pos ⟨ht, rfl⟩, List.append_nil]
  | c :: r, t, cur, R, h => by
    rw [clB_cons, Bool.and_eq_true] at h
    have h1 : ¬ (t = false ∧ c = 44) := of_decide_eq_false (by simpa only [Bool.not_eq_true'] using h.1)
    rw [List.cons_append, spl_cons, if_neg h1, spl_next r _ _ R h.2, List.append_assoc]
    rfl
theorem spl_jn : ∀ fs : List (List Int), fs ≠ [] → (∀ f ∈ fs, clB f false = true) → spl (jn fs) false [] = fs
  | [], h, _ => absurd rfl h
  | [f], _, h => by
    show spl f false [] = _
    rw [spl_last f false [] (h f (by simp))]
    rfl
  | f :: g :: r, _, h => by
    rw [jn_cons _ _ (by simp), spl_next f false [] _ (h f (by simp)), spl_jn (g :: r) (by simp) (fun x hx => h x (List.mem_cons_of_mem _ hx))]
    rfl
theorem clB_plain : ∀ l : List Int, (∀ c ∈ l, c ≠ 44 ∧ c ≠ 92) → clB l false = true
  | [], _ => rfl
  | c :: r, h => by
    have hc := h c (List.mem_cons_self ..)
    rw [clB_cons, Bool.and_eq_true]
    refine ⟨by simpa using hc.1, ?_⟩
    rw [show (!false && c == 92) = false by simpa using hc.2]
    exact clB_plain r (fun x hx => h x (List.mem_cons_of_mem _ hx))
theorem clB_esc : ∀ l : List Int, clB (escS l) false = true
  | [] => rfl
  | c :: r => by
    rw [escS_cons]
    split
    · rename_i h
      rw [clB_cons, clB_cons]
      have : clB (escS r) false = true := clB_esc r
      simpa using this
    · rename_i h
      have h44 : c ≠ 44 := fun e => h (.inl e)
      have h92 : c ≠ 92 := fun e => h (.inr e)
      rw [clB_cons, Bool.and_eq_true]
      refine ⟨by simpa using h44, ?_⟩
      rw [show (!false && c == 92) = false by simpa using h92]
      exact clB_esc r
/-! #### fields with no bare comma -/
def ncB : List Int → Bool → Bool
  | [], _ => true
  | c :: r, t => !(decide (t = false ∧ c = 44)) && ncB r (!t && c == 92)
theorem ncB_cons (c : Int) (r : List Int) (t : Bool) : ncB (c :: r) t = (!(decide (t = false ∧ c = 44)) && ncB r (!t && c == 92)) := rfl
def stB : List Int → Bool → Bool
  | [], t => t
  | c :: r, t => stB r (!t && c == 92)
theorem stB_snoc : ∀ (l : List Int) (t : Bool) (c : Int), stB (l ++ [c]) t = (!(stB l t) && c == 92)
  | [], t, c => rfl
  | x :: r, t, c => stB_snoc r _ c
theorem ncB_snoc : ∀ (l : List Int) (t : Bool) (c : Int), ncB (l ++ [c]) t = (ncB l t && !(decide (stB l t = false ∧ c = 44)))
  | [], t, c => by
    show (!(decide (t = false ∧ c = 44)) && true) = (true && !(decide (t = false ∧ c = 44)))
    rw [Bool.and_true, Bool.true_and]
  | x :: r, t, c => by
    rw [List.cons_append, ncB_cons, ncB_cons, ncB_snoc r _ c, Bool.and_assoc]
    rfl
theorem spl_nc : ∀ (l : List Int) (t : Bool) (cur : List Int), ncB cur false = true → stB cur false = t → ∀ f ∈ spl l t cur, ncB f false = true
  | [], t, cur, h1, h2, f, hf => by
    rw [List.mem_singleton.1 hf]
    exact h1
  | c :: r, t, cur, h1, h2, f, hf => by
    rw [spl_cons] at hf
    split at hf
    · rcases List.mem_cons.1 hf with rfl | hf
      · exact h1
      · exact spl_nc r false [] rfl rfl f hf
    · rename_i hn
      refine spl_nc r _ _ ?_ ?_ f hf
      · rw [ncB_snoc, h1, h2, decide_eq_false hn]
        rfl
      · rw [stB_snoc, h2]
/-! #### without signs -/
def plL : List Int → Bool → Option (List Int)
  | [], t => if t = true then none else some []
  | c :: r, true => if isS c then (plL r false).map (c :: ·) else none
  | c :: r, false => if c = 92 then plL r true else (plL r false).map (c :: ·)
theorem plF_plL (s : ByteArray) : ∀ (n i : Nat) (cur : List Int), s.size < i + n → i ≤ s.size → plF s n i cur = (plL ((bytesOf s).drop i) false).map (cur ++ ·) := by
  intro n
  induction n using Nat.strongRecOn with
  | _ n ih =>
    intro i cur hn hi
    cases n with
    | zero => omega
    | succ n =>
      unfold plF
      by_cases hlt : i < s.size
      · rw [if_pos hlt, bytes_drop s i hlt]
        by_cases h92 : bt s i = 92
        · rw [if_pos h92]
          have e1 : plL (bt s i :: (bytesOf s).drop (i + 1)) false = plL ((bytesOf s).drop (i + 1)) true := by
            show (if bt s i = 92 then _ else _) = _
            rw [if_pos h92]
          rw [e1]
          by_cases hlt1 : i + 1 < s.size
          · rw [bytes_drop s (i + 1) hlt1]
            have e2 : plL (bt s (i + 1 : Nat) :: (bytesOf s).drop (i + 1 + 1)) true = if isS (bt s (i + 1 : Nat)) then (plL ((bytesOf s).drop (i + 1 + 1)) false).map (bt s (i + 1 : Nat) :: ·) else none := rfl
            rw [e2]
            by_cases hsp : isS (bt s (i + 1 : Nat))
            · rw [if_pos hsp, if_pos ⟨hlt1, hsp⟩, ih n (by omega) (i + 2) _ (by omega) (by omega), Option.map_map]
              congr 1
              funext x
              simp
            · rw [if_neg hsp, if_neg (fun h => hsp h.2)]
              rfl
          · rw [if_neg (fun h => hlt1 h.1), List.drop_of_length_le (by rw [bytesOf_length]; omega)]
            rfl
        · rw [if_neg h92]
          have e1 : plL (bt s i :: (bytesOf s).drop (i + 1)) false = (plL ((bytesOf s).drop (i + 1)) false).map (bt s i :: ·) := by
            show (if bt s i = 92 then _ else _) = _
            rw [if_neg h92]
          rw [e1, ih n (by omega) (i + 1) _ (by omega) (by omega), Option.map_map]
          congr 1
          funext x
          simp
      · rw [if_neg hlt, List.drop_of_length_le (by rw [bytesOf_length]; omega)]
        simp [plL]
theorem plL_esc : ∀ l : List Int, plL (escS l) false = some l
  | [] => rfl
  | c :: r => by
    rw [escS_cons]
    split
    · rename_i h
      have e : plL (92 :: c :: escS r) false = (if isS c then (plL (escS r) false).map (c :: ·) else none) := rfl
      rw [e, if_pos h, plL_esc r]
      rfl
    · rename_i h
      have e : plL (c :: escS r) false = (if c = 92 then plL (escS r) true else (plL (escS r) false).map (c :: ·)) := rfl
      rw [e, if_neg (fun e => h (.inr e)), plL_esc r]
      rfl
theorem plL_back : ∀ (l m : List Int), (plL l false = some m → ncB l false = true → escS m = l) ∧ (plL l true = some m → ncB l true = true → ∃ c m', m = c :: m' ∧ isS c ∧ 92 :: l = escS m)
  | [], m => by
    refine ⟨fun h _ => ?_, fun h _ => ?_⟩
    · obtain rfl : [] = m := by simpa [plL] using h
      rfl
    · simp [plL] at h
  | c :: r, m => by
    have ih := plL_back r
    refine ⟨fun h hn => ?_, fun h hn => ?_⟩
    · have e : plL (c :: r) false = (if c = 92 then plL r true else (plL r false).map (c :: ·)) := rfl
      rw [e] at h
      rw [ncB_cons, Bool.and_eq_true] at hn
      by_cases h92 : c = 92
      · rw [if_pos h92] at h
        subst h92
        obtain ⟨d, m', _, _, e3⟩ := (ih m).2 h hn.2
        exact e3.symm
      · rw [if_neg h92] at h
        have h44 : c ≠ 44 := by simpa using hn.1
        cases hp : plL r false with
        | none => rw [hp] at h; cases h
        | some q =>
          rw [hp] at h
          obtain rfl : c :: q = m := Option.some.inj h
          have hn2 := hn.2
          rw [show (!false && c == 92) = false by simpa using h92] at hn2
          have e1 := (ih q).1 hp hn2
          rw [escS_cons, if_neg (fun h => h.elim h44 h92), e1]
    · have e : plL (c :: r) true = (if isS c then (plL r false).map (c :: ·) else none) := rfl
      rw [e] at h
      by_cases hs : isS c
      · rw [if_pos hs] at h
        cases hp : plL r false with
        | none => rw [hp] at h; cases h
        | some q =>
          rw [hp] at h
          obtain rfl : c :: q = m := Option.some.inj h
          rw [ncB_cons, Bool.and_eq_true] at hn
          have e1 := (ih q).1 hp hn.2
          exact ⟨c, q, rfl, hs, by rw [escS_cons, if_pos hs, e1]⟩
      · rw [if_neg hs] at h
        cases h
theorem plL_range : ∀ (l : List Int) (t : Bool) (m : List Int), plL l t = some m → (∀ x ∈ l, 0 ≤ x ∧ x ≤ 255) → ∀ x ∈ m, 0 ≤ x ∧ x ≤ 255
  | [], t, m, h, _, x, hx => by
    cases t with
    | true => simp [plL] at h
    | false =>
      obtain rfl : [] = m := by simpa [plL] using h
      cases hx
  | c :: r, t, m, h, hr, x, hx => by
    have hr2 : ∀ x ∈ r, 0 ≤ x ∧ x ≤ 255 := fun y hy => hr y (List.mem_cons_of_mem _ hy)
    have hc := hr c (List.mem_cons_self ..)
    have key : ∀ m, (plL r false).map (c :: ·) = some m → ∀ x ∈ m, 0 ≤ x ∧ x ≤ 255 := fun m h x hx => by
      cases hp : plL r false with
      | none => rw [hp] at h; cases h
      | some q =>
        rw [hp] at h
        obtain rfl : c :: q = m := Option.some.inj h
        rcases List.mem_cons.1 hx with rfl | hx
        · exact hc
        · exact plL_range r false q hp hr2 x hx
    cases t with
    | true =>
      have e : plL (c :: r) true = (if isS c then (plL r false).map (c :: ·) else none) := rfl
      rw [e] at h
      split at h
      · exact key m h x hx
      · cases h
    | false =>
      have e : plL (c :: r) false = (if c = 92 then plL r true else (plL r false).map (c :: ·)) := rfl
      rw [e] at h
      split at h
      · exact plL_range r true m h hr2 x hx
      · exact key m h x hx
end Go.Proofs.YtnjlgeenhmamjaaGreatDoor.Q
/- The law DecodeBack in plain words. -/
namespace Go.Proofs.YtnjlgeenhmamjaaGreatDoor.Q
open Go.RowKit Go.Proofs.YtnjlgeenhmamjaaGreatDoorW.PrintWords Go.Proofs.YtnjlgeenhmamjaaGreatDoorW.PrintLast Go.Proofs.YtnjlgeenhmamjaaGreatDoorW.PrintMore
set_option linter.unusedVariables false
set_option linter.unusedSimpArgs false
theorem bytes_mk (l : List UInt8) : bytesOf ⟨l.toArray⟩ = l.map (fun b => (b.toNat : Int)) := rfl
theorem itoa_digits (n : Int) : ∀ b ∈ Lib.itoa n, b.toNat = 45 ∨ (48 ≤ b.toNat ∧ b.toNat ≤ 57) := by
  intro b hb
  unfold Lib.itoa at hb
  split at hb
  · rcases List.mem_cons.1 hb with rfl | hb
    · exact .inl rfl
    · exact .inr ((dec_canon n.natAbs).1.2.1 b hb)
  · exact .inr ((dec_canon n.toNat).1.2.1 b hb)
theorem itoa_closed (n : Int) : clB (bytesOf ⟨(Lib.itoa n).toArray⟩) false = true := by
  refine clB_plain _ (fun c hc => ?_)
  rw [bytes_mk] at hc
  obtain ⟨b, hb, rfl⟩ := List.mem_map.1 hc
  rcases itoa_digits n b hb with h | h <;> exact ⟨by omega, by omega⟩
theorem itoa_ne (n : Int) : (⟨(Lib.itoa n).toArray⟩ : ByteArray) ≠ ⟨#[92, 78]⟩ := by
  intro e
  have e2 : Lib.itoa n = [92, 78] := by
    have := congrArg (fun s : ByteArray => s.data.toList) e
    simpa using this
  have := itoa_digits n 92 (by rw [e2]; simp)
  have e3 : (92 : UInt8).toNat = 92 := rfl
  omega
theorem esc_ne (l : List Int) (hl : ∀ x ∈ l, 0 ≤ x ∧ x ≤ 255) : strOfNums (escS l) ≠ ⟨#[92, 78]⟩ := by
  intro e
  have e1 : escS l = [92, 78] := by
    have h : bytesOf (strOfNums (escS l)) = [92, 78] := by rw [e]; rfl
    rw [back_nums] at h
    · exact h
    · intro x hx
      have key : ∀ l : List Int, (∀ x ∈ l, 0 ≤ x ∧ x ≤ 255) → ∀ x ∈ escS l, 0 ≤ x ∧ x ≤ 255 := by
        intro l
        induction l with
        | nil => intro _ x hx; cases hx
        | cons c r ih =>
          intro h x hx
          rw [escS_cons] at hx
          have hc := h c (List.mem_cons_self ..)
          have hr := ih (fun y hy => h y (List.mem_cons_of_mem _ hy))
          split at hx
          · rcases List.mem_cons.1 hx with rfl | hx
            · omega
            · rcases List.mem_cons.1 hx with rfl | hx
              · exact hc
              · exact hr x hx
          · rcases List.mem_cons.1 hx with rfl | hx
            · exact hc
            · exact hr x hx
      exact key l hl x hx
  have h := plL_esc l
  rw [e1] at h
  have : plL [92, 78] false = none := by
    have h78 : ¬ isS 78 := by unfold isS; omega
    show (if isS (78 : Int) then (plL [] false).map ((78 : Int) :: ·) else none) = none
    rw [if_neg h78]
  rw [this] at h
  cases h
theorem esc_range : ∀ l : List Int, (∀ x ∈ l, 0 ≤ x ∧ x ≤ 255) → ∀ x ∈ escS l, 0 ≤ x ∧ x ≤ 255
  | [], _, x, hx => by cases hx
  | c :: r, h, x, hx => by
    rw [escS_cons] at hx
    have hc := h c (List.mem_cons_self ..)
    have hr := esc_range r (fun y hy => h y (List.mem_cons_of_mem _ hy))
    split at hx
    · rcases List.mem_cons.1 hx with rfl | hx
      · omega
      · rcases List.mem_cons.1 hx with rfl | hx
        · exact hc
        · exact hr x hx
    · rcases List.mem_cons.1 hx with rfl | hx
      · exact hc
      · exact hr x hx
theorem plO_esc (s : ByteArray) (hs : s.size ≤ 200) : plO (strOfNums (escS (bytesOf s))) = some s := by
  unfold plO
  rw [plF_plL _ _ 0 [] (by omega) (Nat.zero_le _), List.drop_zero, back_nums _ (esc_range _ (bytes_range s)), plL_esc]
  show (if ([] ++ bytesOf s).length ≤ 200 then some (strOfNums ([] ++ bytesOf s)) else none) = _
  rw [List.nil_append, if_pos (by rw [bytesOf_length]; exact hs), strNums_bytesOf]
theorem plO_back (f s : ByteArray) (h : plO f = some s) (hn : ncB (bytesOf f) false = true) : strOfNums (escS (bytesOf s)) = f ∧ s.size ≤ 200 := by
  unfold plO at h
  rw [plF_plL _ _ 0 [] (by omega) (Nat.zero_le _), List.drop_zero] at h
  cases hp : plL (bytesOf f) false with
  | none => rw [hp] at h; cases h
  | some m =>
    rw [hp] at h
    have h : (if ([] ++ m).length ≤ 200 then some (strOfNums ([] ++ m)) else none) = some s := h
    rw [List.nil_append] at h
    split at h
    · rename_i hl
      obtain rfl : strOfNums m = s := Option.some.inj h
      rw [back_nums m (plL_range _ _ m hp (bytes_range f)), (plL_back _ m).1 hp hn, strNums_bytesOf]
      exact ⟨rfl, by rw [strNums_size]; exact hl⟩
    · cases h
theorem fb_false : (⟨(Lib.formatBool ((0 : Int) == 1)).toArray⟩ : ByteArray) = ⟨#[102, 97, 108, 115, 101]⟩ := by decide +kernel
theorem fb_true : (⟨(Lib.formatBool ((1 : Int) == 1)).toArray⟩ : ByteArray) = ⟨#[116, 114, 117, 101]⟩ := by decide +kernel
theorem em_list : (⟨#[]⟩ : ByteArray).toList = [] := by rw [Lib.toList_data]
theorem chk00 : chkV ⟨0, 0, ⟨#[]⟩⟩ = 0 := by
  show (if (0 : Int) = 0 then (if (0 : Int) = 0 ∧ (⟨#[]⟩ : ByteArray).toList = [] then (0 : Int) else 31) else _) = 0
  rw [if_pos rfl, if_pos ⟨rfl, em_list⟩]
theorem chk1 (n : Int) : chkV ⟨1, n, ⟨#[]⟩⟩ = 0 := by
  show (if (1 : Int) = 0 then _ else if (1 : Int) = 1 then (if (⟨#[]⟩ : ByteArray).toList = [] then (0 : Int) else 31) else _) = 0
  rw [if_neg (by decide), if_pos rfl, if_pos em_list]
theorem chk2 (n : Int) (h : n = 0 ∨ n = 1) : chkV ⟨2, n, ⟨#[]⟩⟩ = 0 := by
  show (if (2 : Int) = 0 then _ else if (2 : Int) = 1 then _ else if (2 : Int) = 2 then (if (n = 0 ∨ n = 1) ∧ (⟨#[]⟩ : ByteArray).toList = [] then (0 : Int) else 31) else _) = 0
  rw [if_neg (by decide), if_neg (by decide), if_pos rfl, if_pos ⟨h, em_list⟩]
theorem empty_of {s : ByteArray} (h : s.toList = []) : s = ⟨#[]⟩ := toList_inj (by rw [h, em_list])
/-- A value's field is closed, and says the value. -/
theorem field_says (c : Co) (v : Va) (h64 : in64 v.f1) (hok : okF c v = true) : clB (bytesOf (fieldB v)) false = true ∧ saysO (plO (fieldB v)) c.f1 (fieldB v) = some v := by
  unfold okF at hok
  rw [Bool.and_eq_true] at hok
  have hc := of_decide_eq_true hok.1
  have hk := hok.2
  obtain ⟨k0, n, s⟩ := v
  simp only at h64
  have hfb : fieldB ⟨k0, n, s⟩ = if k0 = 0 then ⟨#[92, 78]⟩ else if k0 = 1 then ⟨(Lib.itoa n).toArray⟩ else if k0 = 2 then ⟨(Lib.formatBool (n == 1)).toArray⟩ else strOfNums (escS (bytesOf s)) := rfl
  have hchk : chkV ⟨k0, n, s⟩ = if k0 = 0 then (if n = 0 ∧ s.toList = [] then 0 else 31)
      else if k0 = 1 then (if s.toList = [] then 0 else 31)
      else if k0 = 2 then (if (n = 0 ∨ n = 1) ∧ s.toList = [] then 0 else 31)
      else if k0 = 3 then (if n = 0 ∧ s.size ≤ 200 then 0 else 31) else 30 := rfl
  rw [hchk] at hc
  by_cases h0 : k0 = 0
  · subst h0
    rw [if_pos rfl] at hc hfb
    rw [hfb]
    split at hc
    · rename_i h
      obtain ⟨rfl, h⟩ := h
      obtain rfl := empty_of h
      refine ⟨by decide, ?_⟩
      unfold saysO
      rw [if_pos rfl]
    · cases hc
  rw [if_neg h0] at hc hfb
  have hkc : k0 = c.f1 := by
    rw [Bool.or_eq_true] at hk
    rcases hk with hk | hk
    · exact absurd (of_decide_eq_true hk) h0
    · exact of_decide_eq_true hk
  rw [← hkc]
  by_cases h1 : k0 = 1
  · subst h1
    rw [if_pos rfl] at hc hfb
    rw [hfb]
    split at hc
    · rename_i h
      obtain rfl := empty_of h
      refine ⟨itoa_closed n, ?_⟩
      unfold saysO
      rw [if_neg (itoa_ne n), if_pos rfl]
      have e : saysL (⟨(Lib.itoa n).toArray⟩ : ByteArray).data.toList = some n := by
        show saysL (Lib.itoa n) = some n
        unfold saysL
        rw [parse_itoa n h64]
        simp only [if_true]
      rw [e]
      rfl
    · cases hc
  rw [if_neg h1] at hc hfb
  by_cases h2 : k0 = 2
  · subst h2
    rw [if_pos rfl] at hc hfb
    rw [hfb]
    split at hc
    · rename_i h
      obtain ⟨hn, h⟩ := h
      obtain rfl := empty_of h
      rcases hn with rfl | rfl
      · rw [fb_false]
        refine ⟨by decide, ?_⟩
        unfold saysO
        rw [if_neg (by decide), if_neg (by decide), if_pos rfl, if_neg (by decide), if_pos rfl]
      · rw [fb_true]
        refine ⟨by decide, ?_⟩
        unfold saysO
        rw [if_neg (by decide), if_neg (by decide), if_pos rfl, if_pos rfl]
    · cases hc
  rw [if_neg h2] at hc hfb
  by_cases h3 : k0 = 3
  · subst h3
    rw [if_pos rfl] at hc
    rw [hfb]
    split at hc
    · rename_i h
      obtain ⟨rfl, hs⟩ := h
      refine ⟨by rw [back_nums _ (esc_range _ (bytes_range s))]; exact clB_esc _, ?_⟩
      unfold saysO
      rw [if_neg (esc_ne _ (bytes_range s)), if_neg (by decide), if_neg (by decide), plO_esc s hs]
      rfl
    · cases hc
  · rw [if_neg h3] at hc
    cases hc
/-- What a field says is written so. -/
theorem says_field (c : Co) (f : ByteArray) (v : Va) (hk : 1 ≤ c.f1 ∧ c.f1 ≤ 3) (hn : ncB (bytesOf f) false = true) (h : saysO (plO f) c.f1 f = some v) : okF c v = true ∧ fieldB v = f ∧ in64 v.f1 := by
  unfold saysO at h
  have hok : ∀ (k0 n : Int) (s : ByteArray), chkV ⟨k0, n, s⟩ = 0 → (k0 = 0 ∨ k0 = c.f1) → okF c ⟨k0, n, s⟩ = true := fun k0 n s h1 h2 => by
    show (decide (chkV _ = 0) && (decide (k0 = 0) || decide (k0 = c.f1))) = true
    rw [decide_eq_true h1, Bool.true_and]
    rcases h2 with h2 | h2
    · rw [decide_eq_true h2]; rfl
    · rw [decide_eq_true h2, Bool.or_true]
  have z64 : in64 0 := by unfold in64; omega
  have o64 : in64 1 := by unfold in64; omega
  split at h
  · rename_i hf
    obtain rfl := Option.some.inj h
    exact ⟨hok 0 0 _ chk00 (.inl rfl), hf.symm, z64⟩
  · split at h
    · rename_i _ h1
      cases hs : saysL f.data.toList with
      | none => rw [hs] at h; cases h
      | some n =>
        rw [hs] at h
        obtain rfl : (⟨1, n, ⟨#[]⟩⟩ : Va) = v := Option.some.inj h
        unfold saysL at hs
        cases hp : Lib.parseIntB 64 f.data.toList with
        | ok m =>
          rw [hp] at hs
          simp only at hs
          split at hs
          · rename_i he
            obtain rfl : m = n := Option.some.inj hs
            refine ⟨hok 1 m _ (chk1 m) (.inr h1.symm), ?_, parse_in hp⟩
            show (⟨(Lib.itoa m).toArray⟩ : ByteArray) = f
            rw [he]
          · cases hs
        | «syntax» => rw [hp] at hs; cases hs
        | range => rw [hp] at hs; cases hs
    · split at h
      · rename_i _ _ h2
        split at h
        · rename_i hf
          obtain rfl := Option.some.inj h
          refine ⟨hok 2 1 _ (chk2 1 (.inr rfl)) (.inr h2.symm), ?_, o64⟩
          show (⟨(Lib.formatBool ((1 : Int) == 1)).toArray⟩ : ByteArray) = f
          rw [fb_true, hf]
        · split at h
          · rename_i hf
            obtain rfl := Option.some.inj h
            refine ⟨hok 2 0 _ (chk2 0 (.inl rfl)) (.inr h2.symm), ?_, z64⟩
            show (⟨(Lib.formatBool ((0 : Int) == 1)).toArray⟩ : ByteArray) = f
            rw [fb_false, hf]
          · cases h
      · rename_i h0 h1 h2
        cases hp : plO f with
        | none => rw [hp] at h; cases h
        | some t =>
          rw [hp] at h
          obtain rfl : (⟨3, 0, t⟩ : Va) = v := Option.some.inj h
          obtain ⟨e1, e2⟩ := plO_back f t hp hn
          refine ⟨hok 3 0 t ?_ (.inr (by omega)), e1, z64⟩
          show (if (3 : Int) = 0 then _ else if (3 : Int) = 1 then _ else if (3 : Int) = 2 then _ else if (3 : Int) = 3 then (if (0 : Int) = 0 ∧ t.size ≤ 200 then (0 : Int) else 31) else 30) = 0
          rw [if_neg (by decide), if_neg (by decide), if_neg (by decide), if_pos rfl, if_pos ⟨rfl, e2⟩]
theorem recL_says : ∀ (l : List Co) (vs : List Va) (fs : List ByteArray), vs.length = l.length → (∀ v ∈ vs, in64 v.f1) → recL l vs = some fs →
    fs.length = l.length ∧ (∀ f ∈ fs, clB (bytesOf f) false = true) ∧ valsO plO l fs = some vs
  | [], [], fs, _, _, h => by
    obtain rfl : [] = fs := Option.some.inj h
    exact ⟨rfl, (fun f hf => by cases hf), rfl⟩
  | c :: cs, v :: vs, fs, hl, h64, h => by
    rw [recL_cons] at h
    split at h
    · rename_i hok
      cases hr : recL cs vs with
      | none => rw [hr] at h; cases h
      | some gs =>
        rw [hr] at h
        obtain rfl : fieldB v :: gs = fs := Option.some.inj h
        obtain ⟨i1, i2, i3⟩ := recL_says cs vs gs (by simpa using hl) (fun x hx => h64 x (List.mem_cons_of_mem _ hx)) hr
        obtain ⟨f1, f2⟩ := field_says c v (h64 v (List.mem_cons_self ..)) hok
        refine ⟨by simp [i1], fun f hf => ?_, ?_⟩
        · rcases List.mem_cons.1 hf with rfl | hf
          · exact f1
          · exact i2 f hf
        · have e : valsO plO (c :: cs) (fieldB v :: gs) = match saysO (plO (fieldB v)) c.f1 (fieldB v) with | none => none | some v => (valsO plO cs gs).map (v :: ·) := rfl
          rw [e, f2, i3]
          rfl
    · cases h
  | [], v :: vs, fs, hl, _, _ => by simp at hl
  | c :: cs, [], fs, hl, _, _ => by simp at hl
theorem vals_rec : ∀ (l : List Co) (fs : List ByteArray) (vs : List Va), fs.length = l.length → (∀ c ∈ l, 1 ≤ c.f1 ∧ c.f1 ≤ 3) → (∀ f ∈ fs, ncB (bytesOf f) false = true) → valsO plO l fs = some vs →
    recL l vs = some fs ∧ vs.length = l.length ∧ ∀ v ∈ vs, in64 v.f1
  | [], [], vs, _, _, _, h => by
    obtain rfl : [] = vs := Option.some.inj h
    exact ⟨rfl, rfl, (fun v hv => by cases hv)⟩
  | c :: cs, f :: fs, vs, hl, hk, hn, h => by
    have e : valsO plO (c :: cs) (f :: fs) = match saysO (plO f) c.f1 f with | none => none | some v => (valsO plO cs fs).map (v :: ·) := rfl
    rw [e] at h
    cases hs : saysO (plO f) c.f1 f with
    | none => rw [hs] at h; cases h
    | some v =>
      rw [hs] at h
      simp only at h
      cases hv : valsO plO cs fs with
      | none => rw [hv] at h; cases h
      | some us =>
        rw [hv] at h
        obtain rfl : v :: us = vs := Option.some.inj h
        obtain ⟨i1, i2, i3⟩ := vals_rec cs fs us (by simpa using hl) (fun x hx => hk x (List.mem_cons_of_mem _ hx)) (fun x hx => hn x (List.mem_cons_of_mem _ hx)) hv
        obtain ⟨o1, o2, o3⟩ := says_field c f v (hk c (List.mem_cons_self ..)) (hn f (List.mem_cons_self ..)) hs
        refine ⟨?_, by simp [i2], fun x hx => ?_⟩
        · rw [recL_cons, if_pos o1, i1, o2]
          rfl
        · rcases List.mem_cons.1 hx with rfl | hx
          · exact o3
          · exact i3 x hx
  | [], f :: fs, vs, hl, _, _, _ => by simp at hl
  | c :: cs, [], vs, hl, _, _, _ => by simp at hl
theorem map_inj {a b : List ByteArray} (h : a.map bytesOf = b.map bytesOf) : a = b := by
  induction a generalizing b with
  | nil => cases b with
    | nil => rfl
    | cons _ _ => cases h
  | cons x a ih => cases b with
    | nil => cases h
    | cons y b =>
      rw [List.map_cons, List.map_cons] at h
      injection h with h1 h2
      rw [bytes_inj h1, ih h2]
/-- A row's record says the row. -/
theorem rec_row (l : List Co) (hl : l.length ≠ 0) (vs : List Va) (h64 : ∀ v ∈ vs, in64 v.f1) (fs : List ByteArray) (hlen : vs.length = l.length) (h : recL l vs = some fs) : rowR plO 0 l (joinB fs) = (vs, 0) := by
  obtain ⟨h1, h2, h3⟩ := recL_says l vs fs hlen h64 h
  have hne : fs.map bytesOf ≠ [] := by
    intro e
    have : fs.length = 0 := by rw [← List.length_map (f := bytesOf), e]; rfl
    omega
  have e : fields (joinB fs) ((joinB fs).size + 1) 0 = fs := by
    apply map_inj
    rw [fields_spl, joinB_bytes, spl_jn _ hne (fun f hf => by obtain ⟨x, hx, rfl⟩ := List.mem_map.1 hf; exact h2 x hx)]
  unfold rowR
  rw [if_neg (by decide), e, if_neg (by omega), h3]
/-- A record's row is written as the record. -/
theorem row_rec (l : List Co) (hk : ∀ c ∈ l, 1 ≤ c.f1 ∧ c.f1 ≤ 3) (s : ByteArray) (vs : List Va) (h : rowR plO 0 l s = (vs, 0)) : recR 0 l vs = (bytesOf s, 0) ∧ vs.length = l.length ∧ ∀ v ∈ vs, in64 v.f1 := by
  unfold rowR at h
  rw [if_neg (by decide)] at h
  split at h
  · injection h with _ h
    exact absurd h (by decide)
  · rename_i hlen
    have hlen : (fields s (s.size + 1) 0).length = l.length := by omega
    split at h
    · injection h with _ h
      exact absurd h (by decide)
    · rename_i us hv
      injection h with h _
      subst h
      obtain ⟨r1, r2, r3⟩ := vals_rec l _ us hlen hk (fun f hf => by
        have hm : bytesOf f ∈ (fields s (s.size + 1) 0).map bytesOf := List.mem_map.2 ⟨f, hf, rfl⟩
        rw [fields_spl] at hm
        exact spl_nc (bytesOf s) false [] rfl rfl _ hm) hv
      refine ⟨?_, r2, r3⟩
      unfold recR
      rw [if_neg (by decide), if_neg (fun h => h r2), r1]
      show (bytesOf (joinB (fields s (s.size + 1) 0)), (0 : Int)) = _
      rw [joinB_bytes, fields_spl, jn_spl]
      rfl
end Go.Proofs.YtnjlgeenhmamjaaGreatDoor.Q
