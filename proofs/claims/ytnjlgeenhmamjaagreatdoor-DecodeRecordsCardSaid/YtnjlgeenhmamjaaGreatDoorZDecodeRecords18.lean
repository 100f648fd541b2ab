/- Values' checks, and what a row's fields are, in plain words. -/
import Derived.Test.YtnjlgeenhmamjaaGreatDoorZDecodeRecords2
import Derived.Test.YtnjlgeenhmamjaaGreatDoorZDecodeRecords16
import Derived.Test.YtnjlgeenhmamjaaGreatDoorZDecodeRecords13
import Derived.Lib.Strings
import Derived.Lib.ItoaLen
import Derived.Lib.Join
import Derived.Lib.Small
import Derived.Test.YtnjlgeenhmamjaaGreatDoorZDecodeRecords14
import Derived.Test.YtnjlgeenhmamjaaGreatDoorZDecodeRecords3
namespace Go.Proofs.YtnjlgeenhmamjaaGreatDoor.Q
open Go.RowKit Go.Proofs.YtnjlgeenhmamjaaGreatDoorW.PrintWords Go.Proofs.YtnjlgeenhmamjaaGreatDoorW.PrintLast Go.Proofs.YtnjlgeenhmamjaaGreatDoorW.PrintMore
set_option linter.unusedVariables false
set_option linter.unusedSimpArgs false
/-- What is wrong with a value. -/
def chkV (v : S41) : Int :=
  if v.f0 = 0 then (if v.f1 = 0 ∧ v.f2.toList = [] then 0 else 31)
  else if v.f0 = 1 then (if v.f2.toList = [] then 0 else 31)
  else if v.f0 = 2 then (if (v.f1 = 0 ∨ v.f1 = 1) ∧ v.f2.toList = [] then 0 else 31)
  else if v.f0 = 3 then (if v.f1 = 0 ∧ v.f2.size ≤ 200 then 0 else 31) else 30
theorem chk_ev (v : S41) : Go.Proofs.YtnjlgeenhmamjaaGreatDoorW.PrintWords.Ev (fun k => value_Check.f k v.f0 v.f1 v.f2) (chkV v) := by
  obtain ⟨k0, n, s⟩ := v
  unfold value_Check.f chkV
  simp only
  have hj1 : ∀ b : Bool, Go.Proofs.YtnjlgeenhmamjaaGreatDoorW.PrintWords.Ev (fun k => value_Check.j1 k b) (if b = true then 31 else 0) := by
    intro b
    refine Go.Proofs.YtnjlgeenhmamjaaGreatDoorW.PrintWords.Ev.step (f := fun _ => some (if b = true then 31 else 0)) (fun k => ?_) (Go.Proofs.YtnjlgeenhmamjaaGreatDoorW.PrintWords.Ev.now _)
    simp only [value_Check.j1]
    split <;> rfl
  have hj0 : ∀ (g : Bool), Go.Proofs.YtnjlgeenhmamjaaGreatDoorW.PrintWords.Ev (fun k => value_Check.j0 k g k0 n s) (if g = true then (if k0 = 3 then 0 else (if s.toList = [] then 0 else 31)) else 31) := by
    intro g
    cases g with
    | false =>
      refine Go.Proofs.YtnjlgeenhmamjaaGreatDoorW.PrintWords.Ev.step (fun k => ?_) (hj1 true)
      simp only [value_Check.j0]
      rw [if_neg (by simp)]
    | true =>
      by_cases h3 : k0 = 3
      · simp only [if_true, if_pos h3]
        refine Go.Proofs.YtnjlgeenhmamjaaGreatDoorW.PrintWords.Ev.step (fun k => ?_) (hj1 false)
        simp only [value_Check.j0]
        rw [if_pos trivial, if_pos h3]
      · simp only [if_true, if_neg h3]
        have h := hj1 (s.toList != [])
        have e : (if (s.toList != []) = true then (31 : Int) else 0) = (if s.toList = [] then 0 else 31) := by
          by_cases hs : s.toList = []
          · rw [if_neg (by simp [hs]), if_pos hs]
          · rw [if_pos (by simp [hs]), if_neg hs]
        rw [e] at h
        refine Go.Proofs.YtnjlgeenhmamjaaGreatDoorW.PrintWords.Ev.step (fun k => ?_) h
        simp only [value_Check.j0]
        rw [if_pos trivial, if_neg h3]
  by_cases h0 : k0 = 0
  · rw [if_pos h0]
    refine Go.Proofs.YtnjlgeenhmamjaaGreatDoorW.PrintWords.Ev.congr (fun k => if_pos h0) ?_
    have h := hj0 (n == 0)
    rw [if_neg (show ¬ k0 = 3 by omega)] at h
    by_cases hn : n = 0
    · rw [if_pos (by simp [hn])] at h
      have e : (if n = 0 ∧ s.toList = [] then (0 : Int) else 31) = (if s.toList = [] then 0 else 31) := by simp [hn]
      rw [e]
      exact h
    · rw [if_neg (by simp [hn])] at h
      rw [if_neg (fun z => hn z.1)]
      exact h
  · rw [if_neg h0]
    refine Go.Proofs.YtnjlgeenhmamjaaGreatDoorW.PrintWords.Ev.congr (fun k => if_neg h0) ?_
    by_cases h1 : k0 = 1
    · rw [if_pos h1]
      refine Go.Proofs.YtnjlgeenhmamjaaGreatDoorW.PrintWords.Ev.congr (fun k => if_pos h1) ?_
      have h := hj0 true
      rw [if_pos rfl, if_neg (show ¬ k0 = 3 by omega)] at h
      exact h
    · rw [if_neg h1]
      refine Go.Proofs.YtnjlgeenhmamjaaGreatDoorW.PrintWords.Ev.congr (fun k => if_neg h1) ?_
      by_cases h2 : k0 = 2
      · rw [if_pos h2]
        refine Go.Proofs.YtnjlgeenhmamjaaGreatDoorW.PrintWords.Ev.congr (fun k => if_pos h2) ?_
        by_cases hn : n = 0
        · refine Go.Proofs.YtnjlgeenhmamjaaGreatDoorW.PrintWords.Ev.congr (fun k => if_pos hn) ?_
          have h := hj0 true
          rw [if_pos rfl, if_neg (show ¬ k0 = 3 by omega)] at h
          have e : (if (n = 0 ∨ n = 1) ∧ s.toList = [] then (0 : Int) else 31) = (if s.toList = [] then 0 else 31) := by simp [hn]
          rw [e]
          exact h
        · refine Go.Proofs.YtnjlgeenhmamjaaGreatDoorW.PrintWords.Ev.congr (fun k => if_neg hn) ?_
          have h := hj0 (n == 1)
          rw [if_neg (show ¬ k0 = 3 by omega)] at h
          by_cases hn1 : n = 1
          · rw [if_pos (by simp [hn1])] at h
            have e : (if (n = 0 ∨ n = 1) ∧ s.toList = [] then (0 : Int) else 31) = (if s.toList = [] then 0 else 31) := by simp [hn1]
            rw [e]
            exact h
          · rw [if_neg (by simp [hn1])] at h
            rw [if_neg (fun z => by omega)]
            exact h
      · rw [if_neg h2]
        refine Go.Proofs.YtnjlgeenhmamjaaGreatDoorW.PrintWords.Ev.congr (fun k => if_neg h2) ?_
        by_cases h3 : k0 = 3
        · rw [if_pos h3]
          refine Go.Proofs.YtnjlgeenhmamjaaGreatDoorW.PrintWords.Ev.congr (fun k => if_pos h3) ?_
          by_cases hn : n = 0
          · refine Go.Proofs.YtnjlgeenhmamjaaGreatDoorW.PrintWords.Ev.congr (fun k => if_pos hn) ?_
            have h := hj0 (decide ((s.size : Int) ≤ 200))
            rw [if_pos h3] at h
            by_cases hs : s.size ≤ 200
            · rw [if_pos (by simp; omega)] at h
              rw [if_pos ⟨hn, hs⟩]
              exact h
            · rw [if_neg (by simp; omega)] at h
              rw [if_neg (fun z => hs z.2)]
              exact h
          · refine Go.Proofs.YtnjlgeenhmamjaaGreatDoorW.PrintWords.Ev.congr (fun k => if_neg hn) ?_
            have h := hj0 false
            rw [if_neg (by simp)] at h
            rw [if_neg (fun z => hn z.1)]
            exact h
        · rw [if_neg h3]
          exact Go.Proofs.YtnjlgeenhmamjaaGreatDoorW.PrintWords.Ev.congr (fun k => if_neg h3) (Go.Proofs.YtnjlgeenhmamjaaGreatDoorW.PrintWords.Ev.now _)
theorem refChk_ev (k n : Int) (s : ByteArray) : Go.Proofs.YtnjlgeenhmamjaaGreatDoorW.PrintWords.Ev (fun K => headgateref03_Check.f K k n s) (chkV ⟨k, n, s⟩) := by
  unfold headgateref03_Check.f chkV
  simp only
  have hj1 : ∀ b : Bool, Go.Proofs.YtnjlgeenhmamjaaGreatDoorW.PrintWords.Ev (fun K => headgateref03_Check.j1 K b) (if b = true then 31 else 0) := by
    intro b
    refine Go.Proofs.YtnjlgeenhmamjaaGreatDoorW.PrintWords.Ev.step (f := fun _ => some (if b = true then 31 else 0)) (fun k => ?_) (Go.Proofs.YtnjlgeenhmamjaaGreatDoorW.PrintWords.Ev.now _)
    simp only [headgateref03_Check.j1]
    split <;> rfl
  by_cases hneg : k < 0
  · refine Go.Proofs.YtnjlgeenhmamjaaGreatDoorW.PrintWords.Ev.congr (fun _ => if_pos hneg) (Go.Proofs.YtnjlgeenhmamjaaGreatDoorW.PrintWords.Ev.step (f := fun _ => some 30) (fun K => ?_) ?_)
    · simp only [headgateref03_Check.j0]
      rw [if_pos trivial]
    · rw [if_neg (by omega), if_neg (by omega), if_neg (by omega), if_neg (by omega)]
      exact Go.Proofs.YtnjlgeenhmamjaaGreatDoorW.PrintWords.Ev.now _
  refine Go.Proofs.YtnjlgeenhmamjaaGreatDoorW.PrintWords.Ev.congr (fun _ => if_neg hneg) ?_
  by_cases hbig : k > 3
  · rw [decide_eq_true hbig]
    refine Go.Proofs.YtnjlgeenhmamjaaGreatDoorW.PrintWords.Ev.step (f := fun _ => some 30) (fun K => ?_) ?_
    · simp only [headgateref03_Check.j0]
      rw [if_pos trivial]
    · rw [if_neg (by omega), if_neg (by omega), if_neg (by omega), if_neg (by omega)]
      exact Go.Proofs.YtnjlgeenhmamjaaGreatDoorW.PrintWords.Ev.now _
  rw [decide_eq_false hbig]
  by_cases h3 : k = 3
  · rw [if_neg (by omega), if_neg (by omega), if_neg (by omega), if_pos h3]
    by_cases hn : n = 0
    · by_cases hs : s.size ≤ 200
      · rw [if_pos ⟨hn, hs⟩]
        refine Go.Proofs.YtnjlgeenhmamjaaGreatDoorW.PrintWords.Ev.step (f := fun _ => some 0) (fun K => ?_) (Go.Proofs.YtnjlgeenhmamjaaGreatDoorW.PrintWords.Ev.now _)
        simp only [headgateref03_Check.j0]
        rw [if_neg (by simp), if_pos h3, if_pos hn, if_neg (by omega)]
      · rw [if_neg (fun h => hs h.2)]
        refine Go.Proofs.YtnjlgeenhmamjaaGreatDoorW.PrintWords.Ev.step (f := fun _ => some 31) (fun K => ?_) (Go.Proofs.YtnjlgeenhmamjaaGreatDoorW.PrintWords.Ev.now _)
        simp only [headgateref03_Check.j0]
        rw [if_neg (by simp), if_pos h3, if_pos hn, if_pos (by omega)]
    · rw [if_neg (fun h => hn h.1)]
      refine Go.Proofs.YtnjlgeenhmamjaaGreatDoorW.PrintWords.Ev.step (f := fun _ => some 31) (fun K => ?_) (Go.Proofs.YtnjlgeenhmamjaaGreatDoorW.PrintWords.Ev.now _)
      simp only [headgateref03_Check.j0]
      rw [if_neg (by simp), if_pos h3, if_neg hn]
  · by_cases hs : s.toList = []
    · by_cases h0 : k = 0
      · rw [if_pos h0]
        by_cases hn : n = 0
        · rw [if_pos ⟨hn, hs⟩]
          refine Go.Proofs.YtnjlgeenhmamjaaGreatDoorW.PrintWords.Ev.step (fun K => ?_) (hj1 false)
          simp only [headgateref03_Check.j0]
          rw [if_neg (by simp), if_neg h3, if_pos hs, if_pos h0, if_pos hn, if_neg (by omega)]
        · rw [if_neg (fun h => hn h.1)]
          refine Go.Proofs.YtnjlgeenhmamjaaGreatDoorW.PrintWords.Ev.step (fun K => ?_) (hj1 true)
          simp only [headgateref03_Check.j0]
          rw [if_neg (by simp), if_neg h3, if_pos hs, if_pos h0, if_neg hn]
      · rw [if_neg h0]
        by_cases h1 : k = 1
        · rw [if_pos h1, if_pos hs]
          refine Go.Proofs.YtnjlgeenhmamjaaGreatDoorW.PrintWords.Ev.step (fun K => ?_) (hj1 false)
          simp only [headgateref03_Check.j0]
          rw [if_neg (by simp), if_neg h3, if_pos hs, if_neg h0, if_neg (by omega)]
        · rw [if_neg h1]
          have h2 : k = 2 := by omega
          rw [if_pos h2]
          by_cases hn : n = 0
          · rw [if_pos ⟨.inl hn, hs⟩]
            refine Go.Proofs.YtnjlgeenhmamjaaGreatDoorW.PrintWords.Ev.step (fun K => ?_) (hj1 false)
            simp only [headgateref03_Check.j0]
            rw [if_neg (by simp), if_neg h3, if_pos hs, if_neg h0, if_pos h2, if_pos hn]
          · have hj := hj1 (n != 1)
            have e : (if (n != 1) = true then (31 : Int) else 0) = (if (n = 0 ∨ n = 1) ∧ s.toList = [] then 0 else 31) := by
              by_cases hn1 : n = 1
              · rw [if_neg (by simp [hn1]), if_pos ⟨.inr hn1, hs⟩]
              · rw [if_pos (by simpa using hn1), if_neg (fun h => by omega)]
            rw [e] at hj
            refine Go.Proofs.YtnjlgeenhmamjaaGreatDoorW.PrintWords.Ev.step (fun K => ?_) hj
            simp only [headgateref03_Check.j0]
            rw [if_neg (by simp), if_neg h3, if_pos hs, if_neg h0, if_pos h2, if_neg hn]
    · have e : (if k = 0 then (if n = 0 ∧ s.toList = [] then (0 : Int) else 31) else if k = 1 then (if s.toList = [] then 0 else 31) else if k = 2 then (if (n = 0 ∨ n = 1) ∧ s.toList = [] then 0 else 31) else if k = 3 then (if n = 0 ∧ s.size ≤ 200 then 0 else 31) else 30) = 31 := by
        by_cases h0 : k = 0
        · rw [if_pos h0, if_neg (fun h => hs h.2)]
        · rw [if_neg h0]
          by_cases h1 : k = 1
          · rw [if_pos h1, if_neg hs]
          · rw [if_neg h1, if_pos (show k = 2 by omega), if_neg (fun h => hs h.2)]
      rw [e]
      refine Go.Proofs.YtnjlgeenhmamjaaGreatDoorW.PrintWords.Ev.step (fun K => ?_) (hj1 true)
      simp only [headgateref03_Check.j0]
      rw [if_neg (by simp), if_neg h3, if_neg hs]

/-- A value as a field. -/
def fieldB (v : Va) : ByteArray :=
  if v.f0 = 0 then ⟨#[92, 78]⟩ else if v.f0 = 1 then ⟨(Lib.itoa v.f1).toArray⟩ else if v.f0 = 2 then ⟨(Lib.formatBool (v.f1 == 1)).toArray⟩ else strOfNums (escS (bytesOf v.f2))
/-- May a value stand in a column? -/
def okF (c : Co) (v : Va) : Bool := decide (chkV v = 0) && (decide (v.f0 = 0) || decide (v.f0 = c.f1))
/-- A row's fields. -/
def recL : List Co → List Va → Option (List ByteArray)
  | c :: cs, v :: vs => if okF c v = true then (recL cs vs).map (fieldB v :: ·) else none
  | _, _ => some []
theorem recL_cons (c : Co) (cs : List Co) (v : Va) (vs : List Va) : recL (c :: cs) (v :: vs) = if okF c v = true then (recL cs vs).map (fieldB v :: ·) else none := rfl
def joinB (fs : List ByteArray) : ByteArray := ⟨(Lib.join (fs.map (·.data.toList)) [44]).toArray⟩
/-- What decode.Record answers, r being what is wrong with the columns. -/
def recR (r : Int) (l : List Co) (vs : List Va) : List Int × Int :=
  if r ≠ 0 then ([], r) else if vs.length ≠ l.length then ([], 121) else match recL l vs with
    | none => ([], 122)
    | some fs => (bytesOf (joinB fs), 0)
theorem size_mk (a : Array UInt8) : (⟨a⟩ : ByteArray).size = a.size := rfl
theorem strNums_size (l : List Int) : (strOfNums l).size = l.length := by
  unfold strOfNums
  first | (rw [size_mk]; simp; done) | (simp [ByteArray.size]; done)
theorem field_size (v : Va) (h64 : in64 v.f1) (hc : chkV v = 0) : (fieldB v).size ≤ 400 := by
  unfold fieldB
  split
  · decide
  · split
    · rw [size_mk, List.size_toArray]
      have := Lib.itoa_length_le v.f1 h64.1 h64.2
      omega
    · split
      · rw [size_mk, List.size_toArray]
        cases (v.f1 == 1) <;> decide
      · rename_i h0 h1 h2
        rw [strNums_size, escS_len, bytesOf_length]
        have h9 := cntS_le (bytesOf v.f2)
        rw [bytesOf_length] at h9
        have : v.f2.size ≤ 200 := by
          unfold chkV at hc
          rw [if_neg h0, if_neg h1, if_neg h2] at hc
          split at hc
          · split at hc
            · rename_i h; exact h.2
            · cases hc
          · cases hc
        omega
theorem recL_size : ∀ (l : List Co) (vs : List Va) (fs : List ByteArray), (∀ v ∈ vs, in64 v.f1) → recL l vs = some fs → fs.length ≤ vs.length ∧ ∀ f ∈ fs, f.size ≤ 400
  | c :: cs, v :: vs, fs, h64, h => by
    rw [recL_cons] at h
    split at h
    · rename_i hok
      cases hr : recL cs vs with
      | none => rw [hr] at h; cases h
      | some gs =>
        rw [hr] at h
        obtain rfl : fieldB v :: gs = fs := Option.some.inj h
        obtain ⟨i1, i2⟩ := recL_size cs vs gs (fun x hx => h64 x (List.mem_cons_of_mem _ hx)) hr
        refine ⟨by simp only [List.length_cons]; omega, fun f hf => ?_⟩
        rcases List.mem_cons.1 hf with rfl | hf
        · unfold okF at hok
          rw [Bool.and_eq_true] at hok
          exact field_size v (h64 v (List.mem_cons_self ..)) (of_decide_eq_true hok.1)
        · exact i2 f hf
    · cases h
  | [], vs, fs, _, h => by obtain rfl : [] = fs := by cases vs <;> exact Option.some.inj h
                           exact ⟨Nat.zero_le _, fun f hf => by cases hf⟩
  | _ :: _, [], fs, _, h => by obtain rfl : [] = fs := Option.some.inj h
                               exact ⟨Nat.zero_le _, fun f hf => by cases hf⟩
theorem tail_len (sep : List UInt8) (m : Nat) : ∀ r : List (List UInt8), (∀ x ∈ r, x.length ≤ m) → (Lib.joinTail sep r).length ≤ r.length * (sep.length + m)
  | [], _ => by simp [Lib.joinTail]
  | x :: r, h => by
    have ih := tail_len sep m r (fun y hy => h y (List.mem_cons_of_mem _ hy))
    have hx := h x (List.mem_cons_self ..)
    have e : (Lib.joinTail sep (x :: r)).length = sep.length + x.length + (Lib.joinTail sep r).length := by simp [Lib.joinTail, Nat.add_assoc]
    rw [e, List.length_cons, Nat.succ_mul]
    omega
theorem join_len (sep : List UInt8) (m : Nat) (r : List (List UInt8)) (h : ∀ x ∈ r, x.length ≤ m) : (Lib.join r sep).length ≤ r.length * (sep.length + m) := by
  cases r with
  | nil => simp [Lib.join_nil]
  | cons x r =>
    rw [Lib.join_cons, List.length_append, List.length_cons, Nat.succ_mul]
    have := tail_len sep m r (fun y hy => h y (List.mem_cons_of_mem _ hy))
    have := h x (List.mem_cons_self ..)
    omega
theorem joinB_size (fs : List ByteArray) (n : Nat) (hn : fs.length ≤ n) (h : ∀ f ∈ fs, f.size ≤ 400) : (Lib.join (fs.map (·.data.toList)) [44]).length ≤ n * 401 := by
  refine Nat.le_trans (join_len [44] 400 _ (fun x hx => ?_)) ?_
  · obtain ⟨f, hf, rfl⟩ := List.mem_map.1 hx
    exact Nat.le_trans (Nat.le_of_eq (by rw [Array.length_toList]; rfl)) (h f hf)
  · rw [List.length_map]
    exact Nat.mul_le_mul_right _ hn
end Go.Proofs.YtnjlgeenhmamjaaGreatDoor.Q
/- headgateref12.Record in plain words: it says what decode.Record says. -/
namespace Go.Proofs.YtnjlgeenhmamjaaGreatDoor.Q
open Go.RowKit Go.Proofs.YtnjlgeenhmamjaaGreatDoorW.PrintWords Go.Proofs.YtnjlgeenhmamjaaGreatDoorW.PrintLast Go.Proofs.YtnjlgeenhmamjaaGreatDoorW.PrintMore
set_option linter.unusedVariables false
set_option linter.unusedSimpArgs false
theorem str_append (a b : List Int) : strOfNums (a ++ b) = strOfNums a ++ strOfNums b := by
  apply ByteArray.ext
  simp [strOfNums]
theorem mk_append (a b : List UInt8) : (⟨(a ++ b).toArray⟩ : ByteArray) = ⟨a.toArray⟩ ++ ⟨b.toArray⟩ := by
  apply ByteArray.ext
  simp
theorem ba_assoc (a b c : ByteArray) : a ++ b ++ c = a ++ (b ++ c) := by
  apply ByteArray.ext
  simp
theorem ba_nil (a : ByteArray) : (⟨#[]⟩ : ByteArray) ++ a = a := by
  apply ByteArray.ext
  simp
theorem ba_nil' (a : ByteArray) : a ++ (⟨#[]⟩ : ByteArray) = a := by
  apply ByteArray.ext
  simp
theorem ba_size (a b : ByteArray) : (a ++ b).size = a.size + b.size := by
  first | exact ByteArray.size_append | simp
theorem one_digit (d : Nat) (h : d < 10) : strOfNums [IntKind.u64.wrap (48 + (d : Int)) % 256] = ⟨[UInt8.ofNat (48 + d)].toArray⟩ := by
  have e : IntKind.u64.wrap (48 + (d : Int)) % 256 = ((48 + d : Nat) : Int) := by
    rw [wrapu]
    omega
  rw [e]
  unfold strOfNums
  rw [List.map_cons, List.map_nil, Int.toNat_natCast]
theorem size_ev (u : Nat) (h : u < 18446744073709551616) : Ev (fun k => headgateref12_size.f k (u : Int)) ⟨(Lib.decDigits u).toArray⟩ := by
  induction u using Nat.strongRecOn with
  | _ u ih =>
    by_cases h10 : u < 10
    · refine Ev.const (fun k => ?_)
      show (if (u : Int) < 10 then _ else _) = _
      rw [if_pos (by omega), Lib.decDigits, dif_pos h10, one_digit u h10]
    · have hq : IntKind.u64.wrap (Int.tdiv (u : Int) 10) = ((u / 10 : Nat) : Int) := by
        rw [wrapu, Int.tdiv_eq_ediv_of_nonneg (by omega)]
        omega
      have hm : Int.tmod (u : Int) 10 = ((u % 10 : Nat) : Int) := by
        rw [Int.tmod_eq_emod_of_nonneg (by omega)]
        omega
      have hl : (⟨(Lib.decDigits (u / 10)).toArray⟩ : ByteArray).size ≤ 100 := by
        rw [size_mk, List.size_toArray, Lib.decDigits_length]
        exact Nat.le_trans (Lib.nDigits_le20 (u / 10) (by omega)) (by decide)
      refine Ev.bind1 (g := fun k => headgateref12_size.f k ((u / 10 : Nat) : Int)) (h := fun k t107 => ((some (([(IntKind.u64.wrap (48 + (Int.tmod (u : Int) 10))) % 256] : List Int) : List Int)).bind fun y108 => (if t107.size + (strOfNums y108).size ≤ 9223372036854775807 then (some (t107 ++ (strOfNums y108))) else (none)))) (ih (u / 10) (by omega) (by omega)) (Ev.const' (fun k => ?_)) (fun k => ?_)
      · show (if _ + _ ≤ _ then _ else _) = _
        rw [hm, one_digit _ (Nat.mod_lt _ (by decide)), if_pos (by
          have h1 : (⟨[UInt8.ofNat (48 + u % 10)].toArray⟩ : ByteArray).size = 1 := rfl
          rw [h1]
          omega), ← mk_append, Lib.decDigits.eq_def u, dif_neg h10]
      · show (if (u : Int) < 10 then _ else _) = _
        rw [if_neg (by omega), hq]
theorem digits_ev (n : Int) (h : in64 n) : Ev (fun k => headgateref12_digits.f k n) ⟨(Lib.itoa n).toArray⟩ := by
  obtain ⟨h0, h1⟩ := h
  by_cases hn : n < 0
  · have e : IntKind.u64.wrap (-(IntKind.u64.wrap n)) = ((n.natAbs : Nat) : Int) := by
      rw [wrapu, wrapu]
      omega
    refine Ev.bind (g := fun k => headgateref12_size.f k ((n.natAbs : Nat) : Int)) (h := fun k t111 => (if 1 + t111.size ≤ 9223372036854775807 then (some ((⟨#[45]⟩ : ByteArray) ++ t111)) else (none))) (size_ev n.natAbs (by omega)) (Ev.const' (fun k => ?_)) (fun k => ?_)
    · show (if _ then _ else _) = _
      rw [if_pos (by
        rw [size_mk, List.size_toArray, Lib.decDigits_length]
        have := Lib.nDigits_le20 n.natAbs (by omega)
        omega)]
      unfold Lib.itoa
      rw [if_pos hn]
      exact congrArg some (mk_append [45] _).symm
    · show headgateref12_digits.f k n = _
      unfold headgateref12_digits.f
      rw [if_pos hn, e]
  · have e : IntKind.u64.wrap n = ((n.toNat : Nat) : Int) := by
      rw [wrapu]
      omega
    refine Ev.bind (g := fun k => headgateref12_size.f k ((n.toNat : Nat) : Int)) (h := fun k t112 => some t112) (size_ev n.toNat (by omega)) (Ev.const' (fun k => ?_)) (fun k => ?_)
    · show some _ = _
      unfold Lib.itoa
      rw [if_neg hn]
    · show headgateref12_digits.f k n = _
      unfold headgateref12_digits.f
      rw [if_neg hn, e]
theorem bytes_drop (s : ByteArray) (j : Nat) (h : j < s.size) : (bytesOf s).drop j = bt s j :: (bytesOf s).drop (j + 1) := by
  have hl := bytesOf_length s
  rw [List.drop_eq_getElem_cons (by omega)]
  congr 1
  rw [← rd_bytesOf s (j : Int)]
  unfold rd
  rw [Int.toNat_natCast, List.getD_eq_getElem?_getD, List.getElem?_eq_getElem (by omega)]
  rfl
theorem ext_one (s : ByteArray) (j : Nat) (h : j < s.size) : s.extract j (j + 1) = strOfNums [bt s j] := by
  rw [← str_mid' s j (j + 1) h, show j + 1 - j = 1 by omega, bytes_drop s j h]
  rfl
theorem rec_l1 (l : List Co) (vs : List Va) (i : Nat) (k0 n : Int) (s : ByteArray) (hs : s.size ≤ 1000) (R : ByteArray × Int) : ∀ (d j : Nat) (x : ByteArray), j + d = s.size → x.size ≤ 1000000 + 2 * j →
    Ev (fun k => headgateref12_Record.l0 k l vs (x ++ strOfNums (escS ((bytesOf s).drop j))) (wrap64 (i + 1))) R → Ev (fun k => headgateref12_Record.l1 k l vs x i (j : Int) k0 n s) R := by
  intro d
  induction d with
  | zero =>
    intro j x hj hx h
    rw [List.drop_of_length_le (by rw [bytesOf_length]; omega)] at h
    have e : strOfNums (escS []) = ⟨#[]⟩ := rfl
    rw [e, ba_nil'] at h
    refine Ev.step h (fun k => ?_)
    simp only [headgateref12_Record.l1]
    rw [if_neg (by omega)]
  | succ d ih =>
    intro j x hj hx h
    have hlt : j < s.size := by omega
    have hw : wrap64 ((j : Int) + 1) = ((j + 1 : Nat) : Int) := w64n j (by omega)
    have hex : s.extract (j : Int).toNat (((j + 1 : Nat) : Int)).toNat = strOfNums [bt s j] := by
      rw [Int.toNat_natCast, Int.toNat_natCast]
      exact ext_one s j hlt
    have h1 : (strOfNums [bt s j]).size = 1 := rfl
    have h2 : (⟨#[92]⟩ : ByteArray).size = 1 := rfl
    have hx2 : (x ++ (⟨#[92]⟩ : ByteArray)).size = x.size + 1 := by rw [ba_size, h2]
    rw [bytes_drop s j hlt, escS_cons] at h
    by_cases hsp : isS (bt s j)
    · rw [if_pos hsp] at h
      have e : x ++ strOfNums (92 :: bt s j :: escS ((bytesOf s).drop (j + 1))) = (x ++ ⟨#[92]⟩ ++ strOfNums [bt s j]) ++ strOfNums (escS ((bytesOf s).drop (j + 1))) := by
        rw [show (92 : Int) :: bt s j :: escS ((bytesOf s).drop (j + 1)) = [92] ++ ([bt s j] ++ escS ((bytesOf s).drop (j + 1))) from rfl, str_append, str_append, ba_assoc, ba_assoc]
        rfl
      rw [e] at h
      refine Ev.step (ih (j + 1) (x ++ ⟨#[92]⟩ ++ strOfNums [bt s j]) (by omega) (by rw [ba_size, hx2, h1]; omega) h) (fun k => ?_)
      simp only [headgateref12_Record.l1]
      rw [if_pos (by omega), if_pos (by omega)]
      rcases hsp with h44 | h92
      · rw [if_pos h44, if_pos (by omega), hw, if_pos (by omega), if_pos (by omega), hex, if_pos (by rw [hx2, h1]; omega)]
      · rw [if_neg (by omega), if_pos h92, if_pos (by omega), hw, if_pos (by omega), if_pos (by omega), hex, if_pos (by rw [hx2, h1]; omega)]
    · rw [if_neg hsp] at h
      have e : x ++ strOfNums (bt s j :: escS ((bytesOf s).drop (j + 1))) = (x ++ strOfNums [bt s j]) ++ strOfNums (escS ((bytesOf s).drop (j + 1))) := by
        rw [show bt s j :: escS ((bytesOf s).drop (j + 1)) = [bt s j] ++ escS ((bytesOf s).drop (j + 1)) from rfl, str_append, ba_assoc]
      rw [e] at h
      refine Ev.step (ih (j + 1) (x ++ strOfNums [bt s j]) (by omega) (by rw [ba_size, h1]; omega) h) (fun k => ?_)
      simp only [headgateref12_Record.l1]
      rw [if_pos (by omega), if_pos (by omega), if_neg (fun h => hsp (.inl h)), if_neg (fun h => hsp (.inr h)), hw, if_pos (by omega), if_pos (by omega), hex, if_pos (by rw [h1]; omega)]
theorem chk_kind (k n : Int) (s : ByteArray) (hc : chkV ⟨k, n, s⟩ = 0) : k = 0 ∨ k = 1 ∨ (k = 2 ∧ (n = 0 ∨ n = 1)) ∨ (k = 3 ∧ s.size ≤ 200) := by
  unfold chkV at hc
  simp only at hc
  by_cases h0 : k = 0
  · exact .inl h0
  rw [if_neg h0] at hc
  by_cases h1 : k = 1
  · exact .inr (.inl h1)
  rw [if_neg h1] at hc
  by_cases h2 : k = 2
  · rw [if_pos h2] at hc
    split at hc
    · rename_i h; exact .inr (.inr (.inl ⟨h2, h.1⟩))
    · cases hc
  rw [if_neg h2] at hc
  by_cases h3 : k = 3
  · rw [if_pos h3] at hc
    split at hc
    · rename_i h; exact .inr (.inr (.inr ⟨h3, h.2⟩))
    · cases hc
  rw [if_neg h3] at hc
  cases hc
theorem rec_j2 (l : List Co) (vs : List Va) (i : Nat) (k0 n : Int) (s x : ByteArray) (hc : chkV ⟨k0, n, s⟩ = 0) (h64 : in64 n) (hx : x.size ≤ 1000000) (R : ByteArray × Int)
    (h : Ev (fun k => headgateref12_Record.l0 k l vs (x ++ fieldB ⟨k0, n, s⟩) (wrap64 (i + 1))) R) : Ev (fun k => headgateref12_Record.j2 k l vs x i k0 n s) R := by
  unfold fieldB at h
  simp only at h
  rcases chk_kind k0 n s hc with rfl | rfl | ⟨rfl, hn⟩ | ⟨rfl, hs⟩
  · rw [if_pos rfl] at h
    refine Ev.step h (fun k => ?_)
    simp only [headgateref12_Record.j2]
    rw [if_pos trivial, if_pos (by omega)]
  · rw [if_neg (by decide), if_pos rfl] at h
    have hl : (⟨(Lib.itoa n).toArray⟩ : ByteArray).size ≤ 21 := by
      rw [size_mk, List.size_toArray]
      exact Lib.itoa_length_le n h64.1 h64.2
    refine Ev.bind1 (g := fun k => headgateref12_digits.f k n) (h := fun k t118 => (if x.size + t118.size ≤ 9223372036854775807 then (headgateref12_Record.l0 k l vs (x ++ t118) (wrap64 ((i : Int) + 1))) else (none))) (digits_ev n h64) (Ev.same h (fun k => if_pos (by omega))) (fun k => ?_)
    simp only [headgateref12_Record.j2]
    rw [if_neg (by decide), if_pos trivial]
  · rw [if_neg (by decide), if_neg (by decide), if_pos rfl] at h
    refine Ev.step h (fun k => ?_)
    simp only [headgateref12_Record.j2]
    rw [if_neg (by decide), if_neg (by decide), if_pos trivial]
    rcases hn with rfl | rfl
    · rw [if_neg (by decide), if_pos (by omega)]
      have e : (⟨(Lib.formatBool ((0 : Int) == 1)).toArray⟩ : ByteArray) = ⟨#[102, 97, 108, 115, 101]⟩ := by decide +kernel
      rw [e]
    · rw [if_pos (show (1 : Int) = 1 from rfl), if_pos (by omega)]
      have e : (⟨(Lib.formatBool ((1 : Int) == 1)).toArray⟩ : ByteArray) = ⟨#[116, 114, 117, 101]⟩ := by decide +kernel
      rw [e]
  · rw [if_neg (by decide), if_neg (by decide), if_neg (by decide)] at h
    refine Ev.step (rec_l1 l vs i 3 n s (by omega) R s.size 0 x (by omega) (by omega) h) (fun k => ?_)
    simp only [headgateref12_Record.j2]
    rw [if_neg (by decide), if_neg (by decide), if_neg (by decide), if_pos trivial]
    rfl
/-- A comma ahead of every field but the first. -/
def sepB (i : Nat) (x : ByteArray) : ByteArray := if i = 0 then x else x ++ ⟨#[44]⟩
def accR : List Co → List Va → Nat → ByteArray → Option ByteArray
  | c :: cs, v :: vs, i, x => if okF c v = true then accR cs vs (i + 1) (sepB i x ++ fieldB v) else none
  | _, _, _, x => some x
theorem accR_cons (c : Co) (cs : List Co) (v : Va) (vs : List Va) (i : Nat) (x : ByteArray) : accR (c :: cs) (v :: vs) i x = if okF c v = true then accR cs vs (i + 1) (sepB i x ++ fieldB v) else none := rfl
def accA (o : Option ByteArray) : ByteArray × Int := match o with
  | none => (⟨#[]⟩, 122)
  | some y => (y, 0)
theorem va_drop' (l : List Va) (i : Nat) (h : i < l.length) : l.drop i = rd_T41 l (i : Int) :: l.drop (i + 1) := by
  rw [List.drop_eq_getElem_cons h]
  unfold rd_T41
  rw [List.getD_eq_getElem?_getD, Int.toNat_natCast, List.getElem?_eq_getElem h]
  rfl
theorem va_mem' (l : List Va) (i : Nat) (h : i < l.length) : rd_T41 l (i : Int) ∈ l := by
  have : rd_T41 l (i : Int) ∈ l.drop i := by rw [va_drop' l i h]; exact List.mem_cons_self ..
  exact List.mem_of_mem_drop this
theorem rec_l0 (l : List Co) (vs : List Va) (hl : vs.length = l.length) (hn : vs.length ≤ 1000) (h64 : ∀ v ∈ vs, in64 v.f1) : ∀ (d i : Nat) (x : ByteArray), i + d = vs.length → x.size ≤ 500 * i →
    Ev (fun k => headgateref12_Record.l0 k l vs x i) (accA (accR (l.drop i) (vs.drop i) i x)) := by
  intro d
  induction d with
  | zero =>
    intro i x hi hx
    rw [List.drop_of_length_le (by omega), List.drop_of_length_le (by omega)]
    refine Ev.const (fun k => ?_)
    simp only [headgateref12_Record.l0]
    rw [if_neg (by omega)]
    rfl
  | succ d ih =>
    intro i x hi hx
    have hlt : i < vs.length := by omega
    have hw : wrap64 ((i : Int) + 1) = ((i + 1 : Nat) : Int) := w64n i (by omega)
    have hd2 : vs.drop i = rd_T41 vs (i : Int) :: vs.drop (i + 1) := va_drop' vs i hlt
    have hin := h64 _ (va_mem' vs i hlt)
    rw [co_drop l i (by omega), hd2, accR_cons]
    have hrd : ∀ k, headgateref12_Record.l0 (k + 1) l vs x i = _ := fun k => rfl
    obtain ⟨v, hv⟩ : ∃ v, rd_T41 vs (i : Int) = v := ⟨_, rfl⟩
    obtain ⟨y, hy⟩ : ∃ y, rd_T39 l (i : Int) = y := ⟨_, rfl⟩
    rw [hv] at hin
    rw [hv, hy]
    obtain ⟨k0, n, s⟩ := v
    simp only at hin
    have hbad : Ev (fun k => headgateref12_Record.j1 k l vs x i true k0 n s) (⟨#[]⟩, 122) := Ev.const (fun k => by simp only [headgateref12_Record.j1]; rw [if_pos trivial])
    have hsx : (sepB i x).size ≤ 500 * i + 1 := by
      unfold sepB
      split
      · omega
      · rw [ba_size]; exact Nat.add_le_add hx (Nat.le_refl 1)
    have hgood : chkV ⟨k0, n, s⟩ = 0 → Ev (fun k => headgateref12_Record.j1 k l vs x i false k0 n s) (accA (accR (l.drop (i + 1)) (vs.drop (i + 1)) (i + 1) (sepB i x ++ fieldB ⟨k0, n, s⟩))) := fun hc => by
      have hf := field_size ⟨k0, n, s⟩ hin hc
      have h0 := ih (i + 1) (sepB i x ++ fieldB ⟨k0, n, s⟩) (by omega) (by rw [ba_size]; omega)
      rw [← hw] at h0
      refine Ev.step (rec_j2 l vs i k0 n s (sepB i x) hc hin (by omega) _ h0) (fun k => ?_)
      simp only [headgateref12_Record.j1]
      rw [if_neg (by decide)]
      unfold sepB
      by_cases hi0 : i = 0
      · rw [if_neg (by omega), if_pos hi0]
      · rw [if_pos (by omega), if_neg hi0, if_pos (by omega)]
    by_cases hc : chkV ⟨k0, n, s⟩ = 0
    · by_cases hk : k0 = 0
      · have hok : okF y ⟨k0, n, s⟩ = true := by show (decide (chkV _ = 0) && (decide (k0 = 0) || decide (k0 = y.f1))) = true; rw [decide_eq_true hc, decide_eq_true hk]; rfl
        rw [if_pos hok]
        refine Ev.bind1 (g := fun K => headgateref03_Check.f K k0 n s) (h := fun k t116 => (if t116 = 0 then (if k0 = 0 then (headgateref12_Record.j1 k l vs x i false k0 n s) else (if (i : Int) < (l.length : Int) then (headgateref12_Record.j1 k l vs x i (k0 != y.f1) k0 n s) else (none))) else (headgateref12_Record.j1 k l vs x i true k0 n s))) (refChk_ev k0 n s) ?_ (fun k => ?_)
        · exact Ev.same (hgood hc) (fun k => by show (if chkV _ = 0 then _ else _) = _; rw [if_pos hc, if_pos hk])
        · show (if _ then _ else _) = _
          rw [if_pos (by omega), if_pos (by omega), hv, hy]
      · refine Ev.bind1 (g := fun K => headgateref03_Check.f K k0 n s) (h := fun k t116 => (if t116 = 0 then (if k0 = 0 then (headgateref12_Record.j1 k l vs x i false k0 n s) else (if (i : Int) < (l.length : Int) then (headgateref12_Record.j1 k l vs x i (k0 != y.f1) k0 n s) else (none))) else (headgateref12_Record.j1 k l vs x i true k0 n s))) (refChk_ev k0 n s) ?_ (fun k => ?_)
        · by_cases hky : k0 = y.f1
          · have hok : okF y ⟨k0, n, s⟩ = true := by show (decide (chkV _ = 0) && (decide (k0 = 0) || decide (k0 = y.f1))) = true; rw [decide_eq_true hc, decide_eq_true hky, Bool.or_true]; rfl
            have hb : (k0 != y.f1) = false := bne_eq_false_iff_eq.2 hky
            rw [if_pos hok]
            exact Ev.same (hgood hc) (fun k => by show (if chkV _ = 0 then _ else _) = _; rw [if_pos hc, if_neg hk, if_pos (by omega), hb])
          · have hok : ¬ okF y ⟨k0, n, s⟩ = true := by unfold okF; simp [hk, hky]
            have hb : (k0 != y.f1) = true := bne_iff_ne.2 hky
            rw [if_neg hok]
            exact Ev.same hbad (fun k => by show (if chkV _ = 0 then _ else _) = _; rw [if_pos hc, if_neg hk, if_pos (by omega), hb])
        · show (if _ then _ else _) = _
          rw [if_pos (by omega), if_pos (by omega), hv, hy]
    · have hok : ¬ okF y ⟨k0, n, s⟩ = true := by unfold okF; simp [hc]
      rw [if_neg hok]
      refine Ev.bind1 (g := fun K => headgateref03_Check.f K k0 n s) (h := fun k t116 => (if t116 = 0 then (if k0 = 0 then (headgateref12_Record.j1 k l vs x i false k0 n s) else (if (i : Int) < (l.length : Int) then (headgateref12_Record.j1 k l vs x i (k0 != y.f1) k0 n s) else (none))) else (headgateref12_Record.j1 k l vs x i true k0 n s))) (refChk_ev k0 n s) ?_ (fun k => ?_)
      · exact Ev.same hbad (fun k => by show (if chkV _ = 0 then _ else _) = _; rw [if_neg hc])
      · show (if _ then _ else _) = _
        rw [if_pos (by omega), if_pos (by omega), hv, hy]
def tailB (fs : List ByteArray) : ByteArray := ⟨(Lib.joinTail [44] (fs.map (·.data.toList))).toArray⟩
theorem tailB_cons (f : ByteArray) (fs : List ByteArray) : tailB (f :: fs) = ⟨#[44]⟩ ++ f ++ tailB fs := by
  apply ByteArray.ext
  apply Array.ext'
  simp [tailB, Lib.joinTail]
theorem joinB_cons (f : ByteArray) (fs : List ByteArray) : joinB (f :: fs) = f ++ tailB fs := by
  apply ByteArray.ext
  apply Array.ext'
  simp [tailB, joinB, Lib.join_cons]
theorem accR_tail : ∀ (l : List Co) (vs : List Va) (i : Nat) (x : ByteArray), 1 ≤ i → accR l vs i x = (recL l vs).map (fun fs => x ++ tailB fs)
  | c :: cs, v :: vs, i, x, hi => by
    rw [accR_cons, recL_cons]
    by_cases h : okF c v = true
    · rw [if_pos h, if_pos h, accR_tail cs vs (i + 1) _ (by omega), Option.map_map]
      congr 1
      funext fs
      show sepB i x ++ fieldB v ++ tailB fs = x ++ tailB (fieldB v :: fs)
      unfold sepB
      rw [if_neg (by omega), tailB_cons, ba_assoc, ba_assoc, ba_assoc]
    · rw [if_neg h, if_neg h]
      rfl
  | [], vs, i, x, _ => by
    have e : accR [] vs i x = some x := by cases vs <;> rfl
    have e2 : recL [] vs = some [] := by cases vs <;> rfl
    rw [e, e2]
    show some x = some (x ++ tailB [])
    rw [show tailB [] = ⟨#[]⟩ from rfl, ba_nil']
  | _ :: _, [], i, x, _ => by
    show some x = some (x ++ tailB [])
    rw [show tailB [] = ⟨#[]⟩ from rfl, ba_nil']
theorem accR_join (l : List Co) (vs : List Va) : accR l vs 0 ⟨#[]⟩ = (recL l vs).map joinB := by
  match l, vs with
  | c :: cs, v :: vs =>
    rw [accR_cons, recL_cons]
    by_cases h : okF c v = true
    · rw [if_pos h, if_pos h, accR_tail cs vs 1 _ (by omega), Option.map_map]
      congr 1
      funext fs
      show sepB 0 ⟨#[]⟩ ++ fieldB v ++ tailB fs = joinB (fieldB v :: fs)
      rw [joinB_cons, show sepB 0 ⟨#[]⟩ = ⟨#[]⟩ from rfl, ba_nil]
    · rw [if_neg h, if_neg h]
      rfl
  | [], vs =>
    have e : accR [] vs 0 ⟨#[]⟩ = some ⟨#[]⟩ := by cases vs <;> rfl
    have e2 : recL [] vs = some [] := by cases vs <;> rfl
    rw [e, e2]
    rfl
  | _ :: _, [] => rfl
theorem refRecord_ev (l : List Co) (hl : l.length ≤ 140737488355328) (hn : ∀ c ∈ l, c.f0.size ≤ 140737488355328) (vs : List Va) (hz : vs.length ≤ 1000) (h64 : ∀ v ∈ vs, in64 v.f1) :
    Ev (fun k => headgateref12_Record.f k l vs) (strOfNums (recR (if rightS l = true then 0 else 120) l vs).1, (recR (if rightS l = true then 0 else 120) l vs).2) := by
  have hR := refRight_ev l hl hn
  unfold recR
  cases hr : rightS l with
  | false =>
    rw [hr] at hR
    rw [if_pos (by decide)]
    refine Ev.bind (g := fun k => headgateref12_Right.f k l) (h := fun k t113 => (if t113 = true then (if (vs.length : Int) = (l.length : Int) then (headgateref12_Record.l0 k l vs (⟨#[]⟩ : ByteArray) 0) else (some ((⟨#[]⟩ : ByteArray), 121))) else (some ((⟨#[]⟩ : ByteArray), 120)))) hR (Ev.const' (fun k => rfl)) (fun k => rfl)
  | true =>
    rw [hr] at hR
    rw [if_pos rfl, if_neg (by decide)]
    refine Ev.bind (g := fun k => headgateref12_Right.f k l) (h := fun k t113 => (if t113 = true then (if (vs.length : Int) = (l.length : Int) then (headgateref12_Record.l0 k l vs (⟨#[]⟩ : ByteArray) 0) else (some ((⟨#[]⟩ : ByteArray), 121))) else (some ((⟨#[]⟩ : ByteArray), 120)))) hR ?_ (fun k => rfl)
    by_cases hlen : vs.length = l.length
    · rw [if_neg (fun h => h hlen)]
      have h0 := rec_l0 l vs hlen hz h64 vs.length 0 ⟨#[]⟩ (by omega) (Nat.zero_le _)
      rw [List.drop_zero, List.drop_zero, accR_join] at h0
      have e : accA ((recL l vs).map joinB) = (strOfNums (match recL l vs with | none => (([], 122) : List Int × Int) | some fs => (bytesOf (joinB fs), 0)).1, (match recL l vs with | none => (([], 122) : List Int × Int) | some fs => (bytesOf (joinB fs), 0)).2) := by
        cases recL l vs with
        | none => rfl
        | some fs => exact congrArg (fun z => (z, (0 : Int))) (strNums_bytesOf (joinB fs)).symm
      rw [e] at h0
      exact Ev.same h0 (fun k => by show (if true = true then _ else _) = _; rw [if_pos rfl, if_pos (by omega)]; rfl)
    · rw [if_pos hlen]
      exact Ev.const' (fun k => by show (if true = true then _ else _) = _; rw [if_pos rfl, if_neg (by omega)]; rfl)
end Go.Proofs.YtnjlgeenhmamjaaGreatDoor.Q
