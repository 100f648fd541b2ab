/- Texts, values, rows, columns and pairs as bytes and back, in plain words: no program in it. -/
import Derived.Test.YtgihecpobichbaaReadR1
import Derived.Test.YtgihecpobichbaaReadP1
import Derived.Test.YtgihecpobichbaaReadC1
import Derived.Test.YtgihecpobichbaaBytesOwn
import Derived.Test.YtgihecpobichbaaVarN
import Derived.Lib.Bytealg
namespace Go.Proofs.Ytgihecpobichbaa.Q
open Go.RowKit Go.Proofs.YtgihecpobichbaaW.PrintWords Go.Proofs.YtgihecpobichbaaW.PrintLast Go.Proofs.YtgihecpobichbaaW.PrintMore
set_option linter.unusedVariables false
set_option linter.unusedSimpArgs false

abbrev Va := S116
abbrev Co := S43
abbrev Pa := S74
def encW (s : ByteArray) : List Int := numR 9 (s.size : Int) ++ bytesOf s
def encV (v : Va) : List Int := [v.f0 % 256] ++ (if v.f0 = 1 then encI v.f1 else if v.f0 = 2 then [v.f1 % 256] else if v.f0 = 3 then encW v.f2 else [])
def encR (r : List Va) : List Int := numR 9 (r.length : Int) ++ flat encV r
def encC (c : Co) : List Int := encW c.f0 ++ [c.f1 % 256]
def encP (p : Pa) : List Int := encW p.f0 ++ encW p.f1
theorem encW_pos (s : ByteArray) : 0 < (encW s).length := by
  have := numR_pos 9 (s.size : Int)
  unfold encW
  rw [List.length_append]
  omega
theorem encV_pos (v : Va) : 0 < (encV v).length := by
  unfold encV
  simp
theorem encR_pos (v : List Va) : 0 < (encR v).length := by
  have := numR_pos 9 (v.length : Int)
  unfold encR
  rw [List.length_append]
  omega
theorem encC_pos (c : Co) : 0 < (encC c).length := by
  unfold encC
  simp
theorem encP_pos (c : Pa) : 0 < (encP c).length := by
  have := encW_pos c.f0
  unfold encP
  rw [List.length_append]
  omega
theorem encW_bytes (s : ByteArray) : Bytes (encW s) := Bytes.app (numR_bytes 9 _ (by omega)) (bytesOf_range s)
theorem byte_bytes (x : Int) : Bytes [x % 256] := by
  intro y hy
  simp at hy
  omega
/-- Is a value one that may be told? -/
def goodV (v : Va) : Prop := chkV v = 0 ∧ in64 v.f1
theorem encV_bytes (v : Va) (h : in64 v.f1) : Bytes (encV v) := by
  unfold encV
  refine Bytes.app (byte_bytes _) ?_
  split
  · exact numR_bytes 9 _ (zig_range h).1
  · split
    · exact byte_bytes _
    · split
      · exact encW_bytes _
      · exact Bytes.nil
theorem chk_parts {v : Va} (h : chkV v = 0) : (v.f0 = 0 ∧ v.f1 = 0 ∧ v.f2.toList = []) ∨ (v.f0 = 1 ∧ v.f2.toList = []) ∨ (v.f0 = 2 ∧ (v.f1 = 0 ∨ v.f1 = 1) ∧ v.f2.toList = []) ∨ (v.f0 = 3 ∧ v.f1 = 0 ∧ v.f2.size ≤ 200) := by
  unfold chkV at h
  by_cases h0 : v.f0 = 0
  · rw [if_pos h0] at h
    split at h
    · rename_i hc
      exact .inl ⟨h0, hc.1, hc.2⟩
    · omega
  · rw [if_neg h0] at h
    by_cases h1 : v.f0 = 1
    · rw [if_pos h1] at h
      split at h
      · rename_i hc
        exact .inr (.inl ⟨h1, hc⟩)
      · omega
    · rw [if_neg h1] at h
      by_cases h2 : v.f0 = 2
      · rw [if_pos h2] at h
        split at h
        · rename_i hc
          exact .inr (.inr (.inl ⟨h2, hc.1, hc.2⟩))
        · omega
      · rw [if_neg h2] at h
        by_cases h3 : v.f0 = 3
        · rw [if_pos h3] at h
          split at h
          · rename_i hc
            exact .inr (.inr (.inr ⟨h3, hc.1, hc.2⟩))
          · omega
        · rw [if_neg h3] at h
          omega
theorem toList_nil {s : ByteArray} (h : s.toList = []) : s = ⟨#[]⟩ := by
  apply ByteArray.ext
  have h2 : s.data.toList = [] := by
    rw [← Lib.toList_data]
    exact h
  apply Array.ext'
  rw [h2]
theorem itemB_back (x : Int) (r : List Int) : itemB ([x] ++ r) = some (x, r) := rfl
theorem itemW_back (s : ByteArray) (hs : s.size < 18446744073709551616) (r : List Int) : itemW (encW s ++ r) = some (s, r) := by
  unfold itemW encW
  have hl := bytesOf_length s
  have hu := un_numR (n := (s.size : Int)) (by omega) (by omega) (bytesOf s ++ r)
  rw [List.append_assoc, hu, if_pos rfl]
  simp only [drop_at]
  rw [if_neg (by rw [List.length_append]; omega), Int.toNat_natCast]
  have e1 : (bytesOf s ++ r).take s.size = bytesOf s := by rw [← hl]; exact List.take_left
  have e2 : (bytesOf s ++ r).drop s.size = r := by rw [← hl]; exact List.drop_left
  rw [e1, e2, strNums_bytesOf]
theorem itemW_only (l : List Int) (s : ByteArray) (r : List Int) (hb : Bytes l) (h : itemW l = some (s, r)) : l = encW s ++ r := by
  unfold itemW at h
  split at h
  · rename_i h0
    split at h
    · cases h
    · rename_i hle
      obtain ⟨n, k, hu⟩ : ∃ n k, un l = (n, k, 0) := ⟨(un l).1, (un l).2.1, by rw [← h0]⟩
      rw [hu] at h hle
      obtain ⟨r0, e1, e2, e3, e4⟩ := un_only hb hu
      simp only [e1, e2, drop_at, Option.some.injEq, Prod.mk.injEq] at h hle
      obtain ⟨rfl, rfl⟩ := h
      have hb0 : Bytes r0 := (e1 ▸ hb).right
      have hbt : ∀ x ∈ r0.take n.toNat, 0 ≤ x ∧ x ≤ 255 := fun x hx => hb0 x (List.mem_of_mem_take hx)
      unfold encW
      rw [bytes_strNums hbt, str_size, List.length_take]
      have e5 : ((min n.toNat r0.length : Nat) : Int) = n := by omega
      rw [e5, List.append_assoc, List.take_append_drop]
      exact e1
  · cases h
theorem wrap_byte {x : Int} (h : 0 ≤ x ∧ x ≤ 255) : wrap64 x = x := wrap_in (by unfold in64; omega)
theorem wrap_byte_i {x : Int} (h : 0 ≤ x ∧ x ≤ 255) : IntKind.i64.wrap x = x := by
  rw [IntKind.wrap_i64]
  omega
theorem preV_back {v : Va} (h : goodV v) (r : List Int) : preV (wrap64 (v.f0 % 256)) ((if v.f0 = 1 then encI v.f1 else if v.f0 = 2 then [v.f1 % 256] else if v.f0 = 3 then encW v.f2 else []) ++ r) = some (v, r) := by
  obtain ⟨k, n, s⟩ := v
  obtain ⟨hc, h64⟩ := h
  have hp := chk_parts hc
  simp only at hp h64 ⊢
  rcases hp with ⟨rfl, rfl, hs⟩ | ⟨rfl, hs⟩ | ⟨rfl, hn, hs⟩ | ⟨rfl, rfl, hs⟩
  · rw [toList_nil hs]
    have e : wrap64 (0 % 256) = 0 := wrap_byte (by omega)
    rw [e]
    simp [preV]
  · rw [toList_nil hs]
    have e : wrap64 (1 % 256) = 1 := wrap_byte (by omega)
    rw [e, if_pos rfl]
    unfold preV
    rw [if_pos rfl, itemI_back h64]
    rfl
  · rw [toList_nil hs]
    have e : wrap64 (2 % 256) = 2 := wrap_byte (by omega)
    rw [e]
    have e0 : wrap64 (0 % 256) = 0 := wrap_byte (by omega)
    have e1 : wrap64 (1 % 256) = 1 := wrap_byte (by omega)
    have e2 : wrap64 0 = 0 := wrap_byte (by omega)
    have e3 : wrap64 1 = 1 := wrap_byte (by omega)
    rcases hn with rfl | rfl <;> simp [preV, itemB, e0, e1, e2, e3]
  · have e : wrap64 (3 % 256) = 3 := wrap_byte (by omega)
    rw [e]
    unfold preV
    rw [if_neg (by omega), if_neg (by omega), if_pos rfl, if_neg (by omega), if_neg (by omega), if_pos rfl, itemW_back s (by omega)]
    rfl
theorem itemV_back {v : Va} (h : goodV v) (r : List Int) : itemV (encV v ++ r) = some (v, r) := by
  unfold itemV encV
  rw [List.append_assoc, itemB_back]
  simp only [Option.bind_some]
  rw [preV_back h]
  simp only [Option.bind_some]
  rw [if_pos h.1]
theorem itemB_only (l : List Int) (x : Int) (r : List Int) (h : itemB l = some (x, r)) : l = x :: r := by
  cases l with
  | nil => cases h
  | cons c l =>
    simp only [itemB, Option.some.injEq, Prod.mk.injEq] at h
    rw [h.1, h.2]
theorem itemV_only (l : List Int) (v : Va) (r : List Int) (hb : Bytes l) (h : itemV l = some (v, r)) : l = encV v ++ r ∧ goodV v := by
  unfold itemV at h
  obtain ⟨⟨b, l1⟩, h1, h2⟩ := Option.bind_eq_some_iff.1 h
  obtain ⟨⟨x, l2⟩, h3, h4⟩ := Option.bind_eq_some_iff.1 h2
  simp only at h3 h4
  have e1 := itemB_only l b l1 h1
  have hbb : 0 ≤ b ∧ b ≤ 255 := hb b (by rw [e1]; simp)
  have hb1 : Bytes l1 := fun y hy => hb y (by rw [e1]; simp [hy])
  rw [wrap_byte hbb] at h3
  split at h4
  · rename_i hc
    simp only [Option.some.injEq, Prod.mk.injEq] at h4
    obtain ⟨rfl, rfl⟩ := h4
    have em : b % 256 = b := by omega
    unfold preV at h3
    split at h3
    · rename_i hk
      obtain ⟨⟨y, r1⟩, h5, h6⟩ := Option.map_eq_some_iff.1 h3
      simp only [Prod.mk.injEq] at h6
      obtain ⟨rfl, rfl⟩ := h6
      obtain ⟨e2, g2⟩ := itemI_only _ _ _ hb1 h5
      refine ⟨?_, hc, g2⟩
      unfold encV
      simp only
      rw [em, if_pos hk, e1, e2]
      rfl
    · rename_i hk1
      split at h3
      · rename_i hk
        obtain ⟨⟨y, r1⟩, h5, h6⟩ := Option.map_eq_some_iff.1 h3
        simp only [Prod.mk.injEq] at h6
        obtain ⟨rfl, rfl⟩ := h6
        have e2 := itemB_only _ _ _ h5
        have hy : 0 ≤ y ∧ y ≤ 255 := hb1 y (by rw [e2]; simp)
        refine ⟨?_, hc, ?_⟩
        · unfold encV
          simp only
          rw [em, if_neg hk1, if_pos hk, e1, e2, wrap_byte hy, show y % 256 = y by omega]
          rfl
        · simp only
          rw [wrap_byte hy]
          unfold in64
          omega
      · rename_i hk2
        split at h3
        · rename_i hk
          obtain ⟨⟨y, r1⟩, h5, h6⟩ := Option.map_eq_some_iff.1 h3
          simp only [Prod.mk.injEq] at h6
          obtain ⟨rfl, rfl⟩ := h6
          have e2 := itemW_only _ _ _ hb1 h5
          refine ⟨?_, hc, by simp only; unfold in64; omega⟩
          unfold encV
          simp only
          rw [em, if_neg hk1, if_neg hk2, if_pos hk, e1, e2]
          rfl
        · rename_i hk
          simp only [Option.some.injEq, Prod.mk.injEq] at h3
          obtain ⟨rfl, rfl⟩ := h3
          refine ⟨?_, hc, by simp only; unfold in64; omega⟩
          unfold encV
          simp only
          rw [em, if_neg hk1, if_neg hk2, if_neg hk, e1]
          rfl
  · cases h4
def goodR (r : List Va) : Prop := rowOk r = true ∧ ∀ v ∈ r, in64 v.f1
theorem goodR_parts {r : List Va} (h : goodR r) : r.length ≤ 12 ∧ ∀ v ∈ r, goodV v := by
  obtain ⟨h1, h2⟩ := h
  unfold rowOk at h1
  rw [Bool.and_eq_true] at h1
  refine ⟨of_decide_eq_true h1.1, fun v hv => ⟨?_, h2 v hv⟩⟩
  have := List.all_eq_true.1 h1.2 v hv
  simpa using this
theorem itemR_back {x : List Va} (h : goodR x) (r : List Int) : itemR (encR x ++ r) = some (x, r) := by
  unfold itemR encR
  have hp := goodR_parts h
  rw [readItems_back itemV encV encV_pos x r (by omega) (fun a ha r => itemV_back (hp.2 a ha) r)]
  simp only [Option.bind_some]
  rw [if_pos h.1]
theorem itemR_only (l : List Int) (x : List Va) (r : List Int) (hb : Bytes l) (h : itemR l = some (x, r)) : l = encR x ++ r ∧ goodR x := by
  unfold itemR at h
  obtain ⟨⟨y, l1⟩, h1, h2⟩ := Option.bind_eq_some_iff.1 h
  simp only at h2
  split at h2
  · rename_i hr
    simp only [Option.some.injEq, Prod.mk.injEq] at h2
    obtain ⟨rfl, rfl⟩ := h2
    obtain ⟨e, g⟩ := readItems_only itemV encV goodV itemV_only l y l1 hb h1
    exact ⟨e, hr, fun v hv => (g v hv).2⟩
  · cases h2
def goodC (c : Co) : Prop := 0 ≤ c.f1 ∧ c.f1 ≤ 255
theorem itemC_back {c : Co} (h : goodC c) (hs : c.f0.size < 18446744073709551616) (r : List Int) : itemC (encC c ++ r) = some (c, r) := by
  obtain ⟨s, k⟩ := c
  unfold itemC encC
  simp only at h hs ⊢
  unfold goodC at h
  simp only at h
  rw [List.append_assoc, itemW_back s hs]
  simp only [Option.bind_some]
  rw [itemB_back]
  simp only [Option.map_some]
  have e : IntKind.i64.wrap (k % 256) = k := by
    rw [show k % 256 = k by omega]
    exact wrap_byte_i h
  rw [e]
theorem itemC_only (l : List Int) (c : Co) (r : List Int) (hb : Bytes l) (h : itemC l = some (c, r)) : l = encC c ++ r ∧ goodC c := by
  unfold itemC at h
  obtain ⟨⟨x, l1⟩, h1, h2⟩ := Option.bind_eq_some_iff.1 h
  obtain ⟨⟨y, l2⟩, h3, h4⟩ := Option.map_eq_some_iff.1 h2
  simp only [Prod.mk.injEq] at h3 h4
  obtain ⟨rfl, rfl⟩ := h4
  have e1 := itemW_only l x l1 hb h1
  have hb1 : Bytes l1 := (e1 ▸ hb).right
  have e2 := itemB_only _ _ _ h3
  have hy : 0 ≤ y ∧ y ≤ 255 := hb1 y (by rw [e2]; simp)
  have e : IntKind.i64.wrap y = y := wrap_byte_i hy
  unfold encC goodC
  simp only
  rw [e]
  refine ⟨?_, hy⟩
  rw [e1, e2, show y % 256 = y by omega]
  simp
theorem itemP_back (p : Pa) (h0 : p.f0.size < 18446744073709551616) (h1 : p.f1.size < 18446744073709551616) (r : List Int) : itemP (encP p ++ r) = some (p, r) := by
  unfold itemP encP
  rw [List.append_assoc, itemW_back _ h0]
  simp only [Option.bind_some]
  rw [itemW_back _ h1]
  rfl
theorem itemP_only (l : List Int) (p : Pa) (r : List Int) (hb : Bytes l) (h : itemP l = some (p, r)) : l = encP p ++ r ∧ True := by
  unfold itemP at h
  obtain ⟨⟨x, l1⟩, h1, h2⟩ := Option.bind_eq_some_iff.1 h
  obtain ⟨⟨y, l2⟩, h3, h4⟩ := Option.map_eq_some_iff.1 h2
  simp only [Prod.mk.injEq] at h3 h4
  obtain ⟨rfl, rfl⟩ := h4
  have e1 := itemW_only l x l1 hb h1
  have hb1 : Bytes l1 := (e1 ▸ hb).right
  have e2 := itemW_only _ _ _ hb1 h3
  refine ⟨?_, trivial⟩
  unfold encP
  simp only
  rw [e1, e2, List.append_assoc]
theorem readR_X (l : List Int) : readR l = readX itemR l := by
  unfold readR readX
  cases readItems itemR l <;> rfl
theorem readC_X (l : List Int) : readC l = readX itemC l := by
  unfold readC readX
  cases readItems itemC l <;> rfl
theorem readP_X (l : List Int) : readP l = readX itemP l := by
  unfold readP readX
  cases readItems itemP l <;> rfl
end Go.Proofs.Ytgihecpobichbaa.Q
