/- strings.ReplaceAll(s, "\x00", "\x00\xff"): walked over the shelf's contracts for strings.Count, strings.Index at one byte and the Builder. -/
import Derived.Test.YtindffllmlifiaaDoorZValueAll9
import Derived.Test.YtindffllmlifiaaDoorZValueAll1
import Derived.Test.YtindffllmlifiaaDoorK
import Derived.Lib.ReplaceLaws
import Derived.Deep.LoopGhost
namespace Go.Proofs.YtindffllmlifiaaDoor.Q
open Go.RowKit Go.Proofs.YtindffllmlifiaaDoorW.PrintWords Go.Proofs.YtindffllmlifiaaDoorW.PrintLast Go.Proofs.YtindffllmlifiaaDoorW.PrintMore
set_option linter.unusedVariables false
set_option linter.unusedSimpArgs false
/-- Each 0 becomes 0, 255. -/
def escU (l : List UInt8) : List UInt8 := l.flatMap fun b => if b = 0 then [0, 255] else [b]
theorem escU_append (a b : List UInt8) : escU (a ++ b) = escU a ++ escU b := by simp [escU]
theorem escU_none : ∀ l : List UInt8, (∀ x ∈ l, x ≠ 0) → escU l = l
  | [], _ => rfl
  | a :: l, h => by
    have h1 := h a (by simp)
    have h2 := escU_none l (fun x hx => h x (by simp [hx]))
    show (if a = 0 then [0, 255] else [a]) ++ escU l = a :: l
    rw [if_neg h1, h2]
    rfl
theorem escU_len : ∀ l : List UInt8, (escU l).length = l.length + l.count 0
  | [] => rfl
  | a :: l => by
    show ((if a = 0 then [0, 255] else [a]) ++ escU l).length = _
    rw [List.length_append, escU_len l, List.count_cons]
    by_cases h : a = 0
    · rw [if_pos h, h]; simp; omega
    · rw [if_neg h]
      have : (a == 0) = false := beq_eq_false_iff_ne.2 h
      simp [this]; omega
theorem idx_split : ∀ (l : List UInt8), 0 < l.count 0 → ∃ j : Nat, Lib.indexByte l 0 = j ∧ j < l.length ∧ l.drop j = 0 :: l.drop (j + 1) ∧ (∀ x ∈ l.take j, x ≠ 0)
  | [], h => by simp at h
  | a :: l, h => by
    unfold Lib.indexByte
    by_cases ha : a = 0
    · subst ha
      exact ⟨0, by simp, by simp, by simp, by simp⟩
    · have h0 : (a == 0) = false := beq_eq_false_iff_ne.2 ha
      rw [List.count_cons, h0] at h
      obtain ⟨j, h1, h2, h3, h4⟩ := idx_split l (by simpa using h)
      refine ⟨j + 1, ?_, by simp; omega, by simpa using h3, ?_⟩
      · rw [h0, h1]
        have : ((j : Int) == -1) = false := beq_eq_false_iff_ne.2 (by omega)
        simp [this]
      · intro x hx
        rw [List.take_succ_cons] at hx
        rcases List.mem_cons.1 hx with rfl | hx
        · exact ha
        · exact h4 x hx
theorem count0_calls (s : ByteArray) (w : World) : Calls Tryd.prog 44 #[.string s, .string ⟨#[0]⟩] w fun e w' => e = .returned (.int .i64 (s.data.toList.count 0 : Nat)) ∧ w' = w :=
  Any.strings_Count_one { Tryd.lays155 with } s 0 w
theorem index0_calls (s : ByteArray) (w : World) : Calls Tryd.prog 46 #[.string s, .string ⟨#[0]⟩] w fun e w' => e = .returned (.int .i64 (Lib.indexByte s.data.toList 0)) ∧ w' = w :=
  Any.strings_Index_one { Tryd.lays155 with } s 0 w
theorem grow_calls (B b n : Nat) (w : World) (hB : B ≤ b) (hbk : w.heap[b]? = some (.cells #[.pointer none, .slice none 0 0] 72 (0, 0))) (hBw : B ≤ w.heap.size) (hn : n ≤ 281474976710656) :
    Calls Tryd.prog 45 #[.pointer (some ⟨b, 0, none⟩), .int .i64 n] w fun e w' => e = .returned (.tuple #[]) ∧ (Lib.BuilderAt 72 5 B b (.pointer (some ⟨b, 0, none⟩)) [] w' ∧ Below B w w') :=
  Any.Builder_Grow_fresh { Tryd.lays155 with } Tryd.Builder_Extra_155 B b n w hB hbk hBw hn
theorem writeString_calls (B b : Nat) (bs : List Value) (s : ByteArray) (w : World) (h : Lib.IsBuilder 72 5 B b bs w) (hlen : bs.length + s.size ≤ 140737488355328) (hBw : B ≤ w.heap.size) :
    Calls Tryd.prog 47 #[.pointer (some ⟨b, 0, none⟩), .string s] w fun e w' => e = .returned (.tuple #[.int .i64 s.size, .nilIface]) ∧ (Lib.BuilderAt 72 5 B b (.pointer (some ⟨b, 0, none⟩)) (bs ++ Lib.strCells s) w' ∧ Below B w w') :=
  Any.Builder_WriteString { Tryd.lays155 with } Tryd.Builder_Extra_155 B b bs s w h hlen hBw
theorem string_calls (B b : Nat) (l : List UInt8) (w : World) (h : Lib.IsBuilder 72 5 B b (Lib.byteCells l) w) (hBw : B ≤ w.heap.size) :
    Calls Tryd.prog 49 #[.pointer (some ⟨b, 0, none⟩)] w fun e w' => e = .returned (.string ⟨l.toArray⟩) ∧ Below B w w' :=
  Any.Builder_String_any { Tryd.lays155 with } Tryd.Builder_Extra_155 B b l w h hBw
set_option maxHeartbeats 8000000 in
set_option maxRecDepth 1000000 in
theorem replace_walk (s : ByteArray) (hs : s.size ≤ 1000000) (w : World) :
    Calls Tryd.prog 39 #[.string s, .string ⟨#[0]⟩, .string ⟨#[0, 255]⟩, .int .i64 (-1)] w fun e w' => e = .returned (.string ⟨(escU s.data.toList).toArray⟩) ∧ Below w.heap.size w w' := by
  have hlenL : s.data.toList.length = s.size := data_length s
  have hne : ((⟨#[0]⟩ : ByteArray).toList == (⟨#[0, 255]⟩ : ByteArray).toList) = false := by decide +kernel
  obtain ⟨K, hK⟩ : ∃ K : Nat, s.data.toList.count 0 = K := ⟨_, rfl⟩
  have hC := count0_calls s w
  rw [hK] at hC
  have hKs : K ≤ s.size := by rw [← hK, ← hlenL]; exact List.count_le_length
  by_cases hz : K = 0
  · subst hz
    have hE : escU s.data.toList = s.data.toList := escU_none _ (fun x hx e => by
      subst e
      exact absurd (List.count_pos_iff.2 hx) (by omega))
    rw [hE]
    clear hE hK
    go_enter Tryd.func39, Tryd.ntmps39
    go_wp2_with (go_at_call 44; refine hC.mono ?_; rintro e w1 ⟨rfl, hw⟩; rw [hw])
    go_ret
    exact ⟨rfl, Below.refl _ _⟩
  · go_enter Tryd.func39, Tryd.ntmps39
    have hKz : ((K : Int) == 0) = false := beq_eq_false_iff_ne.2 (by omega)
    go_wp2_with (go_at_call 44; refine hC.mono ?_; rintro e w1 ⟨rfl, hw⟩; rw [hw])
    have hga : ((s.size : Int) + (K : Int)) = ((s.size + K : Nat) : Int) := (Int.natCast_add _ _).symm
    rw [hga]
    refine (grow_calls w.heap.size w.heap.size (s.size + K) _ (Nat.le_refl _) (blk_new w _) (by rw [World.size_alloc]; omega) (by omega)).mono ?_
    rintro e w1 ⟨rfl, hb0, hb1⟩
    have H1 := Aside0.mk (Or.inr hb0 : Lib.IsBuilder 72 5 w.heap.size w.heap.size (Lib.byteCells []) w1)
    have HB1 := Aside0.mk (((Below.refl w.heap.size w).alloc (Nat.le_refl _) _).trans hb1)
    have HK := Aside0.mk hK
    clear hb0 hb1 hga hC hK hz hKz hne
    go_wp2_with fail
    go_loopg [11, 53] K (fun kq s11 s53 wx => ∃ (i start : Nat) (acc : List UInt8), s53 = .int .i64 i ∧ s11 = .int .i64 start ∧ Aside0 (i + kq = K) ∧ Aside0 (start ≤ s.size) ∧
      Aside0 (Lib.IsBuilder 72 5 w.heap.size w.heap.size (Lib.byteCells acc) wx) ∧ Aside0 (Below w.heap.size w wx) ∧ Aside0 (acc ++ escU (s.data.toList.drop start) = escU s.data.toList) ∧ Aside0 ((s.data.toList.drop start).count 0 = kq))
    case atStart => exact ⟨0, 0, [], rfl, rfl, ⟨by omega⟩, ⟨Nat.zero_le _⟩, H1, HB1, ⟨by simp⟩, ⟨by simpa using HK.out⟩⟩
    case round =>
      clear H1 HB1
      obtain ⟨i, start, acc, rfl, rfl, HI, HS, HBd, HB, HE, HC⟩ := hrel
      have hBw : w.heap.size ≤ wr.heap.size := HB.out.size
      have hacc : acc.length ≤ 2000000 := by
        have h1 := congrArg List.length HE.out
        rw [List.length_append, escU_len s.data.toList, HK.out, hlenL] at h1
        omega
      have hst := HS.out
      have c1 : (0 : Int) ≤ (start : Int) := by omega
      have c2 : (start : Int) ≤ (s.size : Int) := by omega
      cases gk with
      | zero =>
        have hi : i = K := HI.out
        have hb1 : decide ((i : Int) < (K : Int)) = false := decide_eq_false (by omega)
        have hb2 : decide (i < K) = false := decide_eq_false (by omega)
        have hE : acc ++ s.data.toList.drop start = escU s.data.toList := by
          rw [← HE.out]
          congr 1
          exact (escU_none _ (fun x hx e => by subst e; exact absurd (List.count_pos_iff.2 hx) (by have := HC.out; omega))).symm
        have HEx := Aside0.mk hE
        clear hE hi
        go_wp2_with fail
        refine (writeString_calls w.heap.size w.heap.size _ _ wr HBd.out (by rw [Lib.byteCells_length, ByteArray.size_extract]; omega) hBw).mono ?_
        rintro e w3 ⟨rfl, h3, hb3⟩
        rw [Lib.strCells_eq, Lib.extract_to_end, ← Lib.byteCells_append, HEx.out] at h3
        have H3 := Aside0.mk (Or.inr h3 : Lib.IsBuilder 72 5 w.heap.size w.heap.size _ w3)
        have HB3 := Aside0.mk (HB.out.trans hb3)
        have hBw3 : w.heap.size ≤ w3.heap.size := HB3.out.size
        clear h3 hb3
        go_wp2_with fail
        refine (string_calls w.heap.size w.heap.size _ w3 H3.out hBw3).mono ?_
        rintro e w5 ⟨rfl, hb5⟩
        have HB5 := Aside0.mk (HB3.out.trans hb5)
        clear hb5
        go_wp2
        go_ret
        exact ⟨rfl, HB5.out⟩
      | succ g =>
        have hlt : i < K := by have := HI.out; omega
        have hb1 : decide ((i : Int) < (K : Int)) = true := decide_eq_true (by omega)
        have hb2 : decide (i < K) = true := decide_eq_true hlt
        obtain ⟨j, hj, hjl, hjd, hjt⟩ := idx_split (s.data.toList.drop start) (by have := HC.out; omega)
        rw [List.length_drop, hlenL] at hjl
        have c3 : (start : Int) ≤ (start : Int) + (j : Int) := by omega
        have c4 : (start : Int) + (j : Int) ≤ (s.size : Int) := by omega
        have hsplit : s.data.toList.drop start = (s.data.toList.drop start).take j ++ 0 :: s.data.toList.drop (start + j + 1) := by
          conv => lhs; rw [← List.take_append_drop j (s.data.toList.drop start), hjd, List.drop_drop]
          rw [Nat.add_assoc]
        have hnext : Lib.byteCells acc ++ Lib.strCells (s.extract start (start + j)) ++ Lib.strCells ⟨#[0, 255]⟩ = Lib.byteCells (acc ++ (s.data.toList.drop start).take j ++ [0, 255]) := by
          rw [Lib.strCells_eq, Lib.strCells_eq, Lib.extract_data, Nat.add_sub_cancel_left, ← Lib.byteCells_append, ← Lib.byteCells_append]
        have hrep : (acc ++ (s.data.toList.drop start).take j ++ [0, 255]) ++ escU (s.data.toList.drop (start + j + 1)) = escU s.data.toList := by
          rw [← HE.out]
          conv => rhs; rw [hsplit, escU_append, escU_none _ hjt]
          show _ = acc ++ ((s.data.toList.drop start).take j ++ ([0, 255] ++ escU (s.data.toList.drop (start + j + 1))))
          simp only [List.append_assoc]
        have hcnt : (s.data.toList.drop (start + j + 1)).count 0 = g := by
          have h1 := HC.out
          rw [hsplit, List.count_append, List.count_cons, List.count_eq_zero.2 (fun hm => hjt 0 hm rfl)] at h1
          simp at h1
          omega
        have Hn := Aside0.mk hnext
        have Hrep := Aside0.mk hrep
        have Hcnt := Aside0.mk hcnt
        have Hj := Aside0.mk hj
        clear hnext hrep hcnt hsplit hjd hjt hj HE HC
        go_wp2_with (go_at_call 46; refine (index0_calls _ _).mono ?_; rintro e w' ⟨rfl, hw⟩; rw [hw, Lib.extract_to_end, Hj.out])
        refine (writeString_calls w.heap.size w.heap.size _ (s.extract start (start + j)) wr HBd.out (by rw [Lib.byteCells_length, ByteArray.size_extract]; omega) hBw).mono ?_
        rintro e w3 ⟨rfl, h3, hb3⟩
        have hBw3 : w.heap.size ≤ w3.heap.size := Nat.le_trans hBw hb3.size
        have H3 := Aside0.mk h3
        have HB3 := Aside0.mk hb3
        clear h3 hb3
        go_wp2_with fail
        refine (writeString_calls w.heap.size w.heap.size _ ⟨#[0, 255]⟩ w3 (Or.inr H3.out) (by rw [List.length_append, Lib.byteCells_length, Lib.strCells_length, ByteArray.size_extract]; have : (⟨#[0, 255]⟩ : ByteArray).size = 2 := rfl; omega) hBw3).mono ?_
        rintro e w4 ⟨rfl, h4, hb4⟩
        rw [Hn.out] at h4
        have H4 := Aside0.mk (Or.inr h4 : Lib.IsBuilder 72 5 w.heap.size w.heap.size _ w4)
        have HB4 := Aside0.mk ((HB.out.trans HB3.out).trans hb4)
        clear h4 hb4
        go_wp2
        go_roundg g
        case measure => omega
        case rel => exact ⟨i + 1, start + j + 1, _, by first | rfl | (simp; done) | (simp; unfold wrap64; omega), by first | rfl | (simp; done) | (simp; unfold wrap64; omega), ⟨by have := HI.out; omega⟩, ⟨by omega⟩, H4, HB4, Hrep, Hcnt⟩
theorem replaceAll_calls (s : ByteArray) (hs : s.size ≤ 1000000) (w : World) :
    Calls Tryd.prog 31 #[.string s, .string ⟨#[0]⟩, .string ⟨#[0, 255]⟩] w fun e w' => e = .returned (.string ⟨(escU s.data.toList).toArray⟩) ∧ Below w.heap.size w w' := by
  go_enter Tryd.func31, Tryd.ntmps31
  go_wp2_with (go_at_call 39; refine (replace_walk s hs _).mono ?_; rintro e w1 ⟨rfl, hb1⟩)
  go_ret
  exact ⟨rfl, hb1⟩
end Go.Proofs.YtindffllmlifiaaDoor.Q
