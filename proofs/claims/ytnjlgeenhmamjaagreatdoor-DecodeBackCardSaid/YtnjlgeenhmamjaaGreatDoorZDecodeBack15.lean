/- (*strings.byteStringReplacer).Replace: walked (printed by gen/repc.py). -/
import Derived.Test.YtnjlgeenhmamjaaGreatDoorZDecodeBack10
import Derived.Test.YtnjlgeenhmamjaaGreatDoorZDecodeBack13
import Derived.Laws.CopyOwn
import Derived.Deep.CutBlock
namespace Go.Proofs.YtnjlgeenhmamjaaGreatDoor.Q
open Go.RowKit Go.Proofs.YtnjlgeenhmamjaaGreatDoorW.PrintWords Go.Proofs.YtnjlgeenhmamjaaGreatDoorW.PrintLast Go.Proofs.YtnjlgeenhmamjaaGreatDoorW.PrintMore
set_option linter.unusedVariables false
set_option linter.unusedSimpArgs false
/-- Is a byte one that wants a sign ahead? -/
def isS (c : Int) : Prop := c = 44 ∨ c = 92
instance (c : Int) : Decidable (isS c) := by unfold isS; exact inferInstance
/-- Bytes with their signs. -/
def escS : List Int → List Int
  | [] => []
  | c :: r => if isS c then 92 :: c :: escS r else c :: escS r
/-- How many signs are wanted. -/
def cntS : List Int → Nat
  | [] => 0
  | c :: r => if isS c then cntS r + 1 else cntS r
theorem escS_cons (c : Int) (r : List Int) : escS (c :: r) = if isS c then 92 :: c :: escS r else c :: escS r := rfl
theorem cntS_cons (c : Int) (r : List Int) : cntS (c :: r) = if isS c then cntS r + 1 else cntS r := rfl
theorem escS_len : ∀ l, (escS l).length = l.length + cntS l
  | [] => rfl
  | c :: r => by
    unfold escS cntS
    split
    · simp only [List.length_cons, escS_len r]; omega
    · simp only [List.length_cons, escS_len r]; omega
theorem escS_append : ∀ a b, escS (a ++ b) = escS a ++ escS b
  | [], b => rfl
  | c :: r, b => by
    show escS (c :: (r ++ b)) = _
    rw [escS_cons, escS_cons, escS_append r b]
    split <;> rfl
theorem cntS_append : ∀ a b, cntS (a ++ b) = cntS a + cntS b
  | [], b => by simp [cntS]
  | c :: r, b => by
    show cntS (c :: (r ++ b)) = _
    rw [cntS_cons, cntS_cons, cntS_append r b]
    split <;> omega
theorem cntS_le : ∀ l, cntS l ≤ l.length
  | [] => Nat.le_refl _
  | c :: r => by
    unfold cntS
    have := cntS_le r
    split <;> simp only [List.length_cons] <;> omega
theorem escS_none : ∀ l, cntS l = 0 → escS l = l
  | [], _ => rfl
  | c :: r, h => by
    unfold cntS at h
    unfold escS
    split at h
    · omega
    · rename_i hc
      rw [if_neg hc, escS_none r h]
theorem cntS_count (s : ByteArray) : cntS (bytesOf s) = Lib.countByte s.data.toList 92 + Lib.countByte s.data.toList 44 := by
  unfold bytesOf
  generalize s.data.toList = l
  induction l with
  | nil => rfl
  | cons c r ih =>
    rw [List.map_cons, cntS_cons, ih]
    unfold Lib.countByte
    rw [List.count_cons, List.count_cons]
    by_cases h1 : c = 92
    · subst h1
      rw [if_pos (show isS (((92 : UInt8).toNat : Nat) : Int) from .inr rfl), if_pos (show ((92 : UInt8) == 92) = true from rfl), if_neg (show ¬ ((92 : UInt8) == 44) = true by decide)]
      omega
    · by_cases h2 : c = 44
      · subst h2
        rw [if_pos (show isS (((44 : UInt8).toNat : Nat) : Int) from .inl rfl), if_neg (show ¬ ((44 : UInt8) == 92) = true by decide), if_pos (show ((44 : UInt8) == 44) = true from rfl)]
        omega
      · rw [if_neg (show ¬ isS ((c.toNat : Nat) : Int) from fun h => by
          rcases h with h | h
          · exact h2 (UInt8.toNat_inj.1 (by show c.toNat = 44; omega))
          · exact h1 (UInt8.toNat_inj.1 (by show c.toNat = 92; omega))), if_neg (fun h => h1 (beq_iff_eq.1 h)), if_neg (fun h => h2 (beq_iff_eq.1 h))]
        omega
/-- The first i bytes. -/
def tk (s : ByteArray) (i : Nat) : List Int := (bytesOf s).take i
theorem tk_succ (s : ByteArray) (i : Nat) (h : i < s.size) : tk s (i + 1) = tk s i ++ [bt s i] := by
  have hl := bytesOf_length s
  unfold tk
  rw [List.take_add_one, List.getElem?_eq_getElem (by omega)]
  have e : bt s i = (bytesOf s)[i]'(by omega) := by
    rw [← rd_bytesOf s (i : Int)]
    unfold rd
    rw [Int.toNat_natCast, List.getD_eq_getElem?_getD, List.getElem?_eq_getElem (by omega)]
    rfl
  rw [e]
  rfl
theorem tk_all (s : ByteArray) : tk s s.size = bytesOf s := by
  unfold tk
  exact List.take_of_length_le (by rw [bytesOf_length]; exact Nat.le_refl _)
theorem cntS_one (c : Int) : cntS [c] = if isS c then 1 else 0 := by unfold cntS; split <;> rfl
theorem escS_one (c : Int) : escS [c] = if isS c then [92, c] else [c] := by unfold escS; split <;> rfl
/-- The rest behind what is done is not shorter. -/
theorem esc_room (s : ByteArray) (i : Nat) (h : i < s.size) : (escS (tk s i)).length + (if isS (bt s i) then 2 else 1) ≤ s.size + cntS (bytesOf s) := by
  have h1 : bytesOf s = tk s (i + 1) ++ (bytesOf s).drop (i + 1) := (List.take_append_drop _ _).symm
  have h2 := escS_len (bytesOf s)
  rw [bytesOf_length] at h2
  rw [← h2, h1, escS_append, tk_succ s i h, escS_append, escS_one]
  simp only [List.length_append]
  split <;> simp <;> omega
/-- What a table holds at a byte. -/
theorem BST.at_s {B bk : Nat} {cur : Array Value} {vt : Value} {w : World} (h : BST B bk KS cur vt w) (b : Nat) (hb : isS (b : Int)) : ∃ g' c', w.cell? ⟨bk, b, none⟩ = some (.slice (some ⟨g', 0, none⟩) 2 c') ∧ Kd.C (Kd.int .u8) w (some ⟨g', 0, none⟩) 2 [92, (b : Int)] := by
  obtain ⟨h1, h2, h3, h4, h5, h6, h7⟩ := h
  rcases hb with hb | hb
  · obtain rfl : b = 44 := by omega
    obtain ⟨g', c', a1, a2, _⟩ := h7 (44, ⟨#[92, 44]⟩) (by simp)
    exact ⟨g', c', (blk_cell h1 44).trans a1, a2⟩
  · obtain rfl : b = 92 := by omega
    obtain ⟨g', c', a1, a2, _⟩ := h7 (92, ⟨#[92, 92]⟩) (by simp)
    exact ⟨g', c', (blk_cell h1 92).trans a1, a2⟩
theorem BST.at_n {B bk : Nat} {cur : Array Value} {vt : Value} {w : World} (h : BST B bk KS cur vt w) (b : Nat) (h256 : b < 256) (hb : ¬ isS (b : Int)) : w.cell? ⟨bk, b, none⟩ = some (.slice none 0 0) := by
  obtain ⟨h1, h2, h3, h4, h5, h6, h7⟩ := h
  refine (blk_cell h1 b).trans (h6 b h256 (fun p hp e => hb ?_))
  simp only [KS, List.mem_cons, List.not_mem_nil, or_false] at hp
  rcases hp with rfl | rfl
  · right; have : (92 : UInt8).toNat = b := e; have e2 : (92 : UInt8).toNat = 92 := rfl; omega
  · left; have : (44 : UInt8).toNat = b := e; have e2 : (44 : UInt8).toNat = 44 := rfl; omega
/-- A byte as a number. -/
theorem bt_nat (s : ByteArray) (i : Nat) (h : i < s.size) : ∃ b : Nat, bt s i = (b : Int) ∧ b < 256 ∧ ∀ h : i < s.size, (s[i]'h).toNat = b := by
  refine ⟨(s[i]'h).toNat, ?_, (s[i]'h).toNat_lt, fun _ => rfl⟩
  unfold bt
  rw [Int.toNat_natCast, dif_pos h]
/-- The row that is filled. -/
def fillR (done : List Int) (N : Nat) : List Value := nums .u8 (done ++ List.replicate (N - done.length) 0)
theorem fill_len (done : List Int) (N : Nat) (h : done.length ≤ N) : (fillR done N).length = N := by
  unfold fillR nums
  simp
  omega
theorem fill_zero (N : Nat) : (madeCells #[Value.int .u8 0] N) = (fillR [] N).toArray := by
  apply Array.ext'
  apply List.ext_getElem
  · simp [fillR, nums, madeCells]
  · intro i h1 h2
    simp [fillR, nums, madeCells, Nat.mod_one]
theorem fill_splice (done : List Int) (N : Nat) (x : List Int) (h : done.length + x.length ≤ N) : splice (fillR done N) done.length (nums .u8 x) = fillR (done ++ x) N := by
  unfold splice fillR nums
  simp only [List.map_append, List.map_replicate, List.length_map, List.length_append]
  rw [List.take_append_of_le_length (by simp), List.take_of_length_le (by simp), List.drop_append, List.drop_of_length_le (by simp)]
  simp only [List.nil_append, List.length_map, List.drop_replicate, List.append_assoc]
  rw [show N - done.length - (done.length + x.length - done.length) = N - (done.length + x.length) by omega]
theorem fill_set (done : List Int) (N : Nat) (c : Int) (h : done.length < N) : (fillR done N).toArray.setIfInBounds done.length (.int .u8 c) = (fillR (done ++ [c]) N).toArray := by
  have e := fill_splice done N [c] (by simp; omega)
  rw [← e]
  unfold splice
  apply Array.ext'
  rw [Array.toList_setIfInBounds]
  have hl := fill_len done N (by omega)
  rw [List.set_eq_take_append_cons_drop, if_pos (by rw [hl]; exact h)]
  rfl
theorem fill_all (l : List Int) (N : Nat) (h : l.length = N) : fillR l N = nums .u8 l := by
  unfold fillR
  rw [h, Nat.sub_self]
  simp
theorem fill_C (w : World) (g : Nat) (l : List Int) (hl : l.length ≤ 9223372036854775807) (h : w.heap[g]? = some (.cells (nums .u8 l).toArray 5 (0, 0))) : Kd.C (Kd.int .u8) w (some ⟨g, 0, none⟩) l.length l := by
  refine Kd.C_of_reads (enc := Value.int .u8) (d := (0 : Int)) (h1 := fun _ => rfl) ⟨rfl, hl, fun _ => ⟨_, rfl, fun j hj => ?_⟩⟩
  rw [add_plain]
  refine (blk_cell h j).trans ?_
  unfold nums
  rw [List.getElem?_toArray, List.getElem?_map, List.getElem?_eq_getElem hj, List.getD_eq_getElem?_getD, List.getElem?_eq_getElem hj]
  rfl
theorem fill_at (done : List Int) (N : Nat) (h : done.length < N) : (fillR done N).toArray[done.length]? = some (.int .u8 0) := by
  unfold fillR nums
  rw [List.getElem?_toArray, List.getElem?_map, List.getElem?_append_right (Nat.le_refl _), Nat.sub_self, List.getElem?_replicate, if_pos (by omega)]
  rfl
/-- What holds while the row is filled. -/
def FillW (s : ByteArray) (N G : Nat) (w : World) (i : Nat) (wr : World) : Prop :=
  wr.heap[G]? = some (.cells (fillR (escS (tk s i)) N).toArray 5 (0, 0)) ∧ Below w.heap.size w wr
/-- How many of the first i signs there are. -/
def pc (s : ByteArray) : Nat → Nat
  | 0 => 0
  | 1 => 0 + Lib.countByte s.data.toList 92
  | _ => 0 + Lib.countByte s.data.toList 92 + Lib.countByte s.data.toList 44
theorem pc_two (s : ByteArray) : pc s 2 = cntS (bytesOf s) := by rw [cntS_count]; show 0 + _ + _ = _; omega
theorem countByte_le (s : ByteArray) (c : UInt8) : Lib.countByte s.data.toList c ≤ s.size := by
  unfold Lib.countByte
  refine Nat.le_trans List.count_le_length ?_
  rw [Array.length_toList]
  exact Nat.le_refl _
theorem cm_one (s : ByteArray) (i m : Nat) (h : m = s.size + cntS (tk s i)) (hts : cntS (tk s (i + 1)) = cntS (tk s i) + 1) : m + 1 = s.size + cntS (tk s (i + 1)) ∧ decide (m + 1 ≠ s.size) = true := by
  rw [h, hts]
  refine ⟨Nat.add_assoc _ _ _, decide_eq_true ?_⟩
  generalize cntS (tk s i) = c
  omega
theorem dec_ne (a b c d : Nat) (h : a = b ↔ c = d) : decide (a ≠ b) = decide (c ≠ d) := decide_eq_decide.2 (not_congr h)
theorem cm_two (m S c nk : Nat) (h : m = S + c) (hz : 0 < nk) : decide (m + nk ≠ S) = true := decide_eq_true (by omega)
theorem pc_le (s : ByteArray) (i : Nat) : pc s i ≤ s.size + s.size := by
  have h1 := countByte_le s 92
  have h2 := countByte_le s 44
  unfold pc
  split <;> omega
end Go.Proofs.YtnjlgeenhmamjaaGreatDoor.Q
/- (*strings.byteStringReplacer).Replace: walked. -/
namespace Go.Proofs.YtnjlgeenhmamjaaGreatDoor.Q
open Go.RowKit Go.Proofs.YtnjlgeenhmamjaaGreatDoorW.PrintWords Go.Proofs.YtnjlgeenhmamjaaGreatDoorW.PrintLast Go.Proofs.YtnjlgeenhmamjaaGreatDoorW.PrintMore
set_option linter.unusedVariables false
set_option linter.unusedSimpArgs false
set_option maxHeartbeats 16000000 in
set_option maxRecDepth 100000 in
theorem bsr_calls (B bk : Nat) (cur : Array Value) (vt : Value) (s : ByteArray) (hs : s.size ≤ 1000) (w : World) (h : BST B bk KS cur vt w) :
    Calls Tryz.prog 132 #[.pointer (some ⟨bk, 0, none⟩), .string s] w fun e w' => e = .returned (.string (strOfNums (escS (bytesOf s)))) ∧ Below w.heap.size w w' := by
  have HS := Aside0.mk h
  have hu27 := Tryz.underlying27
  obtain ⟨n, hn⟩ : ∃ n, cntS (bytesOf s) = n := ⟨_, rfl⟩
  have hnl : n ≤ s.size := by rw [← hn, ← bytesOf_length]; exact cntS_le _
  have HN := Aside0.mk hn
  obtain ⟨N, hNN⟩ : ∃ N, s.size + n = N := ⟨_, rfl⟩
  have HNN := Aside0.mk hNN
  have hNle : N ≤ 2000 := by omega
  obtain ⟨At, ct, rfl⟩ := Kd.R_slice h.2.2.2.1
  have HT := Aside0.mk (Kd.R_reads' h.2.2.2.1).2.2
  have e256 : w.cell? ⟨bk, 256, none⟩ = some (.slice At 2 ct) := (blk_cell h.1 256).trans h.2.2.1
  have HE : Aside0 (n = 0 → strOfNums (escS (bytesOf s)) = s) := ⟨fun h0 => by rw [escS_none _ (by rw [HN.out]; exact h0)]; exact strNums_bytesOf s⟩
  have HR : Aside0 (∃ R, strOfNums (escS (bytesOf s)) = R) := ⟨⟨_, rfl⟩⟩
  obtain ⟨R, hR⟩ := HR.out
  rw [hR] at HE ⊢
  have HRR := Aside0.mk hR
  clear h hn hNN hR HR
  go_enter Tryz.func132, Tryz.ntmps132
  go_upto_if 26 with (fail)
  go_cut [5, 6] (fun v5 v6 wc => v5 = .int .i64 N ∧ v6 = .bool (decide (n ≠ 0)) ∧ Aside0 (Drawn0 w wc))
  case first =>
    by_cases h16 : 16 ≤ s.size
    · clear HE HRR
      have d16 : decide ((16 : Int) ≤ (s.size : Int)) = true := decide_eq_true (by omega)
      have d16b : decide (16 ≤ s.size) = true := decide_eq_true h16
      have d16c : (16 : Int) ≤ (s.size : Int) := by omega
      rw [d16]
      go_wp2
      go_loopg [5, 6, 32] 2 (fun kq v5 v6 v32 wr => ∃ (i m : Nat) (bm : Bool), v32 = .int .i64 i ∧ v5 = .int .i64 m ∧ v6 = .bool bm ∧ Aside0 (bm = decide (m ≠ s.size)) ∧ Aside0 (i + kq = 2) ∧ Aside0 (m = s.size + pc s i) ∧ Aside0 (Drawn0 w wr))
      case atStart => exact ⟨0, s.size, false, rfl, rfl, rfl, ⟨by simp⟩, ⟨by omega⟩, ⟨rfl⟩, ⟨.refl _⟩⟩
      case round =>
        obtain ⟨i, m, bm, rfl, rfl, rfl, HBM, HI, HM, HD⟩ := hrel
        cases gk with
        | zero =>
          obtain rfl : i = 2 := HI.out
          have hm : m = N := by have h1 := HM.out; have h2 := HNN.out; have h3 := HN.out; rw [pc_two] at h1; omega
          have HM2 := Aside0.mk hm
          clear hm HM
          go_wp2
          go_meet
          case rel =>
            refine ⟨by rw [HM2.out], ?_, HD⟩
            refine congrArg Value.bool ?_
            rw [HBM.out]
            have h2 := HNN.out
            have h3 := HM2.out
            first | exact dec_ne _ _ _ _ (by omega) | (rw [show (!decide (m = s.size)) = decide (m ≠ s.size) by simp]; exact dec_ne _ _ _ _ (by omega))
        | succ k1 =>
          rcases (by have := HI.out; omega : i = 0 ∨ i = 1) with hik | hik
          · obtain rfl : i = 0 := hik
            have hcnt := Tryz.strings_Count_one s 92 wr
            have hS := HS.out.below HD.out.below
            obtain ⟨g', c', m1, m2⟩ := hS.at_s 92 (by unfold isS; omega)
            obtain ⟨ad, rfl, x0⟩ := Kd.at_string (Kd.C_below HT.out HD.out.below) 0 (by decide) (by decide)
            obtain ⟨ab, ao, av⟩ := ad
            have x1 : wr.cell? ⟨ab, ao + 0, av⟩ = some (.string ⟨#[92]⟩) := x0
            rw [Nat.add_zero] at x1
            have HCN : Aside0 (pc s 1 = pc s 0 + Lib.countByte s.data.toList 92) := ⟨rfl⟩
            have HCL : Aside0 (Lib.countByte s.data.toList 92 ≤ s.size) := ⟨countByte_le s 92⟩
            clear x0 hS m2
            have hxo : ∀ h : 0 < (⟨#[92]⟩ : ByteArray).size, (((⟨#[92]⟩ : ByteArray)[0]'h).toNat : Int) = 92 := fun _ => rfl
            have hlt2 : decide ((0 : Int) < 2) = true := rfl
            generalize Lib.countByte s.data.toList 92 = nk at hcnt HCN HCL
            have hmle : m ≤ 3000 := by
              have h1 := HM.out; have h2 := HCN.out; have h3 := HCL.out; have h4 := pc_le s 0; omega
            by_cases hz : nk = 0
            · have HZ := Aside0.mk hz
              subst hz
              go_wp2_with (go_at_call 134; refine hcnt.mono ?_; rintro e w1 ⟨rfl, rfl⟩)
              go_roundg k1
              case measure => omega
              case rel => exact ⟨1, m, bm, rfl, rfl, rfl, HBM, ⟨by have := HI.out; omega⟩, ⟨by rw [HCN.out]; exact HM.out⟩, HD⟩
            · have hne : decide ((nk : Int) = 0) = false := decide_eq_false (by omega)
              have hne3 : ¬ (nk : Int) = 0 := by omega
              have hw3 : wrap64 ((nk : Int)) = (nk : Int) := wrap_in (by unfold in64; have := HCL.out; omega)
              have hw4 : wrap64 ((m : Int) + (nk : Int)) = (m : Int) + (nk : Int) := wrap_in (by unfold in64; have := HCL.out; omega)
              have HNE := Aside0.mk (cm_two m s.size (pc s 0) nk HM.out (by omega))
              go_wp2_with (go_at_call 134; refine hcnt.mono ?_; rintro e w1 ⟨rfl, rfl⟩)
              go_quiet (fail)
              go_wp2
              go_roundg k1
              case measure => omega
              case rel =>
                refine ⟨1, m + nk, true, rfl, by congr 1, rfl, ⟨HNE.out.symm⟩, ⟨by have := HI.out; omega⟩, ⟨?_⟩, ⟨?_⟩⟩
                · rw [HCN.out, HM.out, Nat.add_assoc]
                · exact HD.out.step _
          · obtain rfl : i = 1 := hik
            have hcnt := Tryz.strings_Count_one s 44 wr
            have hS := HS.out.below HD.out.below
            obtain ⟨g', c', m1, m2⟩ := hS.at_s 44 (by unfold isS; omega)
            obtain ⟨ad, rfl, x0⟩ := Kd.at_string (Kd.C_below HT.out HD.out.below) 1 (by decide) (by decide)
            obtain ⟨ab, ao, av⟩ := ad
            have x1 : wr.cell? ⟨ab, ao + 1, none⟩ = some (.string ⟨#[44]⟩) := x0
            skip
            have HCN : Aside0 (pc s 2 = pc s 1 + Lib.countByte s.data.toList 44) := ⟨rfl⟩
            have HCL : Aside0 (Lib.countByte s.data.toList 44 ≤ s.size) := ⟨countByte_le s 44⟩
            clear x0 hS m2
            have hxo : ∀ h : 0 < (⟨#[44]⟩ : ByteArray).size, (((⟨#[44]⟩ : ByteArray)[0]'h).toNat : Int) = 44 := fun _ => rfl
            have hlt2 : decide ((1 : Int) < 2) = true := rfl
            generalize Lib.countByte s.data.toList 44 = nk at hcnt HCN HCL
            have hmle : m ≤ 3000 := by
              have h1 := HM.out; have h2 := HCN.out; have h3 := HCL.out; have h4 := pc_le s 1; omega
            by_cases hz : nk = 0
            · have HZ := Aside0.mk hz
              subst hz
              go_wp2_with (go_at_call 134; refine hcnt.mono ?_; rintro e w1 ⟨rfl, rfl⟩)
              go_roundg k1
              case measure => omega
              case rel => exact ⟨2, m, bm, rfl, rfl, rfl, HBM, ⟨by have := HI.out; omega⟩, ⟨by rw [HCN.out]; exact HM.out⟩, HD⟩
            · have hne : decide ((nk : Int) = 0) = false := decide_eq_false (by omega)
              have hne3 : ¬ (nk : Int) = 0 := by omega
              have hw3 : wrap64 ((nk : Int)) = (nk : Int) := wrap_in (by unfold in64; have := HCL.out; omega)
              have hw4 : wrap64 ((m : Int) + (nk : Int)) = (m : Int) + (nk : Int) := wrap_in (by unfold in64; have := HCL.out; omega)
              have HNE := Aside0.mk (cm_two m s.size (pc s 1) nk HM.out (by omega))
              go_wp2_with (go_at_call 134; refine hcnt.mono ?_; rintro e w1 ⟨rfl, rfl⟩)
              go_quiet (fail)
              go_wp2
              go_roundg k1
              case measure => omega
              case rel =>
                refine ⟨2, m + nk, true, rfl, by congr 1, rfl, ⟨HNE.out.symm⟩, ⟨by have := HI.out; omega⟩, ⟨?_⟩, ⟨?_⟩⟩
                · rw [HCN.out, HM.out, Nat.add_assoc]
                · exact HD.out.step _
    · clear HE HRR e256
      have d16 : decide ((16 : Int) ≤ (s.size : Int)) = false := decide_eq_false (by omega)
      have d16b : decide (16 ≤ s.size) = false := decide_eq_false (by omega)
      have d16c : ¬ (16 : Int) ≤ (s.size : Int) := by omega
      go_wp2
      go_loopg [5, 6, 10] s.size (fun kq v5 v6 v10 wr => ∃ (i m : Nat), v10 = .int .i64 i ∧ v5 = .int .i64 m ∧ v6 = .bool (decide (m ≠ s.size)) ∧ Aside0 (i + kq = s.size) ∧ Aside0 (m = s.size + cntS (tk s i)) ∧ Aside0 (Drawn0 w wr))
      case atStart => exact ⟨0, s.size, rfl, rfl, by simp, ⟨by omega⟩, ⟨rfl⟩, ⟨.refl _⟩⟩
      case round =>
        obtain ⟨i, m, rfl, rfl, rfl, HI, HM, HD⟩ := hrel
        cases gk with
        | zero =>
          have hi : i = s.size := HI.out
          have hlb : decide ((i : Int) < (s.size : Int)) = false := decide_eq_false (by omega)
          have hlb2 : decide (i < s.size) = false := decide_eq_false (by omega)
          have hm : m = N := by have h1 := HM.out; have h2 := HNN.out; have h3 := HN.out; rw [hi, tk_all] at h1; omega
          have HM2 := Aside0.mk hm
          clear hm hi HM
          go_wp2
          go_meet
          case rel =>
            refine ⟨by rw [HM2.out], ?_, HD⟩
            refine congrArg Value.bool ?_
            have h2 := HNN.out
            have h3 := HM2.out
            first | exact dec_ne _ _ _ _ (by omega) | (rw [show (!decide (m = s.size)) = decide (m ≠ s.size) by simp]; exact dec_ne _ _ _ _ (by omega))
        | succ k1 =>
          have hlt : i < s.size := by have := HI.out; omega
          have hlb : decide ((i : Int) < (s.size : Int)) = true := decide_eq_true (by omega)
          have hlb2 : decide (i < s.size) = true := decide_eq_true hlt
          have hw1 : wrap64 ((i : Int) + 1) = (i : Int) + 1 := wrap_in (by unfold in64; omega)
          obtain ⟨b, hb, h256, hx⟩ := bt_nat s i hlt
          have hx2 : ∀ h : i < s.size, ((s[i]'h).toNat : Int) = (b : Int) := fun h => by rw [hx h]
          have p4 : (0 : Int) ≤ (i : Int) := by omega
          have q4 : (i : Int) < (s.size : Int) := by omega
          have hb1 : decide ((b : Int) < 256) = true := decide_eq_true (by omega)
          have hb0 : (0 : Int) ≤ (b : Int) := by omega
          have hbl : (b : Int) < 256 := by omega
          have hts : cntS (tk s (i + 1)) = cntS (tk s i) + (if isS (b : Int) then 1 else 0) := by rw [tk_succ s i hlt, hb, cntS_append, cntS_one]
          have hcl := cntS_le (tk s i)
          have htl : (tk s i).length ≤ s.size := by unfold tk; rw [List.length_take, bytesOf_length]; omega
          have hmle : m ≤ 2000 := by have := HM.out; omega
          have hS := HS.out.below HD.out.below
          by_cases hsp : isS (b : Int)
          · obtain ⟨g', c', m1, m2⟩ := hS.at_s b hsp
            rw [if_pos hsp] at hts
            have hw2 : wrap64 ((m : Int) + 1) = (m : Int) + 1 := wrap_in (by unfold in64; omega)
            have HM2 := Aside0.mk (cm_one s i m HM.out hts).1
            have hmd := Aside0.mk (cm_one s i m HM.out hts).2
            clear hts hcl htl hS hsp m2
            go_wp2
            go_roundg k1
            case measure => omega
            case rel => exact ⟨i + 1, m + 1, by congr 1, by congr 1, by rw [hmd.out], ⟨by have := HI.out; omega⟩, HM2, HD⟩
          · have m1 := hS.at_n b h256 hsp
            rw [if_neg hsp] at hts
            have HM2 : Aside0 (m = s.size + cntS (tk s (i + 1))) := ⟨HM.out.trans (congrArg (s.size + ·) hts.symm)⟩
            clear hts hcl htl hS hsp
            go_wp2
            go_roundg k1
            case measure => omega
            case rel => exact ⟨i + 1, m, by congr 1, rfl, rfl, ⟨by have := HI.out; omega⟩, HM2, HD⟩
  case rest =>
    obtain ⟨rfl, rfl, HD⟩ := hcut
    clear e256 HT
    by_cases hn : n = 0
    · have hd0 : decide (n = 0) = true := decide_eq_true hn
      obtain rfl := HE.out hn
      clear HE
      go_wp2
      go_ret
      exact ⟨rfl, HD.out.below⟩
    · have hd0 : decide (n ≠ 0) = true := decide_eq_true hn
      rw [hd0]
      clear hd0
      have pm := print_make (P := Tryz.prog) 27 5 .u8 1 Tryz.underlying27 info5 (by omega) N (by omega) wc
      rw [fill_zero] at pm
      have HF0 : Aside0 (FillW s N wc.heap.size w 0 (wc.alloc (.cells (fillR [] N).toArray 5))) := ⟨⟨blk_new wc _, below_alloc HD.out.below _⟩⟩
      have HGw := Aside0.mk (show w.heap.size ≤ wc.heap.size from HD.out.below.size)
      clear hn HE
      go_wp2
      clear pm
      generalize wc.heap.size = G at HF0 HGw ⊢
      go_loopg [13, 14] s.size (fun kq v13 v14 wr => ∃ (i j : Nat), v14 = .int .i64 i ∧ v13 = .int .i64 j ∧ Aside0 (i + kq = s.size) ∧ Aside0 (j = (escS (tk s i)).length) ∧ Aside0 (FillW s N G w i wr))
      case atStart => exact ⟨0, 0, rfl, rfl, ⟨by omega⟩, ⟨rfl⟩, HF0⟩
      case round =>
        clear HF0
        obtain ⟨i, j, rfl, rfl, HI, HJ, HF⟩ := hrel
        cases gk with
        | zero =>
          have hi : i = s.size := HI.out
          have hlb : decide ((i : Int) < (s.size : Int)) = false := decide_eq_false (by omega)
          have hlb2 : decide (i < s.size) = false := decide_eq_false (by omega)
          have hg := HF.out.1
          rw [hi, tk_all, fill_all _ N (by rw [escS_len, bytesOf_length, HN.out]; exact HNN.out)] at hg
          have hlen : (escS (bytesOf s)).length = N := by rw [escS_len, bytesOf_length, HN.out]; exact HNN.out
          have hC := fill_C wr G (escS (bytesOf s)) (by omega) hg
          rw [hlen] at hC
          have cv := Kd.C_string (P := Tryz.prog) (c := N) Tryz.underlying27 Tryz.underlying5 Tryz.underlying9 hC
          rw [HRR.out] at cv
          clear hi hg hlen hC
          go_wp2
          go_ret
          exact ⟨rfl, HF.out.2⟩
        | succ k1 =>
          have hlt : i < s.size := by have := HI.out; omega
          have hlb : decide ((i : Int) < (s.size : Int)) = true := decide_eq_true (by omega)
          have hlb2 : decide (i < s.size) = true := decide_eq_true hlt
          have hw1 : wrap64 ((i : Int) + 1) = (i : Int) + 1 := wrap_in (by unfold in64; omega)
          obtain ⟨b, hb, h256, hx⟩ := bt_nat s i hlt
          have hx2 : ∀ h : i < s.size, ((s[i]'h).toNat : Int) = (b : Int) := fun h => by rw [hx h]
          have p4 : (0 : Int) ≤ (i : Int) := by omega
          have q4 : (i : Int) < (s.size : Int) := by omega
          have hroom := esc_room s i hlt
          rw [hb, HN.out, HNN.out, ← HJ.out] at hroom
          have hts := tk_succ s i hlt
          rw [hb] at hts
          have hes : escS (tk s (i + 1)) = escS (tk s i) ++ (if isS (b : Int) then [92, (b : Int)] else [(b : Int)]) := by rw [hts, escS_append, escS_one]
          have hS := HS.out.below HF.out.2
          have hb1 : decide ((b : Int) < 256) = true := decide_eq_true (by omega)
          have hb0 : (0 : Int) ≤ (b : Int) := by omega
          have hbl : (b : Int) < 256 := by omega
          have hblk := HF.out.1
          by_cases hsp : isS (b : Int)
          · obtain ⟨g', c', m1, m2⟩ := hS.at_s b hsp
            rw [if_pos hsp] at hroom hes
            have hjl : j + 2 ≤ N := hroom
            have hw2 : wrap64 ((j : Int) + 2) = (j : Int) + 2 := wrap_in (by unfold in64; omega)
            have hjN : (j : Int) ≤ (N : Int) := by omega
            have hjN2 : j ≤ N := by omega
            have hNj : ¬ N = j := by omega
            have HES := Aside0.mk hes
            have HM2 := Aside0.mk m2
            have HBK := Aside0.mk hblk
            clear hroom hts hes hS hsp hblk m2
            have hcel : ∀ (q : Nat) v, (nums .u8 [92, (b : Int)])[q]? = some v → wr.cell? ((⟨g', 0, none⟩ : Addr).add q) = some v := by
              intro q v hv
              obtain ⟨A, hA, hc⟩ := (Kd.reads_of_C (d := (0 : Int)) (h1 := fun _ => rfl) HM2.out).2.2 (by omega)
              obtain rfl : (⟨g', 0, none⟩ : Addr) = A := Option.some.inj hA
              have hq : q < 2 := by
                have := (List.getElem?_eq_some_iff.1 hv).1
                simpa [nums] using this
              refine (hc q hq).trans ?_
              rw [← hv]
              rcases (by omega : q = 0 ∨ q = 1) with rfl | rfl <;> rfl
            have HCEL := Aside0.mk hcel
            have hmin : (2 : Nat) = Nat.min 2 (N - j) := (Nat.min_eq_left (by omega)).symm
            have HMIN := Aside0.mk hmin
            have HFIT : Aside0 (j + (nums .u8 [92, (b : Int)]).length ≤ (fillR (escS (tk s i)) N).length) := ⟨by rw [fill_len _ _ (by rw [← HJ.out]; exact hjN2)]; exact hjl⟩
            clear hcel hmin
            go_upto_region 28 with (fail)
            go_region_law (refine step_copy_splice rfl (.tmp 105) (.tmp 111) 27 27 rfl 5 hu27 rfl _ _ _ _ _ _ rfl rfl G j (fillR (escS (tk s i)) N) 5 HBK.out (nums .u8 [92, (b : Int)]) HMIN.out (fun _ => ⟨rfl, _, rfl, HCEL.out⟩) HFIT.out (by simp [nums, Value.oneCell']) w.heap.size w (below_drew1 HF.out.2) HGw.out ?_; intro w4 hg4 hb4)
            have hnl2 : (nums .u8 [92, (b : Int)]).length = 2 := rfl
            have HF2 : Aside0 (FillW s N G w (i + 1) w4) := ⟨⟨by
              have h := hg4.out
              rw [HJ.out, fill_splice _ N _ (by have h9 := HFIT.out; rw [fill_len _ _ (by rw [← HJ.out]; exact hjN2)] at h9; rw [← HJ.out]; exact h9)] at h
              rw [HES.out]
              exact h, hb4⟩⟩
            have HJ2 : Aside0 (j + 2 = (escS (tk s (i + 1))).length) := ⟨by rw [HES.out, List.length_append, ← HJ.out]; rfl⟩
            clear hg4 hb4 HF HBK HCEL HMIN HFIT HM2 m1
            go_wp2
            go_roundg k1
            case measure => omega
            case rel => exact ⟨i + 1, j + 2, by congr 1, by congr 1, ⟨by have := HI.out; omega⟩, HJ2, HF2⟩
          · have m1 := hS.at_n b h256 hsp
            rw [if_neg hsp] at hroom hes
            have hjl : j + 1 ≤ N := hroom
            have hw2 : wrap64 ((j : Int) + 1) = (j : Int) + 1 := wrap_in (by unfold in64; omega)
            have hjN : (j : Int) < (N : Int) := by omega
            have hjN2 : j < N := by omega
            have hlen0 : j = (escS (tk s i)).length := HJ.out
            have m2 : wr.cell? ⟨G, j, none⟩ = some (.int .u8 0) := (blk_cell hblk j).trans (by rw [hlen0]; exact fill_at _ N (by omega))
            have m3 := blk_frozen hblk j
            have HF2 : Aside0 (FillW s N G w (i + 1) (wr.setCell ⟨G, j, none⟩ (.int .u8 (b : Int)))) := ⟨⟨by
              have := blk_set hblk j (.int .u8 (b : Int))
              rw [hlen0, fill_set _ N _ (by omega)] at this
              rw [hes, hlen0]
              exact this, below_set HF.out.2 HGw.out⟩⟩
            have HJ2 : Aside0 (j + 1 = (escS (tk s (i + 1))).length) := ⟨by rw [hes, List.length_append, ← hlen0]; rfl⟩
            clear hroom hts hes hS hsp hblk hlen0
            go_wp2
            go_roundg k1
            case measure => omega
            case rel => exact ⟨i + 1, j + 1, by congr 1, by congr 1, ⟨by have := HI.out; omega⟩, HJ2, HF2⟩
end Go.Proofs.YtnjlgeenhmamjaaGreatDoor.Q
