/- strings.NewReplacer, walked at the four texts of decode.Record. -/
import Derived.Test.YtnjlgeenhmamjaaGreatDoorZDecodeBack8
import Derived.Deep.WholeRow
import Derived.Laws.Cover3
namespace Go.Proofs.YtnjlgeenhmamjaaGreatDoor.Q
open Go.RowKit Go.Proofs.YtnjlgeenhmamjaaGreatDoorW.PrintWords Go.Proofs.YtnjlgeenhmamjaaGreatDoorW.PrintLast Go.Proofs.YtnjlgeenhmamjaaGreatDoorW.PrintMore
set_option linter.unusedVariables false
set_option linter.unusedSimpArgs false
/-- The replacer's block. -/
def RB (w : World) (b : Nat) (x0 x1 : Int) (x3 x4 : Value) : Prop := w.heap[b]? = some (.cells #[.int .u32 x0, .int .i32 x1, .int .u32 0, x3, x4] 75 (0, 0))
/-- A replacer that nothing has asked yet. -/
def RUn (w : World) (b : Nat) (g C : Nat) : Prop :=
  RB w b 0 0 .nilIface (.slice (some ⟨g, 0, none⟩) 4 C) ∧ g ≠ b ∧ w.cell? ⟨g, 0, none⟩ = some (.string ⟨#[44]⟩) ∧ w.cell? ⟨g, 1, none⟩ = some (.string ⟨#[92, 44]⟩) ∧ w.cell? ⟨g, 2, none⟩ = some (.string ⟨#[92]⟩) ∧ w.cell? ⟨g, 3, none⟩ = some (.string ⟨#[92, 92]⟩)
set_option maxHeartbeats 4000000 in
set_option maxRecDepth 100000 in
theorem newRep_calls (g : Nat) (w : World) (hg : w.heap[g]? = some (.cells #[.string ⟨#[44]⟩, .string ⟨#[92, 44]⟩, .string ⟨#[92]⟩, .string ⟨#[92, 92]⟩] 9 (0, 0))) :
    Calls Tryz.prog 13 #[.slice (some ⟨g, 0, none⟩) 4 4] w fun e w' => (∃ b g2 C, e = .returned (.pointer (some ⟨b, 0, none⟩)) ∧ w.heap.size ≤ b ∧ w.heap.size ≤ g2 ∧ RUn w' b g2 C) ∧ Below w.heap.size w w' := by
  have c0 := blk_cell hg 0
  have c1 := blk_cell hg 1
  have c2 := blk_cell hg 2
  have c3 := blk_cell hg 3
  go_enter Tryz.func13, Tryz.ntmps13
  go_wp2
  generalize (Question.appendCap 4 0 9).cut (w.tape w.drawn (Question.appendCap 4 0 9)) = C
  obtain ⟨O, hO⟩ : ∃ O, Obj.cells (#[Value.string ⟨#[44]⟩, .string ⟨#[92, 44]⟩, .string ⟨#[92]⟩, .string ⟨#[92, 92]⟩] ++ Builtin.zeroCells #[Value.string ⟨#[]⟩] (C - 4)) 9 = O := ⟨_, rfl⟩
  have hcell : ∀ (i : Nat) (v : Value), (#[Value.string ⟨#[44]⟩, .string ⟨#[92, 44]⟩, .string ⟨#[92]⟩, .string ⟨#[92, 92]⟩] : Array Value)[i]? = some v → (w.alloc O).cell? ⟨w.heap.size, i, none⟩ = some v := fun i v hv => by
    have hb := blk_new w O
    rw [← hO] at hb ⊢
    refine (cell_of_row _ _ i _ _ _ hb).trans ?_
    rw [Array.getElem?_append_left]
    · exact hv
    · rcases Nat.lt_or_ge i 4 with h | h
      · exact h
      · rw [Array.getElem?_eq_none (by simpa using h)] at hv
        cases hv
  rw [hO]
  have hfin : ∀ O2, (∃ b g2 C, Ending.returned (.pointer (some ⟨w.heap.size + 1, 0, none⟩)) = .returned (.pointer (some ⟨b, 0, none⟩)) ∧ w.heap.size ≤ b ∧ w.heap.size ≤ g2 ∧ O2 = O2) := fun _ => ⟨_, w.heap.size, 0, rfl, by omega, Nat.le_refl _, rfl⟩
  have hz : (w.alloc O).heap.size = w.heap.size + 1 := by simp
  have hb2 := blk_new (w.alloc O) (.cells #[.int .u32 0, .int .i32 0, .int .u32 0, .nilIface, .slice (some ⟨w.heap.size, 0, none⟩) 4 C] 75)
  rw [hz] at hb2
  have hk : ∀ (i : Nat) (v : Value), (w.alloc O).cell? ⟨w.heap.size, i, none⟩ = some v → (((w.alloc O).alloc (.cells #[.int .u32 0, .int .i32 0, .int .u32 0, .nilIface, .slice (some ⟨w.heap.size, 0, none⟩) 4 C] 75)).drew).cell? ⟨w.heap.size, i, none⟩ = some v := fun i v h => by
    rw [World.cell?_drew]
    exact ((below_alloc (Below.refl (w.alloc O).heap.size (w.alloc O)) _).cell (by rw [hz]; exact Nat.lt_succ_self _)).trans h
  have hpost : RUn (((w.alloc O).alloc (.cells #[.int .u32 0, .int .i32 0, .int .u32 0, .nilIface, .slice (some ⟨w.heap.size, 0, none⟩) 4 C] 75)).drew) (w.heap.size + 1) w.heap.size C :=
    ⟨hb2, by omega, hk 0 _ (hcell 0 _ rfl), hk 1 _ (hcell 1 _ rfl), hk 2 _ (hcell 2 _ rfl), hk 3 _ (hcell 3 _ rfl)⟩
  have hbel : Below w.heap.size w (((w.alloc O).alloc (.cells #[.int .u32 0, .int .i32 0, .int .u32 0, .nilIface, .slice (some ⟨w.heap.size, 0, none⟩) 4 C] 75)).drew) := below_drew (below_alloc (below_alloc (Below.refl _ _) _) _)
  go_ret
  exact ⟨⟨_, w.heap.size, C, rfl, by omega, Nat.le_refl _, hpost⟩, hbel⟩
theorem mk02 (w : World) : (Instr.makeSlice 45 (.int .i64 0) (.int .i64 2)).run Tryz.prog w = .ok (.slice (some ⟨w.heap.size, 0, none⟩) 0 2) (w.alloc (.cells #[.string ⟨#[]⟩, .string ⟨#[]⟩] 9)) := by
  obtain ⟨i0, hi, hzz⟩ := Option.map_eq_some_iff.1 info9
  simp only [Prod.mk.injEq] at hzz
  obtain ⟨h0, h1, h2⟩ := hzz
  have := run_make (P := Tryz.prog) w 45 9 i0 (.string ⟨#[]⟩) Tryz.underlying45 hi h0 .i64 .i64 0 2 (by omega) (by omega) (by rw [h2]; decide) (by omega)
  rw [h1] at this
  have e : madeCells (Value.string ⟨#[]⟩).cells (Int.toNat 2 * 1) = #[.string ⟨#[]⟩, .string ⟨#[]⟩] := by kernel_rfl
  rw [e] at this
  exact this
/-- The cells of a byteStringReplacer that has no replacement yet. -/
noncomputable def bsA (v : Value) : Array Value := (Tryz.zeroCells129.toList.set 256 v).toArray
theorem bs_size (v : Value) : (bsA v).size = 257 := by
  unfold bsA
  rw [List.size_toArray, List.length_set]
  kernel_rfl
def isNilS : Value → Bool | .slice none 0 0 => true | _ => false
theorem isNilS_eq {v : Value} (h : isNilS v = true) : v = .slice none 0 0 := by
  unfold isNilS at h
  split at h
  · rfl
  · cases h
theorem zs_size : Tryz.zeroCells129.size = 257 := by kernel_rfl
theorem zs_nil : Tryz.zeroCells129.toList.all isNilS = true := by kernel_rfl
theorem zs_at (i : Nat) (hi : i < 257) : Tryz.zeroCells129[i]? = some (.slice none 0 0) := by
  have hl : i < Tryz.zeroCells129.toList.length := by rw [Array.length_toList, zs_size]; exact hi
  rw [← Array.getElem?_toList, List.getElem?_eq_getElem hl]
  exact congrArg some (isNilS_eq (List.all_eq_true.1 zs_nil _ (List.getElem_mem hl)))
theorem bs_at (v : Value) (i : Nat) (hi : i < 256) : (bsA v)[i]? = some (.slice none 0 0) := by
  unfold bsA
  rw [List.getElem?_toArray, List.getElem?_set_ne (by omega), Array.getElem?_toList]
  exact zs_at i (by omega)
theorem bs_last (v : Value) : (bsA v)[256]? = some v := by
  unfold bsA
  rw [List.getElem?_toArray, List.getElem?_set_self (by rw [Array.length_toList, zs_size]; decide)]
theorem bs_store (w : World) (v : Value) (hv : v.oneCell' = true) : (storeCells ⟨w.heap.size, 0, none⟩ (Tryz.zeroCells129.toList.set 256 v) 0).run Tryz.prog (w.alloc (.cells Tryz.zeroCells129 129)) = .ok () (w.alloc (.cells (bsA v) 129)) := by
  have h := run_storeCells_new (P := Tryz.prog) w 129 Tryz.zeroCells129 (bsA v) (by rw [bs_size]; kernel_rfl) (by rw [bs_size]; kernel_rfl) (by
    rw [← Array.all_toList]
    unfold bsA
    rw [List.toList_toArray, List.all_eq_true]
    intro x hx
    rcases List.mem_or_eq_of_mem_set hx with h | h
    · rw [isNilS_eq (List.all_eq_true.1 zs_nil x h)]
      rfl
    · rw [h]
      exact hv)
  have e : (bsA v).toList = Tryz.zeroCells129.toList.set 256 v := by unfold bsA; rw [List.toList_toArray]
  rw [e] at h
  exact h
/-- A row of bytes reads the same where its block is the same. -/
theorem C_sameB {w w' : World} {g : Nat} {xs : List Int} (h : Kd.C (Kd.int .u8) w (some ⟨g, 0, none⟩) xs.length xs) (hs : w'.heap[g]? = w.heap[g]?) : Kd.C (Kd.int .u8) w' (some ⟨g, 0, none⟩) xs.length xs := by
  obtain ⟨h1, h2, h3⟩ := Kd.reads_of_C (enc := Value.int .u8) (d := (0 : Int)) (h1 := fun _ => rfl) h
  refine Kd.C_of_reads (enc := Value.int .u8) (d := (0 : Int)) (h1 := fun _ => rfl) ⟨h1, h2, fun hn => ?_⟩
  obtain ⟨ad, e, hc⟩ := h3 hn
  refine ⟨ad, e, fun j hj => ?_⟩
  rw [← hc j hj]
  injection e with e
  subst e
  rw [add_plain]
  unfold World.cell?
  simp only [hs]
/-- A byteStringReplacer: ks: what is replaced by what, in the order in which it was laid. -/
def BST (B bk : Nat) (ks : List (UInt8 × ByteArray)) (cur : Array Value) (vt : Value) (w : World) : Prop :=
  w.heap[bk]? = some (.cells cur 129 (0, 0)) ∧ cur.size = 257 ∧ cur[256]? = some vt ∧ Kd.R Kd.string 9 w B (fun _ => True) vt (ks.map fun p => (⟨#[p.1]⟩ : ByteArray)) ∧ some bk ≠ vt.ownBlock ∧
    (∀ i : Nat, i < 256 → (∀ p ∈ ks, p.1.toNat ≠ i) → cur[i]? = some (.slice none 0 0)) ∧
    (∀ p ∈ ks, ∃ g' c', cur[p.1.toNat]? = some (.slice (some ⟨g', 0, none⟩) p.2.size c') ∧ Kd.C (Kd.int .u8) w (some ⟨g', 0, none⟩) (bytesOf p.2).length (bytesOf p.2) ∧ g' ≠ bk ∧ some g' ≠ vt.ownBlock ∧ g' < w.heap.size ∧ B ≤ g')
theorem BST.below {B bk : Nat} {ks : List (UInt8 × ByteArray)} {cur : Array Value} {vt : Value} {w w' : World} (h : BST B bk ks cur vt w) (hb : Below w.heap.size w w') : BST B bk ks cur vt w' := by
  obtain ⟨h1, h2, h3, h4, h5, h6, h7⟩ := h
  refine ⟨blk_below h1 hb, h2, h3, Kd.R_below h4 hb, h5, h6, fun p hp => ?_⟩
  obtain ⟨g', c', a1, a2, a3, a4, a5, a6⟩ := h7 p hp
  exact ⟨g', c', a1, C_sameB a2 (hb.block g' a5), a3, a4, Nat.lt_of_lt_of_le a5 hb.size, a6⟩
theorem BST.far {B bk : Nat} {ks : List (UInt8 × ByteArray)} {cur : Array Value} {vt : Value} {w w' : World} (h : BST B bk ks cur vt w) (hbk : B ≤ bk) (hz : w.heap.size ≤ w'.heap.size) (hs : ∀ k, B ≤ k → k < w.heap.size → w'.heap[k]? = w.heap[k]?) : BST B bk ks cur vt w' := by
  obtain ⟨h1, h2, h3, h4, h5, h6, h7⟩ := h
  refine ⟨(hs bk hbk (blk_lt h1)).trans h1, h2, h3, ?_, h5, h6, fun p hp => ?_⟩
  · exact Kd.R_mono (Kd.R_move (Kd.R_tight rfl h4) (fun k hk => hs k (Kd.R_base h4 k hk.symm) (Kd.R_lt h4 k hk.symm))) (fun _ _ => trivial)
  · obtain ⟨g', c', a1, a2, a3, a4, a5, a6⟩ := h7 p hp
    exact ⟨g', c', a1, C_sameB a2 (hs g' a6 a5), a3, a4, Nat.lt_of_lt_of_le a5 hz, a6⟩
theorem szset (X : World) (a : Addr) (v : Value) : (X.setCell a v).heap.size = X.heap.size := by simp
theorem BST.round {B bk : Nat} {ks : List (UInt8 × ByteArray)} {cur : Array Value} {vt : Value} {W : World} (h : BST B bk ks cur vt W) (hBW : B ≤ W.heap.size) (o : UInt8) (s : ByteArray) (hs : s.size ≤ 1000) (hnew : ∀ p ∈ ks, p.1 ≠ o) {v1 : Value} {w1 : World}
    (hr : Kd.R Kd.string 9 w1 B (fun _ => True) v1 ((ks.map fun p => (⟨#[p.1]⟩ : ByteArray)) ++ [⟨#[o]⟩])) (hg : W.grownBy w1 vt.ownBlock) (hat : v1.ownBlock = vt.ownBlock ∨ ∃ b, v1.ownBlock = some b ∧ W.heap.size ≤ b) (gc : Nat) :
    BST B bk (ks ++ [(o, s)]) ((cur.setIfInBounds 256 v1).setIfInBounds o.toNat (.slice (some ⟨w1.heap.size, 0, none⟩) s.size gc)) v1 ((Lib.bytesWorld (w1.setCell ⟨bk, 256, none⟩ v1) 5 s).setCell ⟨bk, o.toNat, none⟩ (.slice (some ⟨w1.heap.size, 0, none⟩) s.size gc)) := by
  obtain ⟨h1, h2, h3, h4, h5, h6, h7⟩ := h
  have hbk := blk_lt h1
  have ho := o.toNat_lt
  have k1 : w1.heap[bk]? = some (.cells cur 129 (0, 0)) := blk_grown h1 hg h5
  have k2 : (w1.setCell ⟨bk, 256, none⟩ v1).heap[bk]? = some (.cells (cur.setIfInBounds 256 v1) 129 (0, 0)) := blk_set k1 256 v1
  have hz : (w1.setCell ⟨bk, 256, none⟩ v1).heap.size = w1.heap.size := by simp
  have hbw : Below (w1.setCell ⟨bk, 256, none⟩ v1).heap.size (w1.setCell ⟨bk, 256, none⟩ v1) (Lib.bytesWorld (w1.setCell ⟨bk, 256, none⟩ v1) 5 s) := bytes_below (Below.refl _ _) (Nat.le_refl _) _ _
  have k3 : (Lib.bytesWorld (w1.setCell ⟨bk, 256, none⟩ v1) 5 s).heap[bk]? = some (.cells (cur.setIfInBounds 256 v1) 129 (0, 0)) := blk_below k2 hbw
  have hbk1 : bk < w1.heap.size := blk_lt k1
  have hC : Kd.C (Kd.int .u8) (Lib.bytesWorld (w1.setCell ⟨bk, 256, none⟩ v1) 5 s) (some ⟨w1.heap.size, 0, none⟩) (bytesOf s).length (bytesOf s) := by
    have := Kd.C_of_reads (enc := Value.int .u8) (d := (0 : Int)) (h1 := fun _ => rfl) (bytes_reads (w1.setCell ⟨bk, 256, none⟩ v1) 5 s (by omega))
    rw [hz] at this
    rw [bytesOf_length]
    exact this
  have hv1 : some bk ≠ v1.ownBlock := fun e => by
    rcases hat with hat | ⟨b, hat, hb⟩
    · exact h5 (e.trans hat)
    · rw [hat] at e
      injection e with e
      omega
  have far : ∀ g : Nat, g ≠ bk → g < w1.heap.size → ((Lib.bytesWorld (w1.setCell ⟨bk, 256, none⟩ v1) 5 s).setCell ⟨bk, o.toNat, none⟩ (.slice (some ⟨w1.heap.size, 0, none⟩) s.size gc)).heap[g]? = w1.heap[g]? := fun g hne hlt => by
    rw [Below.heap_setCell _ _ _ g hne, hbw.block g (by rw [hz]; exact hlt), Below.heap_setCell _ _ _ g hne]
  have hwz : (Lib.bytesWorld (w1.setCell ⟨bk, 256, none⟩ v1) 5 s).heap.size = w1.heap.size + 1 := by rw [Lib.bytesWorld_size, hz]
  refine ⟨blk_set k3 _ _, by simp [h2], ?_, ?_, hv1, ?_, ?_⟩
  · rw [Array.getElem?_setIfInBounds_ne (by omega), Array.getElem?_setIfInBounds_self_of_lt (by omega)]
  · rw [List.map_append]
    exact Kd.R_mono (Kd.R_move (Kd.R_tight rfl hr) (fun k hk => far k (fun e => hv1 (by rw [← e]; exact hk)) (Kd.R_lt hr k hk.symm))) (fun _ _ => trivial)
  · intro i hi hp
    have hio : o.toNat ≠ i := hp (o, s) (by simp)
    rw [Array.getElem?_setIfInBounds_ne hio, Array.getElem?_setIfInBounds_ne (by omega)]
    exact h6 i hi (fun p hp2 => hp p (by simp [hp2]))
  · intro p hp
    rcases List.mem_append.1 hp with hp | hp
    · obtain ⟨g', c', a1, a2, a3, a4, a5, a6⟩ := h7 p hp
      have hne : o.toNat ≠ p.1.toNat := fun e => hnew p hp (UInt8.toNat_inj.1 e.symm)
      have hp256 := p.1.toNat_lt
      refine ⟨g', c', ?_, C_sameB a2 ((far g' a3 (Nat.lt_of_lt_of_le a5 hg.size)).trans (hg.block g' a5 a4)), a3, fun e => ?_, ?_⟩
      · rw [Array.getElem?_setIfInBounds_ne hne, Array.getElem?_setIfInBounds_ne (by omega)]
        exact a1
      · rcases hat with hat | ⟨b, hat, hb⟩
        · exact a4 (e.trans hat)
        · rw [hat] at e
          injection e with e
          omega
      · have := hg.size
        refine ⟨?_, a6⟩
        rw [szset, hwz]
        omega
    · obtain rfl := List.mem_singleton.1 hp
      refine ⟨w1.heap.size, gc, ?_, C_sameB hC (Below.heap_setCell _ _ _ _ (by show w1.heap.size ≠ bk; omega)), by omega, fun e => ?_, ?_⟩
      · exact Array.getElem?_setIfInBounds_self_of_lt (by simp [h2]; omega)
      · have := Kd.R_lt hr _ e.symm
        omega
      · have := hg.size
        refine ⟨?_, by omega⟩
        rw [szset, hwz]
        omega
theorem nil_eql (W : World) : (binOp .eql 27 (.slice none 0 0) (.slice none 0 0)).run Tryz.prog W = .ok (.bool true) W := by
  simp only [binOp]
  simp [run_equal_slice_nil W 27 5 none 0 0 Tryz.underlying27]
set_option maxHeartbeats 8000000 in
set_option maxRecDepth 100000 in
theorem build_calls (b g C : Nat) (w : World) (c4 : w.cell? ⟨b, 4, none⟩ = some (.slice (some ⟨g, 0, none⟩) 4 C)) (k0 : w.cell? ⟨g, 0, none⟩ = some (.string ⟨#[44]⟩)) (k1 : w.cell? ⟨g, 1, none⟩ = some (.string ⟨#[92, 44]⟩)) (k2 : w.cell? ⟨g, 2, none⟩ = some (.string ⟨#[92]⟩)) (k3 : w.cell? ⟨g, 3, none⟩ = some (.string ⟨#[92, 92]⟩)) (hgl : g < w.heap.size) :
    Calls Tryz.prog 52 #[.pointer (some ⟨b, 0, none⟩)] w fun e w' => (∃ bk cur vt, e = .returned (.iface 130 (.pointer (some ⟨bk, 0, none⟩))) ∧ w.heap.size ≤ bk ∧ BST w.heap.size bk [(92, ⟨#[92, 92]⟩), (44, ⟨#[92, 44]⟩)] cur vt w') ∧ Below w.heap.size w w' := by
  go_enter Tryz.func52, Tryz.ntmps52
  go_wp2
  refine wp_loop_rounds 3 ?_
  rw [rounds_succ]
  go_wp2
  rw [rounds_succ]
  go_wp2
  rw [rounds_succ]
  go_upto_region 26 with (fail)
  have hmk := mk02 w
  have hst := bs_store (w.alloc (.cells #[.string ⟨#[]⟩, .string ⟨#[]⟩] 9)) (.slice (some ⟨w.heap.size, 0, none⟩) 0 2) rfl
  have hz1 : (w.alloc (.cells #[.string ⟨#[]⟩, .string ⟨#[]⟩] 9)).heap.size = w.heap.size + 1 := by simp
  rw [hz1] at hst
  have hW0 : BST w.heap.size (w.heap.size + 1) [] (bsA (.slice (some ⟨w.heap.size, 0, none⟩) 0 2)) (.slice (some ⟨w.heap.size, 0, none⟩) 0 2) ((w.alloc (.cells #[.string ⟨#[]⟩, .string ⟨#[]⟩] 9)).alloc (.cells (bsA (.slice (some ⟨w.heap.size, 0, none⟩) 0 2)) 129)) := by
    have hn := blk_new (w.alloc (.cells #[.string ⟨#[]⟩, .string ⟨#[]⟩] 9)) (.cells (bsA (.slice (some ⟨w.heap.size, 0, none⟩) 0 2)) 129)
    rw [hz1] at hn
    refine ⟨hn, bs_size _, bs_last _, ?_, by simp [Value.ownBlock], fun i hi _ => bs_at _ i hi, fun p hp => by simp at hp⟩
    refine Kd.R_alloc (Kd.R_of_own ?_ (fun _ _ => trivial)) _
    refine ⟨rfl, .inr ⟨w.heap.size, 2, #[.string ⟨#[]⟩, .string ⟨#[]⟩], rfl, Nat.le_refl _, blk_new w _, ?_⟩⟩
    exact ⟨by decide, by decide, rfl, rfl⟩
  have hB0 : Below w.heap.size w ((w.alloc (.cells #[.string ⟨#[]⟩, .string ⟨#[]⟩] 9)).alloc (.cells (bsA (.slice (some ⟨w.heap.size, 0, none⟩) 0 2)) 129)) := below_alloc (below_alloc (Below.refl _ _) _) _
  have HW0 := Aside0.mk hW0
  have HB0 := Aside0.mk hB0
  clear hW0 hB0 hz1
  go_wp2
  clear hst hmk c4
  go_loopg [12] 2 (fun kq v12 wr => (kq = 2 ∧ v12 = .int .i64 (2) ∧ ∃ cur vt, Aside0 (BST w.heap.size (w.heap.size + 1) [] cur vt wr) ∧ Aside0 (Below w.heap.size w wr)) ∨ (kq = 1 ∧ v12 = .int .i64 (0) ∧ ∃ cur vt, Aside0 (BST w.heap.size (w.heap.size + 1) [(92, ⟨#[92, 92]⟩)] cur vt wr) ∧ Aside0 (Below w.heap.size w wr)) ∨ (kq = 0 ∧ v12 = .int .i64 (-2) ∧ ∃ cur vt, Aside0 (BST w.heap.size (w.heap.size + 1) [(92, ⟨#[92, 92]⟩), (44, ⟨#[92, 44]⟩)] cur vt wr) ∧ Aside0 (Below w.heap.size w wr)))
  case atStart => exact .inl ⟨rfl, rfl, _, _, HW0, HB0⟩
  case round =>
    clear HW0 HB0
    rcases hrel with ⟨rfl, rfl, cur, vt, HS, HB⟩ | ⟨rfl, rfl, cur, vt, HS, HB⟩ | ⟨rfl, rfl, cur, vt, HS, HB⟩
    · have q0 : wr.cell? ⟨g, 2, none⟩ = some (.string ⟨#[92]⟩) := (HB.out.cell hgl).trans k2
      have q1 : wr.cell? ⟨g, 3, none⟩ = some (.string ⟨#[92, 92]⟩) := (HB.out.cell hgl).trans k3
      have hx : ∀ h : 0 < (⟨#[92]⟩ : ByteArray).size, (((⟨#[92]⟩ : ByteArray)[0]'h).toNat : Int) = 92 := fun _ => rfl
      have hnil : ∀ W, (binOp .eql 27 (.slice none 0 0) (.slice none 0 0)).run Tryz.prog W = .ok (.bool true) W := nil_eql
      have hS := HS.out
      have r1 : wr.cell? ⟨w.heap.size + 1, 92, none⟩ = some (.slice none 0 0) := (blk_cell hS.1 92).trans (hS.2.2.2.2.2.1 92 (by decide) (by decide))
      have hS2 := hS.below (below_alloc (Below.refl wr.heap.size wr) (.cells #[.int .u8 92] 5))
      obtain ⟨At, ct, rfl⟩ := Kd.R_slice hS.2.2.2.1
      have r2 : wr.cell? ⟨w.heap.size + 1, 256, none⟩ = some (.slice At 0 ct) := (blk_cell hS.1 256).trans hS.2.2.1
      have cvs : (convert 27 9 (.slice (some ⟨wr.heap.size, 0, none⟩) 1 1)).run Tryz.prog (wr.alloc (.cells #[.int .u8 92] 5)) = .ok (.string ⟨#[92]⟩) (wr.alloc (.cells #[.int .u8 92] 5)) := by
        have hC : Kd.C (Kd.int .u8) (wr.alloc (.cells #[.int .u8 92] 5)) (some ⟨wr.heap.size, 0, none⟩) 1 [92] := Kd.C_of_reads (enc := Value.int .u8) (d := (0 : Int)) (h1 := fun _ => rfl) ⟨rfl, by decide, fun _ => ⟨_, rfl, fun j hj => by
          obtain rfl : j = 0 := by omega
          exact (blk_cell (blk_new wr (.cells #[.int .u8 92] 5)) 0).trans rfl⟩⟩
        exact Kd.C_string (P := Tryz.prog) (c := 1) Tryz.underlying27 Tryz.underlying5 Tryz.underlying9 hC
      have kb := fun W => print_bytes (P := Tryz.prog) 9 27 5 Tryz.underlying9 Tryz.underlying27 Tryz.underlying5 (⟨#[92, 92]⟩ : ByteArray) W
      have HS2 := Aside0.mk hS2
      have hza : (wr.alloc (.cells #[.int .u8 92] 5)).heap.size = wr.heap.size + 1 := by simp
      have HZA := Aside0.mk hza
      have HBa := Aside0.mk (below_alloc HB.out (.cells #[.int .u8 92] 5))
      clear hS hS2 HS hza
      go_wp2_with ((with_reducible refine gate_builtin (b := .append) (xs := #[.tmp 119, .tmp 123]) rfl ?_); at_builtin; refine Kd.R_append Kd.string (w0 := (wr.alloc (.cells #[.int .u8 92] 5))) w.heap.size rfl (.tmp 119) (.tmp 123) 45 9 (.string ⟨#[]⟩) 16 rfl Tryz.underlying45 info9 rfl (by decide) (by omega) (.slice At 0 ct) (([] : List (UInt8 × ByteArray)).map fun p => (⟨#[p.1]⟩ : ByteArray)) (⟨#[92]⟩ : ByteArray) [.string ⟨#[92]⟩] (fun _ => True) (fun _ => False) rfl ?aX ?aP (fun _ hk => hk.elim) ?aF ?aO ?aB ?aS ?aL ?_; (case aX => rw [HZA.out]; rfl); (case aP => exact rfl); (case aB => exact (Below.refl _ _)); (case aF => exact (fun _ _ => trivial)); (case aO => exact HS2.out.2.2.2.1); (case aS => have h1 := HB.out.size; have h2 := HZA.out; omega); (case aL => decide); intro v1 w1 ho hb hg hat; obtain ⟨A1, c1, rfl⟩ := Kd.R_slice ho; have hbase := Kd.R_base HS2.out.2.2.2.1; have HB1 := Aside0.mk (Below.grown HBa.out hg HBa.out.size (fun k e => hbase k e)); have HR := Aside0.mk (fun gc => HS2.out.round (by have h1 := HB.out.size; have h2 := HZA.out; omega) 92 ⟨#[92, 92]⟩ (by decide) (by decide) ho hg hat gc); have e1 : w1.heap[w.heap.size + 1]? = some (.cells cur 129 (0, 0)) := blk_grown HS2.out.1 hg HS2.out.2.2.2.2.1; have e256 : w1.cell? ⟨w.heap.size + 1, 256, none⟩ = some (.slice At 0 ct) := (blk_cell e1 256).trans HS2.out.2.2.1; have f256 := blk_frozen e1 256; have e2 : (w1.setCell ⟨w.heap.size + 1, 256, none⟩ (.slice A1 1 c1)).heap[w.heap.size + 1]? = some (.cells (cur.setIfInBounds 256 (.slice A1 1 c1)) 129 (0, 0)) := blk_set e1 256 _; have e3 : (Lib.bytesWorld (w1.setCell ⟨w.heap.size + 1, 256, none⟩ (.slice A1 1 c1)) 5 ⟨#[92, 92]⟩).heap[w.heap.size + 1]? = some (.cells (cur.setIfInBounds 256 (.slice A1 1 c1)) 129 (0, 0)) := blk_below e2 (bytes_below (Below.refl _ _) (Nat.le_refl _) _ _); have eo : (Lib.bytesWorld (w1.setCell ⟨w.heap.size + 1, 256, none⟩ (.slice A1 1 c1)) 5 ⟨#[92, 92]⟩).cell? ⟨w.heap.size + 1, 92, none⟩ = some (.slice none 0 0) := (blk_cell e3 92).trans ((Array.getElem?_setIfInBounds_ne (by decide)).trans (HS2.out.2.2.2.2.2.1 92 (by decide) (by decide))); have fo := blk_frozen e3 92; have HBf := Aside0.mk (fun gc => (below_set (bytes_below (below_set HB1.out (Nat.le_succ _) : Below w.heap.size w (w1.setCell ⟨w.heap.size + 1, 256, none⟩ (.slice A1 1 c1))) (by rw [szset]; exact HB1.out.size) 5 ⟨#[92, 92]⟩) (Nat.le_succ _) : Below w.heap.size w ((Lib.bytesWorld (w1.setCell ⟨w.heap.size + 1, 256, none⟩ (.slice A1 1 c1)) 5 ⟨#[92, 92]⟩).setCell ⟨w.heap.size + 1, 92, none⟩ (.slice (some ⟨w1.heap.size, 0, none⟩) 2 gc)))); clear ho hb hg hat hbase e1 e2 e3)
      go_roundg 1
      case measure => omega
      case rel => exact .inr (.inl ⟨rfl, rfl, _, _, ⟨HR.out _⟩, ⟨HBf.out _⟩⟩)
    · have q0 : wr.cell? ⟨g, 0, none⟩ = some (.string ⟨#[44]⟩) := (HB.out.cell hgl).trans k0
      have q1 : wr.cell? ⟨g, 1, none⟩ = some (.string ⟨#[92, 44]⟩) := (HB.out.cell hgl).trans k1
      have hx : ∀ h : 0 < (⟨#[44]⟩ : ByteArray).size, (((⟨#[44]⟩ : ByteArray)[0]'h).toNat : Int) = 44 := fun _ => rfl
      have hnil : ∀ W, (binOp .eql 27 (.slice none 0 0) (.slice none 0 0)).run Tryz.prog W = .ok (.bool true) W := nil_eql
      have hS := HS.out
      have r1 : wr.cell? ⟨w.heap.size + 1, 44, none⟩ = some (.slice none 0 0) := (blk_cell hS.1 44).trans (hS.2.2.2.2.2.1 44 (by decide) (by decide))
      have hS2 := hS.below (below_alloc (Below.refl wr.heap.size wr) (.cells #[.int .u8 44] 5))
      obtain ⟨At, ct, rfl⟩ := Kd.R_slice hS.2.2.2.1
      have r2 : wr.cell? ⟨w.heap.size + 1, 256, none⟩ = some (.slice At 1 ct) := (blk_cell hS.1 256).trans hS.2.2.1
      have cvs : (convert 27 9 (.slice (some ⟨wr.heap.size, 0, none⟩) 1 1)).run Tryz.prog (wr.alloc (.cells #[.int .u8 44] 5)) = .ok (.string ⟨#[44]⟩) (wr.alloc (.cells #[.int .u8 44] 5)) := by
        have hC : Kd.C (Kd.int .u8) (wr.alloc (.cells #[.int .u8 44] 5)) (some ⟨wr.heap.size, 0, none⟩) 1 [44] := Kd.C_of_reads (enc := Value.int .u8) (d := (0 : Int)) (h1 := fun _ => rfl) ⟨rfl, by decide, fun _ => ⟨_, rfl, fun j hj => by
          obtain rfl : j = 0 := by omega
          exact (blk_cell (blk_new wr (.cells #[.int .u8 44] 5)) 0).trans rfl⟩⟩
        exact Kd.C_string (P := Tryz.prog) (c := 1) Tryz.underlying27 Tryz.underlying5 Tryz.underlying9 hC
      have kb := fun W => print_bytes (P := Tryz.prog) 9 27 5 Tryz.underlying9 Tryz.underlying27 Tryz.underlying5 (⟨#[92, 44]⟩ : ByteArray) W
      have HS2 := Aside0.mk hS2
      have hza : (wr.alloc (.cells #[.int .u8 44] 5)).heap.size = wr.heap.size + 1 := by simp
      have HZA := Aside0.mk hza
      have HBa := Aside0.mk (below_alloc HB.out (.cells #[.int .u8 44] 5))
      clear hS hS2 HS hza
      go_wp2_with ((with_reducible refine gate_builtin (b := .append) (xs := #[.tmp 119, .tmp 123]) rfl ?_); at_builtin; refine Kd.R_append Kd.string (w0 := (wr.alloc (.cells #[.int .u8 44] 5))) w.heap.size rfl (.tmp 119) (.tmp 123) 45 9 (.string ⟨#[]⟩) 16 rfl Tryz.underlying45 info9 rfl (by decide) (by omega) (.slice At 1 ct) (([(92, ⟨#[92, 92]⟩)] : List (UInt8 × ByteArray)).map fun p => (⟨#[p.1]⟩ : ByteArray)) (⟨#[44]⟩ : ByteArray) [.string ⟨#[44]⟩] (fun _ => True) (fun _ => False) rfl ?aX ?aP (fun _ hk => hk.elim) ?aF ?aO ?aB ?aS ?aL ?_; (case aX => rw [HZA.out]; rfl); (case aP => exact rfl); (case aB => exact (Below.refl _ _)); (case aF => exact (fun _ _ => trivial)); (case aO => exact HS2.out.2.2.2.1); (case aS => have h1 := HB.out.size; have h2 := HZA.out; omega); (case aL => decide); intro v1 w1 ho hb hg hat; obtain ⟨A1, c1, rfl⟩ := Kd.R_slice ho; have hbase := Kd.R_base HS2.out.2.2.2.1; have HB1 := Aside0.mk (Below.grown HBa.out hg HBa.out.size (fun k e => hbase k e)); have HR := Aside0.mk (fun gc => HS2.out.round (by have h1 := HB.out.size; have h2 := HZA.out; omega) 44 ⟨#[92, 44]⟩ (by decide) (by decide) ho hg hat gc); have e1 : w1.heap[w.heap.size + 1]? = some (.cells cur 129 (0, 0)) := blk_grown HS2.out.1 hg HS2.out.2.2.2.2.1; have e256 : w1.cell? ⟨w.heap.size + 1, 256, none⟩ = some (.slice At 1 ct) := (blk_cell e1 256).trans HS2.out.2.2.1; have f256 := blk_frozen e1 256; have e2 : (w1.setCell ⟨w.heap.size + 1, 256, none⟩ (.slice A1 2 c1)).heap[w.heap.size + 1]? = some (.cells (cur.setIfInBounds 256 (.slice A1 2 c1)) 129 (0, 0)) := blk_set e1 256 _; have e3 : (Lib.bytesWorld (w1.setCell ⟨w.heap.size + 1, 256, none⟩ (.slice A1 2 c1)) 5 ⟨#[92, 44]⟩).heap[w.heap.size + 1]? = some (.cells (cur.setIfInBounds 256 (.slice A1 2 c1)) 129 (0, 0)) := blk_below e2 (bytes_below (Below.refl _ _) (Nat.le_refl _) _ _); have eo : (Lib.bytesWorld (w1.setCell ⟨w.heap.size + 1, 256, none⟩ (.slice A1 2 c1)) 5 ⟨#[92, 44]⟩).cell? ⟨w.heap.size + 1, 44, none⟩ = some (.slice none 0 0) := (blk_cell e3 44).trans ((Array.getElem?_setIfInBounds_ne (by decide)).trans (HS2.out.2.2.2.2.2.1 44 (by decide) (by decide))); have fo := blk_frozen e3 44; have HBf := Aside0.mk (fun gc => (below_set (bytes_below (below_set HB1.out (Nat.le_succ _) : Below w.heap.size w (w1.setCell ⟨w.heap.size + 1, 256, none⟩ (.slice A1 2 c1))) (by rw [szset]; exact HB1.out.size) 5 ⟨#[92, 44]⟩) (Nat.le_succ _) : Below w.heap.size w ((Lib.bytesWorld (w1.setCell ⟨w.heap.size + 1, 256, none⟩ (.slice A1 2 c1)) 5 ⟨#[92, 44]⟩).setCell ⟨w.heap.size + 1, 44, none⟩ (.slice (some ⟨w1.heap.size, 0, none⟩) 2 gc)))); clear ho hb hg hat hbase e1 e2 e3)
      go_roundg 0
      case measure => omega
      case rel => exact .inr (.inr ⟨rfl, rfl, _, _, ⟨HR.out _⟩, ⟨HBf.out _⟩⟩)
    · go_wp2
      have hfin : (∃ bk cur vt, Ending.returned (.iface 130 (.pointer (some ⟨w.heap.size + 1, 0, none⟩))) = .returned (.iface 130 (.pointer (some ⟨bk, 0, none⟩))) ∧ w.heap.size ≤ bk ∧ BST w.heap.size bk [(92, ⟨#[92, 92]⟩), (44, ⟨#[92, 44]⟩)] cur vt wr) ∧ Below w.heap.size w wr := ⟨⟨_, cur, vt, rfl, Nat.le_succ _, HS.out⟩, HB.out⟩
      first | exact hfin | (go_ret; exact hfin)
end Go.Proofs.YtnjlgeenhmamjaaGreatDoor.Q
/- (*strings.Replacer).Replace's once: walked. -/
namespace Go.Proofs.YtnjlgeenhmamjaaGreatDoor.Q
open Go.RowKit Go.Proofs.YtnjlgeenhmamjaaGreatDoorW.PrintWords Go.Proofs.YtnjlgeenhmamjaaGreatDoorW.PrintLast Go.Proofs.YtnjlgeenhmamjaaGreatDoorW.PrintMore
set_option linter.unusedVariables false
set_option linter.unusedSimpArgs false
/-- What is replaced by what. -/
abbrev KS : List (UInt8 × ByteArray) := [(92, ⟨#[92, 92]⟩), (44, ⟨#[92, 44]⟩)]
/-- What is known where the replacer has been built. -/
def Built (w : World) (b : Nat) (x0 x1 : Int) (w' : World) : Prop :=
  ∃ bk cur vt, RB w' b x0 x1 (.iface 130 (.pointer (some ⟨bk, 0, none⟩))) (.slice none 0 0) ∧ w.heap.size ≤ bk ∧ BST w.heap.size bk KS cur vt w' ∧ w.grownBy w' (some b)
theorem gb_set1 (W : World) (b j : Nat) (v : Value) : W.grownBy (W.setCell ⟨b, j, none⟩ v) (some b) :=
  ⟨rfl, rfl, rfl, Nat.le_of_eq (by simp), fun k _ hk => Below.heap_setCell _ _ _ k (fun e => hk (by rw [e]))⟩
theorem gb_trans1 {w w1 w2 : World} {row : Option Nat} (h1 : w.grownBy w1 row) (h2 : w1.grownBy w2 row) : w.grownBy w2 row := by
  obtain ⟨a1, a2, a3, a4, a5⟩ := h1
  obtain ⟨b1, b2, b3, b4, b5⟩ := h2
  exact ⟨b1.trans a1, b2.trans a2, b3.trans a3, Nat.le_trans a4 b4, fun k hk hr => (b5 k (Nat.lt_of_lt_of_le hk a4) hr).trans (a5 k hk hr)⟩
theorem gb_below {w w1 : World} (h : Below w.heap.size w w1) (row : Option Nat) : w.grownBy w1 row := grown_of_below h row
theorem gb_drew (w : World) (row : Option Nat) : w.grownBy w.drew row := gb_below (below_drew (Below.refl _ _)) row
/-- A store into the replacer's own block. -/
theorem Built.set {w w' : World} {b : Nat} {x0 x1 y0 y1 : Int} (h : Built w b x0 x1 w') (hb : b < w.heap.size) (j : Nat) (v : Value)
    (hj : (#[Value.int .u32 x0, .int .i32 x1, .int .u32 0] : Array Value).size = 3) (h0 : (j = 0 ∧ v = .int .u32 y0 ∧ y1 = x1) ∨ (j = 1 ∧ v = .int .i32 y1 ∧ y0 = x0)) : Built w b y0 y1 (w'.setCell ⟨b, j, none⟩ v) := by
  obtain ⟨bk, cur, vt, h1, h2, h3, h4⟩ := h
  refine ⟨bk, cur, vt, ?_, h2, h3.far h2 (Nat.le_of_eq (by simp)) (fun k hk _ => Below.heap_setCell _ _ _ k (by show k ≠ b; omega)), gb_trans1 h4 (gb_set1 _ _ _ _)⟩
  rcases h0 with ⟨rfl, rfl, rfl⟩ | ⟨rfl, rfl, rfl⟩
  · exact (blk_set h1 0 _).trans rfl
  · exact (blk_set h1 1 _).trans rfl
theorem Built.drew {w w' : World} {b : Nat} {x0 x1 : Int} (h : Built w b x0 x1 w') : Built w b x0 x1 w'.drew := by
  obtain ⟨bk, cur, vt, h1, h2, h3, h4⟩ := h
  exact ⟨bk, cur, vt, h1, h2, h3.below (below_drew (Below.refl _ _)), gb_trans1 h4 (gb_drew _ _)⟩
set_option maxHeartbeats 4000000 in
set_option maxRecDepth 100000 in
theorem buildOnce_calls (b g C : Nat) (x1 : Int) (w : World) (hb : RB w b 0 x1 .nilIface (.slice (some ⟨g, 0, none⟩) 4 C)) (hne : g ≠ b) (k0 : w.cell? ⟨g, 0, none⟩ = some (.string ⟨#[44]⟩)) (k1 : w.cell? ⟨g, 1, none⟩ = some (.string ⟨#[92, 44]⟩)) (k2 : w.cell? ⟨g, 2, none⟩ = some (.string ⟨#[92]⟩)) (k3 : w.cell? ⟨g, 3, none⟩ = some (.string ⟨#[92, 92]⟩)) :
    Calls Tryz.prog 30 #[.pointer (some ⟨b, 0, none⟩)] w fun e w' => e = .returned (.tuple #[]) ∧ Built w b 0 x1 w' := by
  have hgl : g < w.heap.size := World.block_lt_of_cell? w ⟨g, 0, none⟩ k0
  have hbl := blk_lt hb
  have hcall := build_calls b g C w ((blk_cell hb 4).trans rfl) k0 k1 k2 k3 hgl
  have HB := Aside0.mk hb
  clear hb k0 k1 k2 k3
  go_enter Tryz.func30, Tryz.ntmps30
  go_wp2_with (go_at_call 52; refine hcall.mono ?_; rintro e w1 ⟨⟨bk, cur, vt, rfl, hbk, hS⟩, hb1⟩; have h1 := blk_below HB.out hb1; have e3 : w1.cell? ⟨b, 3, none⟩ = some .nilIface := (blk_cell h1 3).trans rfl; have f3 := blk_frozen h1 3; have h2 := blk_set h1 3 (.iface 130 (.pointer (some ⟨bk, 0, none⟩))); have e4 : (w1.setCell ⟨b, 3, none⟩ (.iface 130 (.pointer (some ⟨bk, 0, none⟩)))).cell? ⟨b, 4, none⟩ = some (.slice (some ⟨g, 0, none⟩) 4 C) := (blk_cell h2 4).trans rfl; have f4 := blk_frozen h2 4; have HF := Aside0.mk (show Built w b 0 x1 ((w1.setCell ⟨b, 3, none⟩ (.iface 130 (.pointer (some ⟨bk, 0, none⟩)))).setCell ⟨b, 4, none⟩ (.slice none 0 0)) from ⟨bk, cur, vt, (blk_set h2 4 _).trans rfl, hbk, (hS.far hbk (Nat.le_of_eq (by simp)) (fun k hk _ => by rw [Below.heap_setCell _ _ _ k (by show k ≠ b; omega), Below.heap_setCell _ _ _ k (by show k ≠ b; omega)])), gb_trans1 (gb_trans1 (gb_below hb1 _) (gb_set1 _ _ _ _)) (gb_set1 _ _ _ _)⟩); clear hS hb1 h1 h2 hcall)
  first | go_end0 | skip
  exact ⟨rfl, HF.out⟩
set_option maxRecDepth 100000 in
set_option maxHeartbeats 4000000 in
theorem load_calls (a : Addr) (d : Int) (w : World) (hc : w.cell? a = some (.int .u32 d)) :
    Calls Tryz.prog 50 #[.pointer (some a)] w fun e w' => e = .returned (.bool (d != 0)) ∧ w' = w := by
  have hl := run_call_load (P := Tryz.prog) Tryz.func62 (by kernel_rfl) (by kernel_rfl) (by kernel_rfl) .u32 (by kernel_rfl) hc
  go_enter Tryz.func50, Tryz.ntmps50
  go_wp2
  go_ret
  exact ⟨rfl, rfl⟩
set_option maxRecDepth 100000 in
set_option maxHeartbeats 4000000 in
theorem slow_calls (b g C : Nat) (w : World) (h : RUn w b g C) :
    Calls Tryz.prog 51 #[.pointer (some ⟨b, 0, none⟩), .func (.func 30) #[.pointer (some ⟨b, 0, none⟩)] #[]] w fun e w' => e = .returned (.tuple #[]) ∧ Built w b 1 0 w' := by
  obtain ⟨hb, hne, k0, k1, k2, k3⟩ := h
  have hbl := blk_lt hb
  have h0 : w.cell? ⟨b, 0, none⟩ = some (.int .u32 0) := (blk_cell hb 0).trans rfl
  have h1 : w.cell? ⟨b, 1, none⟩ = some (.int .i32 0) := (blk_cell hb 1).trans rfl
  have f1 := blk_frozen hb 1
  have hb1 : RB (w.setCell ⟨b, 1, none⟩ (.int .i32 1)) b 0 1 .nilIface (.slice (some ⟨g, 0, none⟩) 4 C) := (blk_set hb 1 _).trans rfl
  have hl := load_calls ⟨b, 0, none⟩ 0 (w.setCell ⟨b, 1, none⟩ (.int .i32 1)) ((blk_cell hb1 0).trans rfl)
  have far : ∀ (j i : Nat) (v : Value), w.cell? ⟨g, i, none⟩ = some v → (w.setCell ⟨b, j, none⟩ (.int .i32 1)).cell? ⟨g, i, none⟩ = some v := fun j i v hv => (World.cell?_setCell_other _ _ _ _ (fun e => by injection e with e _ _; exact hne e.symm)).trans hv
  have hcall := buildOnce_calls b g C 1 (w.setCell ⟨b, 1, none⟩ (.int .i32 1)) hb1 hne (far 1 0 _ k0) (far 1 1 _ k1) (far 1 2 _ k2) (far 1 3 _ k3)
  have hnot : ∀ (x : Bool) (w : World), (Op.unary .not (.bool x)).run Tryz.prog w = .ok (.bool (!x)) w := fun _ _ => rfl
  have hlock := lock_free ⟨b, 1, none⟩ w h1 f1
  clear far k0 k1 k2 k3 h0 h1 f1 hb hb1
  go_enter_defers Tryz.func51, Tryz.ntmps51
  go_wp2_with (first
    | (go_at_call 63; refine hlock.mono ?_; rintro e w' ⟨rfl, rfl⟩)
    | (go_at_call 50; refine hl.mono ?_; rintro e w' ⟨rfl, rfl⟩)
    | (go_at_call 30; refine hcall.mono ?_; rintro e w2 ⟨rfl, hB⟩; have HB2 := Aside0.mk hB; clear hB))
  have hB := HB2.out
  obtain ⟨bk, cur, vt, r1, r2, r3, r4⟩ := HB2.out
  refine leaves_cons (f := 65) (args := #[.pointer (some ⟨b, 0, none⟩), .bool true]) (by simp) (by simp [go_sem]) ?_
  refine (store_deferred ⟨b, 0, none⟩ (.int .u32 0) .returning _ ((blk_cell r1 0).trans rfl) (blk_frozen r1 0)).mono ?_
  rintro e u' w'' ⟨rfl, rfl, rfl⟩
  have hBd := hB.drew
  have hB1 := hBd.set (y0 := 1) (y1 := 1) (by simpa using hbl) 0 (.int .u32 1) rfl (.inl ⟨rfl, rfl, rfl⟩)
  obtain ⟨bk', cur', vt', q1, q2, q3, q4⟩ := hB1
  refine leaves_cons (f := 64) (args := #[.pointer (some ⟨b, 1, none⟩)]) (by simp [settle]) (by simp [go_sem]) ?_
  refine (unlock_deferred ⟨b, 1, none⟩ _ _ ((blk_cell q1 1).trans rfl) (blk_frozen q1 1)).mono ?_
  rintro e u' w'' ⟨rfl, rfl, rfl⟩
  have hB2 := (show Built (w.setCell ⟨b, 1, none⟩ (.int .i32 1)) b 1 1 _ from ⟨bk', cur', vt', q1, q2, q3, q4⟩).set (y0 := 1) (y1 := 0) (by simpa using hbl) 1 (.int .i32 0) rfl (.inr ⟨rfl, rfl, rfl⟩)
  have hfin : Built w b 1 0 ((w2.drew.setCell ⟨b, 0, none⟩ (.int .u32 1)).setCell ⟨b, 1, none⟩ (.int .i32 0)) := by
    obtain ⟨bk2, cur2, vt2, s1, s2, s3, s4⟩ := hB2
    have hz : (w.setCell ⟨b, 1, none⟩ (.int .i32 1)).heap.size = w.heap.size := by simp
    rw [hz] at s2 s3
    exact ⟨bk2, cur2, vt2, s1, s2, s3, gb_trans1 (gb_set1 _ _ _ _) s4⟩
  have HF := Aside0.mk hfin
  clear hfin hB2 q1 q2 q3 q4 hBd r1 r2 r3 r4 hB HB2
  simp [Leaves, settle, results, Tryz.results51]
  exact HF.out
set_option maxRecDepth 100000 in
set_option maxHeartbeats 4000000 in
theorem do_first (b g C : Nat) (w : World) (h : RUn w b g C) :
    Calls Tryz.prog 29 #[.pointer (some ⟨b, 0, none⟩), .func (.func 30) #[.pointer (some ⟨b, 0, none⟩)] #[]] w fun e w' => e = .returned (.tuple #[]) ∧ Built w b 1 0 w' := by
  have hs := slow_calls b g C w h
  have hl := load_calls ⟨b, 0, none⟩ 0 w ((blk_cell h.1 0).trans rfl)
  have hnot : ∀ (x : Bool) (w : World), (Op.unary .not (.bool x)).run Tryz.prog w = .ok (.bool (!x)) w := fun _ _ => rfl
  clear h
  go_enter Tryz.func29, Tryz.ntmps29
  go_wp2_with (first
    | (go_at_call 50; refine hl.mono ?_; rintro e w' ⟨rfl, rfl⟩)
    | (go_at_call 51; refine hs.mono ?_; rintro e w' ⟨rfl, hB⟩; have HB := Aside0.mk hB; clear hB))
  first | go_end0 | skip
  exact ⟨rfl, HB.out⟩
set_option maxRecDepth 100000 in
set_option maxHeartbeats 4000000 in
theorem do_done (a : Addr) (fv : Value) (w : World) (h : w.cell? a = some (.int .u32 1)) :
    Calls Tryz.prog 29 #[.pointer (some a), fv] w fun e w' => e = .returned (.tuple #[]) ∧ w' = w := by
  have hl := load_calls a 1 w h
  have hnot : ∀ (x : Bool) (w : World), (Op.unary .not (.bool x)).run Tryz.prog w = .ok (.bool (!x)) w := fun _ _ => rfl
  go_enter Tryz.func29, Tryz.ntmps29
  go_wp2_with (go_at_call 50; refine hl.mono ?_; rintro e w' ⟨rfl, rfl⟩)
  first | go_end0 | skip
  exact ⟨rfl, rfl⟩
end Go.Proofs.YtnjlgeenhmamjaaGreatDoor.Q
