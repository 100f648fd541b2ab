/- Texts of the claim, put together. -/
import Derived.Test.YtopolnbffmljaaaDoorZExprWorth14
import Derived.Defers
import Derived.WalkSpells
import Derived.Recover
import Derived.RangeFuncNested
import Derived.Deep.RegionHeld3
import Derived.Laws.EntriesVeiled
import Derived.Test.YtopolnbffmljaaaDoorZExprWorth12
namespace Go.Proofs.YtopolnbffmljaaaDoor.U15
def fB (n m : Nat) : Array Bool := ((List.range n).map (Nat.testBit m)).toArray
end Go.Proofs.YtopolnbffmljaaaDoor.U15
open Go.Proofs.YtopolnbffmljaaaDoor.U15
open Go.RowKit Go.Proofs.YtopolnbffmljaaaDoorW.PrintWords Go.Proofs.YtopolnbffmljaaaDoorW.PrintLast Go.Proofs.YtopolnbffmljaaaDoorW.PrintMore
set_option linter.unusedVariables false
set_option linter.unusedSimpArgs false
open List renaming setIfInBounds_toArray → zA, set_cons_zero → zB, set_cons_succ → zC
namespace Go.Proofs.YtopolnbffmljaaaDoor.Q
theorem err_ne (c : Int) (w : World) : (binOp .neq 20 (.iface 30 (.int .i64 c)) .nilIface).run Tryd.prog w = .ok (.bool true) w := by kernel_rfl
theorem assert_err (c : Int) (w : World) : (Instr.typeAssert (.iface 30 (.int .i64 c)) 20 30 true).run Tryd.prog w = .ok (.tuple #[.int .i64 c, .bool true]) w := by kernel_rfl
theorem nil_ne (w : World) : (binOp .neq 20 .nilIface .nilIface).run Tryd.prog w = .ok (.bool false) w := by kernel_rfl
set_option maxHeartbeats 4000000 in
set_option maxRecDepth 100000 in
theorem catch_err (bv be : Nat) (hne : bv ≠ be) (y0 y1 y2 : Value) (e0 c : Int) (w : World) (hG : GlobE w) (hv : w.heap[bv]? = some (.cells #[y0, y1, y2] 23 (0, 0))) (he : w.heap[be]? = some (.cells #[.int .i64 e0] 30 (0, 0))) :
  CallsD Tryd.prog 36 #[.pointer (some ⟨bv, 0, none⟩), .pointer (some ⟨be, 0, none⟩)] (.panicking (errP c)) w fun e u' w' =>
   e = .returned (.tuple #[]) ∧ u' = .panicking [{ v := .iface 30 (.int .i64 c), recovered := true }] ∧ w' = (((w.setCell ⟨bv, 0, none⟩ (.int .i64 0)).setCell ⟨bv, 1, none⟩ (.int .i64 0)).setCell ⟨bv, 2, none⟩ (.string ⟨#[]⟩)).setCell ⟨be, 0, none⟩ (.int .i64 c) := by
 obtain ⟨m0, m1, m2, f0, f1, f2⟩ := box3 hv
 obtain ⟨m3, f3⟩ := bf1 he
 have hv3 := blkput3 hv (.int .i64 0) (.int .i64 0) (.string ⟨#[]⟩)
 have he3 : (((w.setCell ⟨bv, 0, none⟩ (.int .i64 0)).setCell ⟨bv, 1, none⟩ (.int .i64 0)).setCell ⟨bv, 2, none⟩ (.string ⟨#[]⟩)).heap[be]? = some (.cells #[.int .i64 e0] 30 (0, 0)) :=
  (Below.heap_setCell _ _ _ _ (Ne.symm hne)).trans ((Below.heap_setCell _ _ _ _ (Ne.symm hne)).trans ((Below.heap_setCell _ _ _ _ (Ne.symm hne)).trans he))
 obtain ⟨m4, f4⟩ := bf1 he3
 have n0 := hG.n0
 have n1 := hG.n1
 have n2 := hG.n2
 clear hG hv he hv3 he3
 refine callsD_of_wpS Tryd.func36 rfl fun c₀ cs hu => ?_
 unfold errP at hu
 apply wpS_seq
 apply wpS_region
 simp [wpOpsS, go_sem, recoverD, hu, Tryd.ntmps36, Exit.thenS]
 have k1 := err_ne
 have k2 := assert_err
 refine wpS_of_wp ?_
 simp only [Array.replicate_succ, Array.replicate_zero, List.push_toArray, List.append_toArray, List.nil_append, List.cons_append, List.setIfInBounds_toArray, List.set_cons_succ, List.set_cons_zero]
 go_wp2
 simp [bodyPostS, results, Tryd.results36]
theorem catch_none (p q : Addr) (w : World) :
  CallsD Tryd.prog 36 #[.pointer (some p), .pointer (some q)] .returning w fun e u' w' => e = .returned (.tuple #[]) ∧ u' = .returning ∧ w = w' := by
 have k3 := nil_ne
 refine callsD_of_wpS Tryd.func36 rfl fun c₀ cs hu => ?_
 apply wpS_seq
 apply wpS_region
 simp [wpOpsS, go_sem, recoverD, hu, Tryd.ntmps36, Exit.thenS]
 refine wpS_of_wp ?_
 simp only [Array.replicate_succ, Array.replicate_zero, List.push_toArray, List.append_toArray, List.nil_append, List.cons_append, List.setIfInBounds_toArray, List.set_cons_succ, List.set_cons_zero]
 go_wp2
 cases c₀
 simp_all [bodyPostS, results, Tryd.results36]
end Go.Proofs.YtopolnbffmljaaaDoor.Q
namespace Go.Proofs.YtopolnbffmljaaaDoor.Q
attribute [local go_sem] fldDoes
def errN (r : Wo) : Prop := r.2 ≠ 0 → r.1 = nullV
theorem errN_z (v : Va) : errN (v, 0) := fun h => absurd rfl h
theorem errN_n (c : Int) : errN (nullV, c) := fun _ => rfl
theorem errN_bind {a : Wo} {f : Va → Wo} (hf : ∀ x, errN (f x)) : errN (bindW a f) := by
 unfold bindW
 by_cases h : a.2 ≠ 0
 ·rw [if_pos h]; exact errN_n _
 ·rw [if_neg h]; exact hf _
theorem errN_reck (op : Int) (a b : Va) : errN (reckS op a b) := by
 unfold reckS
 by_cases h : a = nullV ∨ b = nullV
 ·rw [if_pos h]; exact errN_n _
 rw [if_neg h]
 by_cases h2 : (doS op a.f1 b.f1).2 ≠ 0
 ·rw [if_pos h2]; exact errN_n _
 ·rw [if_neg h2]; exact errN_z _
theorem errN_worthO (l : List Co) (row : List Va) (op : Int) (nm : ByteArray) (v : Va) (a b c : Wo) (hb : errN b) (hc : errN c) : errN (worthO l row op nm v a b c) := by
 unfold worthO
 by_cases h1 : op = 1
 ·rw [if_pos h1]; exact errN_z _
 rw [if_neg h1]
 by_cases h2 : op = 2
 ·rw [if_pos h2]; exact errN_z _
 rw [if_neg h2]
 by_cases h3 : op = 3
 ·rw [if_pos h3]; exact errN_z _
 rw [if_neg h3]
 by_cases h4 : op = 9
 ·rw [if_pos h4]; exact errN_bind fun x => errN_reck _ _ _
 rw [if_neg h4]
 by_cases h5 : op = 4 ∨ op = 5 ∨ op = 6 ∨ op = 7 ∨ op = 8
 ·rw [if_pos h5]; exact errN_bind fun x => errN_bind fun y => errN_reck _ _ _
 rw [if_neg h5]
 by_cases h6 : op = 10 ∨ op = 11 ∨ op = 12 ∨ op = 13
 ·rw [if_pos h6]
  refine errN_bind fun x => errN_bind fun y => ?_
  by_cases g : x = nullV ∨ y = nullV
  ·rw [if_pos g]; exact errN_z _
  ·rw [if_neg g]; exact errN_z _
 rw [if_neg h6]
 by_cases h7 : op = 14 ∨ op = 15
 ·rw [if_pos h7]
  refine errN_bind fun x => ?_
  by_cases g : x = boolV (decide (op = 15))
  ·rw [if_pos g]; exact errN_z _
  rw [if_neg g]
  refine errN_bind fun y => ?_
  by_cases g2 : y = boolV (decide (op = 15))
  ·rw [if_pos g2]; exact errN_z _
  rw [if_neg g2]
  by_cases g3 : x = nullV ∨ y = nullV
  ·rw [if_pos g3]; exact errN_z _
  ·rw [if_neg g3]; exact errN_z _
 rw [if_neg h7]
 by_cases h8 : op = 16
 ·rw [if_pos h8]
  refine errN_bind fun x => ?_
  by_cases g : x = nullV
  ·rw [if_pos g]; exact errN_z _
  ·rw [if_neg g]; exact errN_z _
 rw [if_neg h8]
 by_cases h9 : op = 17
 ·rw [if_pos h9]; exact errN_bind fun x => errN_z _
 rw [if_neg h9]
 by_cases h10 : op = 18
 ·rw [if_pos h10]
  refine errN_bind fun x => ?_
  by_cases g : x = boolV true
  ·rw [if_pos g]; exact hb
  ·rw [if_neg g]; exact hc
 rw [if_neg h10]
 by_cases h11 : op = 19
 ·rw [if_pos h11]
  refine errN_bind fun x => ?_
  by_cases g : x = nullV
  ·rw [if_pos g]; exact hb
  ·rw [if_neg g]; exact errN_z _
 rw [if_neg h11]
 refine errN_bind fun x => ?_
 by_cases g : x = nullV
 ·rw [if_pos g]; exact errN_z _
 ·rw [if_neg g]; exact errN_z _
theorem errN_worth (l : List Co) (row : List Va) : ∀ x : Ex, errN (worthE l row x) := by
 refine Ex.ind fun x ih => ?_
 have key : ∀ i, errN ((x.f3.map (worthE l row)).getD i (nullV, 0)) := by
  intro i
  rw [List.getD_eq_getElem?_getD, List.getElem?_map]
  cases h : x.f3[i]? with
  | none => exact errN_z _
  | some k => exact ih k (List.mem_of_getElem? h)
 rw [worthE_eq]
 exact errN_worthO l row _ _ _ _ _ _ (key 1) (key 2)
theorem fitsL_len : ∀ (l : List Co) (row : List Va), fitsL l row = true → row.length = l.length
 | [], [], _ => rfl
 | c :: cs, v :: vs, h => by
  unfold fitsL at h
  rw [Bool.and_eq_true] at h
  rw [List.length_cons, List.length_cons, fitsL_len cs vs h.2]
theorem fitsL_chk : ∀ (l : List Co) (row : List Va), fitsL l row = true → ∀ y ∈ row, chkV y = 0
 | [], [], _, y, hy => by simp at hy
 | c :: cs, v :: vs, h, y, hy => by
  unfold fitsL at h
  rw [Bool.and_eq_true, Bool.and_eq_true, decide_eq_true_eq] at h
  rcases List.mem_cons.1 hy with rfl | hy
  ·exact h.1.1
  ·exact fitsL_chk cs vs h.2 y hy
theorem chkV_size {v : Va} (h : chkV v = 0) : v.f2.size ≤ 200 := by
 have e : v.f2.toList = [] → v.f2.size ≤ 200 := fun h => by rw [← data_length, ← Lib.toList_data, h]; exact Nat.zero_le _
 unfold chkV at h
 by_cases h0 : v.f0 = 0
 ·rw [if_pos h0] at h
  by_cases g : v.f1 = 0 ∧ v.f2.toList = []
  ·exact e g.2
  ·rw [if_neg g] at h; cases h
 rw [if_neg h0] at h
 by_cases h1 : v.f0 = 1
 ·rw [if_pos h1] at h
  by_cases g : v.f2.toList = []
  ·exact e g
  ·rw [if_neg g] at h; cases h
 rw [if_neg h1] at h
 by_cases h2 : v.f0 = 2
 ·rw [if_pos h2] at h
  by_cases g : (v.f1 = 0 ∨ v.f1 = 1) ∧ v.f2.toList = []
  ·exact e g.2
  ·rw [if_neg g] at h; cases h
 rw [if_neg h2] at h
 by_cases h3 : v.f0 = 3
 ·rw [if_pos h3] at h
  by_cases g : v.f1 = 0 ∧ v.f2.size ≤ 200
  ·exact g.2
  ·rw [if_neg g] at h; cases h
 rw [if_neg h3] at h
 cases h
theorem dropC (l : List Co) (i : Nat) (h : i < l.length) : l.drop i = rd_T58 l (i : Int) :: l.drop (i + 1) := co_drop l i h
theorem dropV (l : List Va) (i : Nat) (h : i < l.length) : l.drop i = rd_T23 l (i : Int) :: l.drop (i + 1) := by
 unfold rd_T23
 rw [Int.toNat_natCast, List.getD_eq_getElem?_getD, List.getElem?_eq_getElem h, List.drop_eq_getElem_cons h]
 rfl
theorem mkfW : ∀ (fn : Fn) (first cap : Array Value) (w : World), (Instr.makeFunc fn first cap).run Tryd.prog w = .ok (.func fn first cap) w := fun _ _ _ _ => rfl
structure WoS (x : Ex) (A : Option Addr) (c : Nat) (w W : World) : Prop where
 below : Below w.heap.size w W
 ebox : W.heap[w.heap.size]? = some (.cells #[.int .i64 x.f0, .string x.f1, .int .i64 x.f2.f0, .int .i64 x.f2.f1, .string x.f2.f2, .slice A x.f3.length c] 26 (0, 0))
 vbox : W.heap[w.heap.size + 1]? = some (.cells #[.int .i64 0, .int .i64 0, .string ⟨#[]⟩] 23 (0, 0))
 rbox : W.heap[w.heap.size + 1 + 1]? = some (.cells #[.int .i64 0] 30 (0, 0))
theorem WoS.step {x : Ex} {A : Option Addr} {c : Nat} {w W W' : World} (h : WoS x A c w W) (hb : Below W.heap.size W W') : WoS x A c w W' :=
 ⟨below_step h.below hb, blk_below h.ebox hb, blk_below h.vbox hb, blk_below h.rbox hb⟩
theorem WoS.new (x : Ex) (A : Option Addr) (c : Nat) (w : World) : WoS x A c w (((w.alloc (.cells #[.int .i64 x.f0, .string x.f1, .int .i64 x.f2.f0, .int .i64 x.f2.f1, .string x.f2.f2, .slice A x.f3.length c] 26)).alloc (.cells #[.int .i64 0, .int .i64 0, .string ⟨#[]⟩] 23)).alloc (.cells #[.int .i64 0] 30)) := by
 refine ⟨below_alloc (below_alloc (below_alloc (Below.refl _ _) _) _) _, blk_alloc (blk_alloc (blk_new w _) _) _, ?_, ?_⟩
 ·have := blk_new (w.alloc (.cells #[.int .i64 x.f0, .string x.f1, .int .i64 x.f2.f0, .int .i64 x.f2.f1, .string x.f2.f2, .slice A x.f3.length c] 26)) (.cells #[.int .i64 0, .int .i64 0, .string ⟨#[]⟩] 23)
  rw [World.size_alloc] at this
  exact blk_alloc this _
 ·have := blk_new ((w.alloc (.cells #[.int .i64 x.f0, .string x.f1, .int .i64 x.f2.f0, .int .i64 x.f2.f1, .string x.f2.f2, .slice A x.f3.length c] 26)).alloc (.cells #[.int .i64 0, .int .i64 0, .string ⟨#[]⟩] 23)) (.cells #[.int .i64 0] 30)
  rwa [World.size_alloc, World.size_alloc] at this
theorem heap_far {W : World} {g h j : Nat} {y : Value} {o : Option Obj} (he : W.heap[h]? = o) (hne : h ≠ g) : (W.setCell ⟨g, j, none⟩ y).heap[h]? = o := (Below.heap_setCell _ _ _ _ (show h ≠ (⟨g, j, none⟩ : Addr).block from hne)).trans he
theorem wo_stored {W : World} {g : Nat} {y0 y1 y2 y3 : Value} (hv : W.heap[g]? = some (.cells #[y0, y1, y2] 23 (0, 0))) (hr : W.heap[g + 1]? = some (.cells #[y3] 30 (0, 0))) (z0 z1 z2 z3 : Value) :
  ((((W.setCell ⟨g, 0, none⟩ z0).setCell ⟨g, 1, none⟩ z1).setCell ⟨g, 2, none⟩ z2).setCell ⟨g + 1, 0, none⟩ z3).heap[g]? = some (.cells #[z0, z1, z2] 23 (0, 0)) ∧
  ((((W.setCell ⟨g, 0, none⟩ z0).setCell ⟨g, 1, none⟩ z1).setCell ⟨g, 2, none⟩ z2).setCell ⟨g + 1, 0, none⟩ z3).heap[g + 1]? = some (.cells #[z3] 30 (0, 0)) :=
 ⟨heap_far (blkput3 hv z0 z1 z2) (by omega), blk_put (heap_far (heap_far (heap_far hr (by omega)) (by omega)) (by omega)) 0 _ rfl⟩
theorem wo_below {w W : World} {g : Nat} (h : Below w.heap.size w W) (hg : w.heap.size ≤ g) (z0 z1 z2 z3 : Value) : Below w.heap.size w ((((W.setCell ⟨g, 0, none⟩ z0).setCell ⟨g, 1, none⟩ z1).setCell ⟨g, 2, none⟩ z2).setCell ⟨g + 1, 0, none⟩ z3) :=
 below_set (below_put3 h hg _ _ _) (by omega)
theorem wo_final (g : Nat) (tmps : Array Value) (h6 : tmps.getD 6 undef = .pointer (some ⟨g, 0, none⟩)) (h7 : tmps.getD 7 undef = .pointer (some ⟨g + 1, 0, none⟩)) (W : World) (a b e : Int) (s : ByteArray)
  (hv : W.heap[g]? = some (.cells #[.int .i64 a, .int .i64 b, .string s] 23 (0, 0))) (hr : W.heap[g + 1]? = some (.cells #[.int .i64 e] 30 (0, 0))) :
  (results Tryd.f14 tmps).run Tryd.prog W = .ok (.tuple #[.agg #[.int .i64 a, .int .i64 b, .string s], .int .i64 e]) W := by
 obtain ⟨m0, m1, m2, f0, f1, f2⟩ := box3 hv
 obtain ⟨m3, f3⟩ := bf1 hr
 have h6' : tmps[6]?.getD undef = .pointer (some ⟨g, 0, none⟩) := by simpa using h6
 have h7' : tmps[7]?.getD undef = .pointer (some ⟨g + 1, 0, none⟩) := by simpa using h7
 unfold results
 simp [Tryd.results14, h6', h7', go_sem, m0, m1, m2, m3]
theorem wox_step {x : Ex} {A : Option Addr} {c : Nat} {w W W' : World} {q0 q1 q2 q3 : Addr} {z0 z1 z2 z3 : Value} (h : W.cell? q0 = some z0 ∧ W.cell? q1 = some z1 ∧ W.cell? q2 = some z2 ∧ W.cell? q3 = some z3 ∧ WoS x A c w W) (hb : Below W.heap.size W W') : W'.cell? q0 = some z0 ∧ W'.cell? q1 = some z1 ∧ W'.cell? q2 = some z2 ∧ W'.cell? q3 = some z3 ∧ WoS x A c w W' :=
 ⟨pw_cell_below hb h.1, pw_cell_below hb h.2.1, pw_cell_below hb h.2.2.1, pw_cell_below hb h.2.2.2.1, h.2.2.2.2.step hb⟩
set_option maxHeartbeats 16000000 in
set_option maxRecDepth 100000 in
theorem Worth_calls (x : Ex) (hgd : goodE x = true) (A : Option Addr) (c : Nat) (hl : x.f3.length ≤ c) (B : Option Addr) (c2 : Nat) (l : List Co) (hL : l.length ≤ 140737488355328) (hns : ∀ c ∈ l, c.f0.size ≤ 140737488355328) (hc2 : l.length ≤ c2)
  (D : Option Addr) (c3 : Nat) (row : List Va) (hrow : ∀ y ∈ row, in64 y.f1) (hc3 : row.length ≤ c3)
  (w : World) (hG : GlobE w) (hC : Kd.C k26 w A x.f3.length x.f3) (hD : Kd.C k58 w B l.length l) (hRw : Kd.C k23 w D row.length row) :
  Calls Tryd.prog 14 #[.agg #[.int .i64 x.f0, .string x.f1, .int .i64 x.f2.f0, .int .i64 x.f2.f1, .string x.f2.f2, .slice A x.f3.length c], .slice B l.length c2, .slice D row.length c3] w
   fun e w' => e = .returned (.tuple #[.agg #[.int .i64 (worthX l row x).1.f0, .int .i64 (worthX l row x).1.f1, .string (worthX l row x).1.f2], .int .i64 (worthX l row x).2]) ∧ Below w.heap.size w w' := by
 have hu := Tryd.underlying23
 obtain ⟨W, hW⟩ : ∃ W, W = (((w.alloc (.cells #[.int .i64 x.f0, .string x.f1, .int .i64 x.f2.f0, .int .i64 x.f2.f1, .string x.f2.f2, .slice A x.f3.length c] 26)).alloc (.cells #[.int .i64 0, .int .i64 0, .string ⟨#[]⟩] 23)).alloc (.cells #[.int .i64 0] 30)) := ⟨_, rfl⟩
 have hS : WoS x A c w W := by rw [hW]; exact WoS.new x A c w
 have hkd := Kind_calls x hgd A c hl B c2 l hL hns hc2 W (hG.below hS.below) (Kd.C_below hC hS.below) (Kd.C_below hD hS.below)
 have HG := Aside0.mk hG
 have HD := Aside0.mk hD
 have HRw := Aside0.mk hRw
 have HW := Aside0.mk hW
 have HCx := Aside0.mk hC
 have HKX := Aside0.mk (rfl : kindX l x = kindX l x)
 obtain ⟨Q, hQ⟩ : ∃ Q : Ending → World → Prop, Q = fun e w' => e = .returned (.tuple #[.agg #[.int .i64 (worthX l row x).1.f0, .int .i64 (worthX l row x).1.f1, .string (worthX l row x).1.f2], .int .i64 (worthX l row x).2]) ∧ Below w.heap.size w w' := ⟨_, rfl⟩
 rw [← hQ]
 have hq : ∀ r : Wo, worthX l row x = r → ∀ w', Below w.heap.size w w' → Q (.returned (.tuple #[.agg #[.int .i64 r.1.f0, .int .i64 r.1.f1, .string r.1.f2], .int .i64 r.2])) w' := fun r hr w' h => by rw [hQ, hr]; exact ⟨rfl, h⟩
 have HQ := Aside0.mk hq
 clear hQ hq hG hD hRw hW hC
 obtain ⟨e1, e2, e3, e4, e5, e6⟩ : W.cell? ⟨w.heap.size, 0, none⟩ = some (.int .i64 x.f0) ∧ W.cell? ⟨w.heap.size, 1, none⟩ = some (.string x.f1) ∧ W.cell? ⟨w.heap.size, 2, none⟩ = some (.int .i64 x.f2.f0) ∧ W.cell? ⟨w.heap.size, 3, none⟩ = some (.int .i64 x.f2.f1) ∧ W.cell? ⟨w.heap.size, 4, none⟩ = some (.string x.f2.f2) ∧ W.cell? ⟨w.heap.size, 5, none⟩ = some (.slice A x.f3.length c) :=
  ⟨(blk_cell hS.ebox 0).trans rfl, (blk_cell hS.ebox 1).trans rfl, (blk_cell hS.ebox 2).trans rfl, (blk_cell hS.ebox 3).trans rfl, (blk_cell hS.ebox 4).trans rfl, (blk_cell hS.ebox 5).trans rfl⟩
 obtain ⟨ke, hke⟩ : ∃ ke, (kindX l x).2 = ke := ⟨_, rfl⟩
 rw [hke] at hkd
 by_cases hk0 : ke = 0
 ·subst hk0
  have hfl := fitsL_len l row
  by_cases hlen : row.length = l.length
  ·have hd1 : ((row.length : Int) != (l.length : Int)) = false := by rw [hlen]; simp
   have hd2 : (row.length != l.length) = false := by rw [hlen]; simp
   have hn : row.length ≤ 9223372036854775807 := HRw.out.2.1
   obtain ⟨F, hF⟩ : ∃ F, fitsL l row = F := ⟨_, rfl⟩
   have HF := Aside0.mk (show fitsL (l.drop 0) (row.drop 0) = F by simpa using hF)
   have HQF := Aside0.mk (show F = false → ∀ w', Below w.heap.size w w' → Q (.returned (.tuple #[.agg #[.int .i64 0, .int .i64 0, .string ⟨#[]⟩], .int .i64 122])) w' from fun h => HQ.out (nullV, 122) (by unfold worthX; rw [hke, if_neg (fun h => h rfl), hF, h, if_pos rfl]))
   have HQT := Aside0.mk (show F = true → ∀ r : Wo, worthE l row x = r → ∀ w', Below w.heap.size w w' → Q (.returned (.tuple #[.agg #[.int .i64 r.1.f0, .int .i64 r.1.f1, .string r.1.f2], .int .i64 r.2])) w' from fun h r hr => HQ.out r (by unfold worthX; rw [hke, if_neg (fun h => h rfl), hF, h, if_neg (by decide), hr]))
   have HFT := Aside0.mk (show F = true → ∀ y ∈ row, okV y from fun h y hy => ⟨hrow y hy, Nat.le_trans (chkV_size (fitsL_chk l row (hF.trans h) y hy)) (by decide)⟩)
   have HLen := Aside0.mk hlen
   have HAll := Aside0.mk (show allE x = true ∧ 0 < l.length from (by
    unfold kindX at hke
    cases hr : rightS l
    ·rw [hr, if_pos rfl] at hke; cases hke
    ·rw [hr, if_neg (by decide)] at hke
     by_cases hcx : chkE x = 0
     ·refine ⟨chk_all hcx, ?_⟩
      unfold rightS at hr
      simp only [Bool.and_eq_true, decide_eq_true_eq] at hr
      omega
     ·rw [if_pos hcx] at hke; exact absurd hke hcx))
   have mf := mkfW
   clear HQ hF hke HKX hfl hlen hrow
   go_enter_defers Tryd.func14, Tryd.ntmps14
   go_upto_region 1 with (fail)
   rw [← HW.out]
   go_upto_region 2 with (go_at_call 12; refine hkd.mono ?_; rintro e w2 ⟨rfl, hb2⟩; have hS2 := hS.step hb2; clear hb2)
   clear e1 e2 e3 e4 e5 e6 hS hkd HW
   have HS2 := Aside0.mk hS2
   clear hS2
   go_wp2_with fail
   go_loopg [30] (row.length) (fun kq v30 wr => ∃ i : Nat, v30 = .int .i64 i ∧ Aside0 (i + kq = row.length) ∧ Aside0 (WoS x A c w wr) ∧ Aside0 (fitsL (l.drop i) (row.drop i) = F))
   case atStart => exact ⟨0, rfl, ⟨by omega⟩, HS2, HF⟩
   case round =>
    obtain ⟨i, rfl, HI, HS, HFi⟩ := hrel
    clear HS2 HF
    cases gk with
    | succ k1 =>
     have hi : i < row.length := by have := HI.out; omega
     have hlb : decide (i < row.length) = true := decide_eq_true hi
     have hil : i < l.length := by rw [← HLen.out]; exact hi
     obtain ⟨adr, hadr, r0, r1, r2⟩ := at_T23 (Kd.C_below HRw.out HS.out.below) (i : Int) (by omega) (by omega)
     obtain ⟨adc, hadc, q0, q1⟩ := at_T58 (Kd.C_below HD.out HS.out.below) (i : Int) (by omega) (by omega)
     have hfi := HFi.out
     rw [dropC l i hil, dropV row i hi] at hfi
     unfold fitsL at hfi
     subst hadr hadc
     rw [Int.toNat_natCast] at r0 r1 r2 q1
     clear HFi q0
     generalize rd_T23 row (i : Int) = y at r0 r1 r2 hfi
     generalize (rd_T58 l (i : Int)).f1 = kc at q1 hfi
     obtain ⟨KC, hKC0⟩ := chk_ev y
     have hKC := hKC0 KC (Nat.le_refl _)
     clear hKC0
     generalize chkV y = C at hKC hfi
     obtain ⟨W2, hW2⟩ : ∃ W2, W2 = wr.alloc (.cells #[.int .i64 y.f0, .int .i64 y.f1, .string y.f2] 23) := ⟨_, rfl⟩
     have hS2 : WoS x A c w W2 := by rw [hW2]; exact HS.out.step (below_alloc (Below.refl _ _) _)
     have hY : W2.heap[wr.heap.size]? = some (.cells #[.int .i64 y.f0, .int .i64 y.f1, .string y.f2] 23 (0, 0)) := by rw [hW2]; exact blk_new wr _
     have hq1 : W2.cell? ⟨(adc.add (i * 2)).block, (adc.add (i * 2)).off + 1, none⟩ = some (.int .i64 kc) := by rw [hW2]; exact pw_cell_below (below_alloc (Below.refl _ _) _) q1
     obtain ⟨y0, y1, y2, _, _, _⟩ := box3 hY
     have hCC : W2.cell? ⟨(adc.add (i * 2)).block, (adc.add (i * 2)).off + 1, none⟩ = some (.int .i64 kc) ∧ W2.cell? ⟨wr.heap.size, 0, none⟩ = some (.int .i64 y.f0) ∧ W2.cell? ⟨wr.heap.size, 1, none⟩ = some (.int .i64 y.f1) ∧ W2.cell? ⟨wr.heap.size, 2, none⟩ = some (.string y.f2) ∧ WoS x A c w W2 := ⟨hq1, y0, y1, y2, hS2⟩
     have HW2 := Aside0.mk hW2
     clear hW2 hS2 hY hq1 q1 y0 y1 y2
     have hcase : (C ≠ 0 ∧ F = false) ∨ (C = 0 ∧ y.f0 = 0 ∧ fitsL (l.drop (i + 1)) (row.drop (i + 1)) = F) ∨ (C = 0 ∧ y.f0 ≠ 0 ∧ y.f0 = kc ∧ fitsL (l.drop (i + 1)) (row.drop (i + 1)) = F) ∨ (C = 0 ∧ y.f0 ≠ 0 ∧ y.f0 ≠ kc ∧ F = false) := by
      by_cases g0 : C = 0
      ·by_cases g1 : y.f0 = 0
       ·refine .inr (.inl ⟨g0, g1, ?_⟩)
        rw [← hfi, decide_eq_true g0, decide_eq_true g1]; simp
       ·by_cases g2 : y.f0 = kc
        ·refine .inr (.inr (.inl ⟨g0, g1, g2, ?_⟩))
         rw [← hfi, decide_eq_true g0, decide_eq_true g2]; simp
        ·refine .inr (.inr (.inr ⟨g0, g1, g2, ?_⟩))
         rw [← hfi, decide_eq_true g0, decide_eq_false g1, decide_eq_false g2]; simp
      ·refine .inl ⟨g0, ?_⟩
       rw [← hfi, decide_eq_false g0]; simp
     clear hfi
     rcases hcase with ⟨g0, hFx⟩ | ⟨g0, g1, hFx⟩ | ⟨g0, g1, g2, hFx⟩ | ⟨g0, g1, g2, hFx⟩
     ·have HFx := Aside0.mk hFx
      have b0 : (C != 0) = true := by simpa using g0
      clear hFx g0
      go_upto_region 9 with (fail)
      rw [← HW2.out]
      refine wp_region_noPanic ?_
      refine start_ (n := 18) (S := (fun w' => w'.cell? ⟨(adc.add (i * 2)).block, (adc.add (i * 2)).off + 1, none⟩ = some (.int .i64 kc) ∧ w'.cell? ⟨wr.heap.size, 0, none⟩ = some (.int .i64 y.f0) ∧ w'.cell? ⟨wr.heap.size, 1, none⟩ = some (.int .i64 y.f1) ∧ w'.cell? ⟨wr.heap.size, 2, none⟩ = some (.string y.f2) ∧ WoS x A c w w')) (ds := []) (fB 18 0) (by kernel_rfl) rfl rfl (wox_step hCC (below_drew1 (Below.refl _ _))) (fun hHeld => ?_)
      refine take_ (i := 0) (N := some 35) (v := ?_) (a' := ?_) (fB 18 1) rfl rfl (by kernel_rfl) (fun _ _ _ h => h) (Or.inl ⟨by rfl, by rintro w' ⟨s0, s1, s2, s3, s4⟩; go_simp; with_reducible rfl⟩) hHeld (by simp only [Act.put, zA, zB, zC]; rfl) ?_
      refine one1_ (i := 1) (N := some 36) (fB 18 3) rfl rfl (by kernel_rfl) (by decide) (fun K hK => ?_)
      refine goes_ Tryd.func35 (by kernel_rfl) rfl #[.agg #[.int .i64 y.f0, .int .i64 y.f1, .string y.f2]] (by rfl) rfl rfl (by (try simp only [List.map_toArray, List.map_cons, List.map_nil]); first | done | rfl) ?_
      refine (value_Check.calls KC y.f0 y.f1 y.f2 _ _ hKC).mono ?_
      rintro e w5 ⟨rfl, hb5⟩
      have hC5 := wox_step hHeld hb5
      refine ⟨_, rfl, ?_⟩
      clear hHeld
      refine hK.out _ _ (hC5) (fun hHeld => ?_)
      clear hK K
      refine norm_ (a' := ?_) ?_ ?_
      rotate_left
      ·show Act.put _ (some 36) _ = _
       simp only [Act.put, zA, zB, zC]
       rfl
      refine pure_ (i := 2) (N := some 37) (v := ?_) (a' := ?_) (fB 18 7) rfl rfl (by kernel_rfl) (fun _ _ _ h => h) (Or.inl ⟨by rfl, by intro w'; go_simp; (first | with_reducible rfl | skip)⟩) (by simp only [Act.put, zA, zB, zC]; rfl) ?_
      refine pure_ (i := 3) (N := some 38) (v := ?_) (a' := ?_) (fB 18 15) rfl rfl (by kernel_rfl) (fun _ _ _ h => h) (Or.inl ⟨by rfl, by intro w'; go_simp; (first | with_reducible rfl | skip)⟩) (by simp only [Act.put, zA, zB, zC]; rfl) ?_
      refine pure_ (i := 4) (N := some 39) (v := undef) (a' := ?_) (fB 18 31) rfl rfl (by kernel_rfl) (fun _ _ _ h => h) (Or.inr ⟨by rfl, rfl⟩) ?_ ?_
      rotate_left
      ·simp only [Act.put, zA, zB, zC]
       rfl
      refine pure_ (i := 5) (N := some 40) (v := undef) (a' := ?_) (fB 18 63) rfl rfl (by kernel_rfl) (fun _ _ _ h => h) (Or.inr ⟨by rfl, rfl⟩) ?_ ?_
      rotate_left
      ·simp only [Act.put, zA, zB, zC]
       rfl
      refine pure_ (i := 6) (N := some 41) (v := undef) (a' := ?_) (fB 18 127) rfl rfl (by kernel_rfl) (fun _ _ _ h => h) (Or.inr ⟨by rfl, rfl⟩) ?_ ?_
      rotate_left
      ·simp only [Act.put, zA, zB, zC]
       rfl
      refine pure_ (i := 7) (N := some 42) (v := undef) (a' := ?_) (fB 18 255) rfl rfl (by kernel_rfl) (fun _ _ _ h => h) (Or.inr ⟨by rfl, rfl⟩) ?_ ?_
      rotate_left
      ·simp only [Act.put, zA, zB, zC]
       rfl
      refine pure_ (i := 8) (N := some 43) (v := undef) (a' := ?_) (fB 18 511) rfl rfl (by kernel_rfl) (fun _ _ _ h => h) (Or.inr ⟨by rfl, rfl⟩) ?_ ?_
      rotate_left
      ·simp only [Act.put, zA, zB, zC]
       rfl
      refine pure_ (i := 9) (N := some 44) (v := undef) (a' := ?_) (fB 18 1023) rfl rfl (by kernel_rfl) (fun _ _ _ h => h) (Or.inr ⟨by rfl, rfl⟩) ?_ ?_
      rotate_left
      ·simp only [Act.put, zA, zB, zC]
       rfl
      refine pure_ (i := 10) (N := some 45) (v := undef) (a' := ?_) (fB 18 2047) rfl rfl (by kernel_rfl) (fun _ _ _ h => h) (Or.inr ⟨by rfl, rfl⟩) ?_ ?_
      rotate_left
      ·simp only [Act.put, zA, zB, zC]
       rfl
      refine pure_ (i := 11) (N := some 46) (v := undef) (a' := ?_) (fB 18 4095) rfl rfl (by kernel_rfl) (fun _ _ _ h => h) (Or.inr ⟨by rfl, rfl⟩) ?_ ?_
      rotate_left
      ·simp only [Act.put, zA, zB, zC]
       rfl
      refine pure_ (i := 12) (N := some 47) (v := undef) (a' := ?_) (fB 18 8191) rfl rfl (by kernel_rfl) (fun _ _ _ h => h) (Or.inr ⟨by rfl, rfl⟩) ?_ ?_
      rotate_left
      ·simp only [Act.put, zA, zB, zC]
       rfl
      refine pure_ (i := 13) (N := some 48) (v := undef) (a' := ?_) (fB 18 16383) rfl rfl (by kernel_rfl) (fun _ _ _ h => h) (Or.inr ⟨by rfl, rfl⟩) ?_ ?_
      rotate_left
      ·simp only [Act.put, zA, zB, zC]
       rfl
      refine pure_ (i := 14) (N := some 49) (v := undef) (a' := ?_) (fB 18 32767) rfl rfl (by kernel_rfl) (fun _ _ _ h => h) (Or.inr ⟨by rfl, rfl⟩) ?_ ?_
      rotate_left
      ·simp only [Act.put, zA, zB, zC]
       rfl
      refine pure_ (i := 15) (N := some 50) (v := undef) (a' := ?_) (fB 18 65535) rfl rfl (by kernel_rfl) (fun _ _ _ h => h) (Or.inr ⟨by rfl, rfl⟩) ?_ ?_
      rotate_left
      ·simp only [Act.put, zA, zB, zC]
       rfl
      refine pure_ (i := 16) (N := some 51) (v := undef) (a' := ?_) (fB 18 131071) rfl rfl (by kernel_rfl) (fun _ _ _ h => h) (Or.inr ⟨by rfl, rfl⟩) ?_ ?_
      rotate_left
      ·simp only [Act.put, zA, zB, zC]
       rfl
      refine pure_ (i := 17) (N := some 52) (v := ?_) (a' := ?_) (fB 18 262143) rfl rfl (by kernel_rfl) (fun _ _ _ h => h) (Or.inl ⟨by rfl, by intro w'; go_simp; (first | with_reducible rfl | skip)⟩) (by simp only [Act.put, zA, zB, zC]; rfl) ?_
      refine done_ (by kernel_rfl) ?_
      refine NoPanic.normal ?_
      obtain ⟨m0, m1, m2, f0, f1, f2⟩ := box3 hC5.2.2.2.2.vbox
      obtain ⟨m3, f3⟩ := bf1 hC5.2.2.2.2.rbox
      have n0 := (HG.out.below hC5.2.2.2.2.below).n0
      have n1 := (HG.out.below hC5.2.2.2.2.below).n1
      have n2 := (HG.out.below hC5.2.2.2.2.below).n2
      go_wp2
      obtain ⟨hv3, hr3⟩ := wo_stored hC5.2.2.2.2.vbox hC5.2.2.2.2.rbox (.int .i64 0) (.int .i64 0) (.string ⟨#[]⟩) (.int .i64 122)
      exact ⟨_, wo_final (w.heap.size + 1) _ rfl rfl _ 0 0 122 ⟨#[]⟩ hv3 hr3, HQF.out HFx.out _ (wo_below hC5.2.2.2.2.below (by omega) _ _ _ _)⟩
     ·have HFx := Aside0.mk hFx
      subst g0
      have b1 : (y.f0 != 0) = false := by simpa using g1
      clear hFx g1
      go_upto_region 9 with (fail)
      rw [← HW2.out]
      refine wp_region_noPanic ?_
      refine start_ (n := 18) (S := (fun w' => w'.cell? ⟨(adc.add (i * 2)).block, (adc.add (i * 2)).off + 1, none⟩ = some (.int .i64 kc) ∧ w'.cell? ⟨wr.heap.size, 0, none⟩ = some (.int .i64 y.f0) ∧ w'.cell? ⟨wr.heap.size, 1, none⟩ = some (.int .i64 y.f1) ∧ w'.cell? ⟨wr.heap.size, 2, none⟩ = some (.string y.f2) ∧ WoS x A c w w')) (ds := []) (fB 18 0) (by kernel_rfl) rfl rfl (wox_step hCC (below_drew1 (Below.refl _ _))) (fun hHeld => ?_)
      refine take_ (i := 0) (N := some 35) (v := ?_) (a' := ?_) (fB 18 1) rfl rfl (by kernel_rfl) (fun _ _ _ h => h) (Or.inl ⟨by rfl, by rintro w' ⟨s0, s1, s2, s3, s4⟩; go_simp; with_reducible rfl⟩) hHeld (by simp only [Act.put, zA, zB, zC]; rfl) ?_
      refine one1_ (i := 1) (N := some 36) (fB 18 3) rfl rfl (by kernel_rfl) (by decide) (fun K hK => ?_)
      refine goes_ Tryd.func35 (by kernel_rfl) rfl #[.agg #[.int .i64 y.f0, .int .i64 y.f1, .string y.f2]] (by rfl) rfl rfl (by (try simp only [List.map_toArray, List.map_cons, List.map_nil]); first | done | rfl) ?_
      refine (value_Check.calls KC y.f0 y.f1 y.f2 _ _ hKC).mono ?_
      rintro e w5 ⟨rfl, hb5⟩
      have hC5 := wox_step hHeld hb5
      refine ⟨_, rfl, ?_⟩
      clear hHeld
      refine hK.out _ _ (hC5) (fun hHeld => ?_)
      clear hK K
      refine norm_ (a' := ?_) ?_ ?_
      rotate_left
      ·show Act.put _ (some 36) _ = _
       simp only [Act.put, zA, zB, zC]
       rfl
      refine pure_ (i := 2) (N := some 37) (v := ?_) (a' := ?_) (fB 18 7) rfl rfl (by kernel_rfl) (fun _ _ _ h => h) (Or.inl ⟨by rfl, by intro w'; go_simp; (first | with_reducible rfl | skip)⟩) (by simp only [Act.put, zA, zB, zC]; rfl) ?_
      refine pure_ (i := 3) (N := some 38) (v := ?_) (a' := ?_) (fB 18 15) rfl rfl (by kernel_rfl) (fun _ _ _ h => h) (Or.inl ⟨by rfl, by intro w'; go_simp; (first | with_reducible rfl | skip)⟩) (by simp only [Act.put, zA, zB, zC]; rfl) ?_
      refine pure_ (i := 4) (N := some 39) (v := ?_) (a' := ?_) (fB 18 31) rfl rfl (by kernel_rfl) (fun _ _ _ h => h) (Or.inl ⟨by rfl, by intro w'; go_simp; (first | with_reducible rfl | skip)⟩) (by simp only [Act.put, zA, zB, zC]; rfl) ?_
      refine take_ (i := 5) (N := some 40) (v := ?_) (a' := ?_) (fB 18 63) rfl rfl (by kernel_rfl) (fun _ _ _ h => h) (Or.inl ⟨by rfl, by rintro w' ⟨s0, s1, s2, s3, s4⟩; go_simp; with_reducible rfl⟩) hHeld (by simp only [Act.put, zA, zB, zC]; rfl) ?_
      refine pure_ (i := 6) (N := some 41) (v := ?_) (a' := ?_) (fB 18 127) rfl rfl (by kernel_rfl) (fun _ _ _ h => h) (Or.inl ⟨by rfl, by intro w'; go_simp; (first | with_reducible rfl | skip)⟩) (by simp only [Act.put, zA, zB, zC]; rfl) ?_
      refine pure_ (i := 7) (N := some 42) (v := ?_) (a' := ?_) (fB 18 255) rfl rfl (by kernel_rfl) (fun _ _ _ h => h) (Or.inl ⟨by rfl, by intro w'; go_simp; (first | with_reducible rfl | skip)⟩) (by simp only [Act.put, zA, zB, zC]; rfl) ?_
      refine pure_ (i := 8) (N := some 43) (v := undef) (a' := ?_) (fB 18 511) rfl rfl (by kernel_rfl) (fun _ _ _ h => h) (Or.inr ⟨by rfl, rfl⟩) ?_ ?_
      rotate_left
      ·simp only [Act.put, zA, zB, zC]
       rfl
      refine pure_ (i := 9) (N := some 44) (v := undef) (a' := ?_) (fB 18 1023) rfl rfl (by kernel_rfl) (fun _ _ _ h => h) (Or.inr ⟨by rfl, rfl⟩) ?_ ?_
      rotate_left
      ·simp only [Act.put, zA, zB, zC]
       rfl
      refine pure_ (i := 10) (N := some 45) (v := undef) (a' := ?_) (fB 18 2047) rfl rfl (by kernel_rfl) (fun _ _ _ h => h) (Or.inr ⟨by rfl, rfl⟩) ?_ ?_
      rotate_left
      ·simp only [Act.put, zA, zB, zC]
       rfl
      refine pure_ (i := 11) (N := some 46) (v := undef) (a' := ?_) (fB 18 4095) rfl rfl (by kernel_rfl) (fun _ _ _ h => h) (Or.inr ⟨by rfl, rfl⟩) ?_ ?_
      rotate_left
      ·simp only [Act.put, zA, zB, zC]
       rfl
      refine pure_ (i := 12) (N := some 47) (v := undef) (a' := ?_) (fB 18 8191) rfl rfl (by kernel_rfl) (fun _ _ _ h => h) (Or.inr ⟨by rfl, rfl⟩) ?_ ?_
      rotate_left
      ·simp only [Act.put, zA, zB, zC]
       rfl
      refine pure_ (i := 13) (N := some 48) (v := undef) (a' := ?_) (fB 18 16383) rfl rfl (by kernel_rfl) (fun _ _ _ h => h) (Or.inr ⟨by rfl, rfl⟩) ?_ ?_
      rotate_left
      ·simp only [Act.put, zA, zB, zC]
       rfl
      refine pure_ (i := 14) (N := some 49) (v := undef) (a' := ?_) (fB 18 32767) rfl rfl (by kernel_rfl) (fun _ _ _ h => h) (Or.inr ⟨by rfl, rfl⟩) ?_ ?_
      rotate_left
      ·simp only [Act.put, zA, zB, zC]
       rfl
      refine pure_ (i := 15) (N := some 50) (v := undef) (a' := ?_) (fB 18 65535) rfl rfl (by kernel_rfl) (fun _ _ _ h => h) (Or.inr ⟨by rfl, rfl⟩) ?_ ?_
      rotate_left
      ·simp only [Act.put, zA, zB, zC]
       rfl
      refine pure_ (i := 16) (N := some 51) (v := ?_) (a' := ?_) (fB 18 131071) rfl rfl (by kernel_rfl) (fun _ _ _ h => h) (Or.inl ⟨by rfl, by intro w'; go_simp; (first | with_reducible rfl | skip)⟩) (by simp only [Act.put, zA, zB, zC]; rfl) ?_
      refine pure_ (i := 17) (N := some 52) (v := ?_) (a' := ?_) (fB 18 262143) rfl rfl (by kernel_rfl) (fun _ _ _ h => h) (Or.inl ⟨by rfl, by intro w'; go_simp; (first | with_reducible rfl | skip)⟩) (by simp only [Act.put, zA, zB, zC]; rfl) ?_
      refine done_ (by kernel_rfl) ?_
      refine NoPanic.normal ?_
      go_wp2
      go_roundg k1
      case measure => omega
      case rel => exact ⟨i + 1, by congr 1, ⟨by have := HI.out; omega⟩, ⟨hC5.2.2.2.2⟩, HFx⟩
     ·have HFx := Aside0.mk hFx
      subst g0
      have b1 : (y.f0 != 0) = true := by simpa using g1
      have b2 : (y.f0 != kc) = false := by simpa using g2
      clear hFx g1 g2
      go_upto_region 9 with (fail)
      rw [← HW2.out]
      refine wp_region_noPanic ?_
      refine start_ (n := 18) (S := (fun w' => w'.cell? ⟨(adc.add (i * 2)).block, (adc.add (i * 2)).off + 1, none⟩ = some (.int .i64 kc) ∧ w'.cell? ⟨wr.heap.size, 0, none⟩ = some (.int .i64 y.f0) ∧ w'.cell? ⟨wr.heap.size, 1, none⟩ = some (.int .i64 y.f1) ∧ w'.cell? ⟨wr.heap.size, 2, none⟩ = some (.string y.f2) ∧ WoS x A c w w')) (ds := []) (fB 18 0) (by kernel_rfl) rfl rfl (wox_step hCC (below_drew1 (Below.refl _ _))) (fun hHeld => ?_)
      refine take_ (i := 0) (N := some 35) (v := ?_) (a' := ?_) (fB 18 1) rfl rfl (by kernel_rfl) (fun _ _ _ h => h) (Or.inl ⟨by rfl, by rintro w' ⟨s0, s1, s2, s3, s4⟩; go_simp; with_reducible rfl⟩) hHeld (by simp only [Act.put, zA, zB, zC]; rfl) ?_
      refine one1_ (i := 1) (N := some 36) (fB 18 3) rfl rfl (by kernel_rfl) (by decide) (fun K hK => ?_)
      refine goes_ Tryd.func35 (by kernel_rfl) rfl #[.agg #[.int .i64 y.f0, .int .i64 y.f1, .string y.f2]] (by rfl) rfl rfl (by (try simp only [List.map_toArray, List.map_cons, List.map_nil]); first | done | rfl) ?_
      refine (value_Check.calls KC y.f0 y.f1 y.f2 _ _ hKC).mono ?_
      rintro e w5 ⟨rfl, hb5⟩
      have hC5 := wox_step hHeld hb5
      refine ⟨_, rfl, ?_⟩
      clear hHeld
      refine hK.out _ _ (hC5) (fun hHeld => ?_)
      clear hK K
      refine norm_ (a' := ?_) ?_ ?_
      rotate_left
      ·show Act.put _ (some 36) _ = _
       simp only [Act.put, zA, zB, zC]
       rfl
      refine pure_ (i := 2) (N := some 37) (v := ?_) (a' := ?_) (fB 18 7) rfl rfl (by kernel_rfl) (fun _ _ _ h => h) (Or.inl ⟨by rfl, by intro w'; go_simp; (first | with_reducible rfl | skip)⟩) (by simp only [Act.put, zA, zB, zC]; rfl) ?_
      refine pure_ (i := 3) (N := some 38) (v := ?_) (a' := ?_) (fB 18 15) rfl rfl (by kernel_rfl) (fun _ _ _ h => h) (Or.inl ⟨by rfl, by intro w'; go_simp; (first | with_reducible rfl | skip)⟩) (by simp only [Act.put, zA, zB, zC]; rfl) ?_
      refine pure_ (i := 4) (N := some 39) (v := ?_) (a' := ?_) (fB 18 31) rfl rfl (by kernel_rfl) (fun _ _ _ h => h) (Or.inl ⟨by rfl, by intro w'; go_simp; (first | with_reducible rfl | skip)⟩) (by simp only [Act.put, zA, zB, zC]; rfl) ?_
      refine take_ (i := 5) (N := some 40) (v := ?_) (a' := ?_) (fB 18 63) rfl rfl (by kernel_rfl) (fun _ _ _ h => h) (Or.inl ⟨by rfl, by rintro w' ⟨s0, s1, s2, s3, s4⟩; go_simp; with_reducible rfl⟩) hHeld (by simp only [Act.put, zA, zB, zC]; rfl) ?_
      refine pure_ (i := 6) (N := some 41) (v := ?_) (a' := ?_) (fB 18 127) rfl rfl (by kernel_rfl) (fun _ _ _ h => h) (Or.inl ⟨by rfl, by intro w'; go_simp; (first | with_reducible rfl | skip)⟩) (by simp only [Act.put, zA, zB, zC]; rfl) ?_
      refine pure_ (i := 7) (N := some 42) (v := ?_) (a' := ?_) (fB 18 255) rfl rfl (by kernel_rfl) (fun _ _ _ h => h) (Or.inl ⟨by rfl, by intro w'; go_simp; (first | with_reducible rfl | skip)⟩) (by simp only [Act.put, zA, zB, zC]; rfl) ?_
      refine pure_ (i := 8) (N := some 43) (v := ?_) (a' := ?_) (fB 18 511) rfl rfl (by kernel_rfl) (fun _ _ _ h => h) (Or.inl ⟨by rfl, by intro w'; go_simp; (first | with_reducible rfl | skip)⟩) (by simp only [Act.put, zA, zB, zC]; rfl) ?_
      refine pure_ (i := 10) (N := some 45) (v := ?_) (a' := ?_) (fB 18 1535) rfl rfl (by kernel_rfl) (fun _ _ _ h => h) (Or.inl ⟨by rfl, by intro w'; go_simp; (first | with_reducible rfl | skip)⟩) (by simp only [Act.put, zA, zB, zC]; rfl) ?_
      refine pure_ (i := 11) (N := some 46) (v := ?_) (a' := ?_) (fB 18 3583) rfl rfl (by kernel_rfl) (fun _ _ _ h => h) (Or.inl ⟨by rfl, by intro w'; go_simp; (first | with_reducible rfl | skip)⟩) (by simp only [Act.put, zA, zB, zC]; rfl) ?_
      refine pure_ (i := 12) (N := some 47) (v := ?_) (a' := ?_) (fB 18 7679) rfl rfl (by kernel_rfl) (fun _ _ _ h => h) (Or.inl ⟨by rfl, by intro w'; go_simp; (first | with_reducible rfl | skip)⟩) (by simp only [Act.put, zA, zB, zC]; rfl) ?_
      refine pure_ (i := 13) (N := some 48) (v := ?_) (a' := ?_) (fB 18 15871) rfl rfl (by kernel_rfl) (fun _ _ _ h => h) (Or.inl ⟨by rfl, by intro w'; go_simp; (first | with_reducible rfl | skip)⟩) (by simp only [Act.put, zA, zB, zC]; rfl) ?_
      refine take_ (i := 9) (N := some 44) (v := ?_) (a' := ?_) (fB 18 16383) rfl rfl (by kernel_rfl) (fun _ _ _ h => h) (Or.inl ⟨by rfl, by rintro w' ⟨s0, s1, s2, s3, s4⟩; go_simp; with_reducible rfl⟩) hHeld (by simp only [Act.put, zA, zB, zC]; rfl) ?_
      refine take_ (i := 14) (N := some 49) (v := ?_) (a' := ?_) (fB 18 32767) rfl rfl (by kernel_rfl) (fun _ _ _ h => h) (Or.inl ⟨by rfl, by rintro w' ⟨s0, s1, s2, s3, s4⟩; go_simp; with_reducible rfl⟩) hHeld (by simp only [Act.put, zA, zB, zC]; rfl) ?_
      refine pure_ (i := 15) (N := some 50) (v := ?_) (a' := ?_) (fB 18 65535) rfl rfl (by kernel_rfl) (fun _ _ _ h => h) (Or.inl ⟨by rfl, by intro w'; go_simp; (first | with_reducible rfl | skip)⟩) (by simp only [Act.put, zA, zB, zC]; rfl) ?_
      refine pure_ (i := 16) (N := some 51) (v := ?_) (a' := ?_) (fB 18 131071) rfl rfl (by kernel_rfl) (fun _ _ _ h => h) (Or.inl ⟨by rfl, by intro w'; go_simp; (first | with_reducible rfl | skip)⟩) (by simp only [Act.put, zA, zB, zC]; rfl) ?_
      refine pure_ (i := 17) (N := some 52) (v := ?_) (a' := ?_) (fB 18 262143) rfl rfl (by kernel_rfl) (fun _ _ _ h => h) (Or.inl ⟨by rfl, by intro w'; go_simp; (first | with_reducible rfl | skip)⟩) (by simp only [Act.put, zA, zB, zC]; rfl) ?_
      refine done_ (by kernel_rfl) ?_
      refine NoPanic.normal ?_
      go_wp2
      go_roundg k1
      case measure => omega
      case rel => exact ⟨i + 1, by congr 1, ⟨by have := HI.out; omega⟩, ⟨hC5.2.2.2.2⟩, HFx⟩
     ·have HFx := Aside0.mk hFx
      subst g0
      have b1 : (y.f0 != 0) = true := by simpa using g1
      have b2 : (y.f0 != kc) = true := by simpa using g2
      clear hFx g1 g2
      go_upto_region 9 with (fail)
      rw [← HW2.out]
      refine wp_region_noPanic ?_
      refine start_ (n := 18) (S := (fun w' => w'.cell? ⟨(adc.add (i * 2)).block, (adc.add (i * 2)).off + 1, none⟩ = some (.int .i64 kc) ∧ w'.cell? ⟨wr.heap.size, 0, none⟩ = some (.int .i64 y.f0) ∧ w'.cell? ⟨wr.heap.size, 1, none⟩ = some (.int .i64 y.f1) ∧ w'.cell? ⟨wr.heap.size, 2, none⟩ = some (.string y.f2) ∧ WoS x A c w w')) (ds := []) (fB 18 0) (by kernel_rfl) rfl rfl (wox_step hCC (below_drew1 (Below.refl _ _))) (fun hHeld => ?_)
      refine take_ (i := 0) (N := some 35) (v := ?_) (a' := ?_) (fB 18 1) rfl rfl (by kernel_rfl) (fun _ _ _ h => h) (Or.inl ⟨by rfl, by rintro w' ⟨s0, s1, s2, s3, s4⟩; go_simp; with_reducible rfl⟩) hHeld (by simp only [Act.put, zA, zB, zC]; rfl) ?_
      refine one1_ (i := 1) (N := some 36) (fB 18 3) rfl rfl (by kernel_rfl) (by decide) (fun K hK => ?_)
      refine goes_ Tryd.func35 (by kernel_rfl) rfl #[.agg #[.int .i64 y.f0, .int .i64 y.f1, .string y.f2]] (by rfl) rfl rfl (by (try simp only [List.map_toArray, List.map_cons, List.map_nil]); first | done | rfl) ?_
      refine (value_Check.calls KC y.f0 y.f1 y.f2 _ _ hKC).mono ?_
      rintro e w5 ⟨rfl, hb5⟩
      have hC5 := wox_step hHeld hb5
      refine ⟨_, rfl, ?_⟩
      clear hHeld
      refine hK.out _ _ (hC5) (fun hHeld => ?_)
      clear hK K
      refine norm_ (a' := ?_) ?_ ?_
      rotate_left
      ·show Act.put _ (some 36) _ = _
       simp only [Act.put, zA, zB, zC]
       rfl
      refine pure_ (i := 2) (N := some 37) (v := ?_) (a' := ?_) (fB 18 7) rfl rfl (by kernel_rfl) (fun _ _ _ h => h) (Or.inl ⟨by rfl, by intro w'; go_simp; (first | with_reducible rfl | skip)⟩) (by simp only [Act.put, zA, zB, zC]; rfl) ?_
      refine pure_ (i := 3) (N := some 38) (v := ?_) (a' := ?_) (fB 18 15) rfl rfl (by kernel_rfl) (fun _ _ _ h => h) (Or.inl ⟨by rfl, by intro w'; go_simp; (first | with_reducible rfl | skip)⟩) (by simp only [Act.put, zA, zB, zC]; rfl) ?_
      refine pure_ (i := 4) (N := some 39) (v := ?_) (a' := ?_) (fB 18 31) rfl rfl (by kernel_rfl) (fun _ _ _ h => h) (Or.inl ⟨by rfl, by intro w'; go_simp; (first | with_reducible rfl | skip)⟩) (by simp only [Act.put, zA, zB, zC]; rfl) ?_
      refine take_ (i := 5) (N := some 40) (v := ?_) (a' := ?_) (fB 18 63) rfl rfl (by kernel_rfl) (fun _ _ _ h => h) (Or.inl ⟨by rfl, by rintro w' ⟨s0, s1, s2, s3, s4⟩; go_simp; with_reducible rfl⟩) hHeld (by simp only [Act.put, zA, zB, zC]; rfl) ?_
      refine pure_ (i := 6) (N := some 41) (v := ?_) (a' := ?_) (fB 18 127) rfl rfl (by kernel_rfl) (fun _ _ _ h => h) (Or.inl ⟨by rfl, by intro w'; go_simp; (first | with_reducible rfl | skip)⟩) (by simp only [Act.put, zA, zB, zC]; rfl) ?_
      refine pure_ (i := 7) (N := some 42) (v := ?_) (a' := ?_) (fB 18 255) rfl rfl (by kernel_rfl) (fun _ _ _ h => h) (Or.inl ⟨by rfl, by intro w'; go_simp; (first | with_reducible rfl | skip)⟩) (by simp only [Act.put, zA, zB, zC]; rfl) ?_
      refine pure_ (i := 8) (N := some 43) (v := ?_) (a' := ?_) (fB 18 511) rfl rfl (by kernel_rfl) (fun _ _ _ h => h) (Or.inl ⟨by rfl, by intro w'; go_simp; (first | with_reducible rfl | skip)⟩) (by simp only [Act.put, zA, zB, zC]; rfl) ?_
      refine pure_ (i := 10) (N := some 45) (v := ?_) (a' := ?_) (fB 18 1535) rfl rfl (by kernel_rfl) (fun _ _ _ h => h) (Or.inl ⟨by rfl, by intro w'; go_simp; (first | with_reducible rfl | skip)⟩) (by simp only [Act.put, zA, zB, zC]; rfl) ?_
      refine pure_ (i := 11) (N := some 46) (v := ?_) (a' := ?_) (fB 18 3583) rfl rfl (by kernel_rfl) (fun _ _ _ h => h) (Or.inl ⟨by rfl, by intro w'; go_simp; (first | with_reducible rfl | skip)⟩) (by simp only [Act.put, zA, zB, zC]; rfl) ?_
      refine pure_ (i := 12) (N := some 47) (v := ?_) (a' := ?_) (fB 18 7679) rfl rfl (by kernel_rfl) (fun _ _ _ h => h) (Or.inl ⟨by rfl, by intro w'; go_simp; (first | with_reducible rfl | skip)⟩) (by simp only [Act.put, zA, zB, zC]; rfl) ?_
      refine pure_ (i := 13) (N := some 48) (v := ?_) (a' := ?_) (fB 18 15871) rfl rfl (by kernel_rfl) (fun _ _ _ h => h) (Or.inl ⟨by rfl, by intro w'; go_simp; (first | with_reducible rfl | skip)⟩) (by simp only [Act.put, zA, zB, zC]; rfl) ?_
      refine take_ (i := 9) (N := some 44) (v := ?_) (a' := ?_) (fB 18 16383) rfl rfl (by kernel_rfl) (fun _ _ _ h => h) (Or.inl ⟨by rfl, by rintro w' ⟨s0, s1, s2, s3, s4⟩; go_simp; with_reducible rfl⟩) hHeld (by simp only [Act.put, zA, zB, zC]; rfl) ?_
      refine take_ (i := 14) (N := some 49) (v := ?_) (a' := ?_) (fB 18 32767) rfl rfl (by kernel_rfl) (fun _ _ _ h => h) (Or.inl ⟨by rfl, by rintro w' ⟨s0, s1, s2, s3, s4⟩; go_simp; with_reducible rfl⟩) hHeld (by simp only [Act.put, zA, zB, zC]; rfl) ?_
      refine pure_ (i := 15) (N := some 50) (v := ?_) (a' := ?_) (fB 18 65535) rfl rfl (by kernel_rfl) (fun _ _ _ h => h) (Or.inl ⟨by rfl, by intro w'; go_simp; (first | with_reducible rfl | skip)⟩) (by simp only [Act.put, zA, zB, zC]; rfl) ?_
      refine pure_ (i := 16) (N := some 51) (v := ?_) (a' := ?_) (fB 18 131071) rfl rfl (by kernel_rfl) (fun _ _ _ h => h) (Or.inl ⟨by rfl, by intro w'; go_simp; (first | with_reducible rfl | skip)⟩) (by simp only [Act.put, zA, zB, zC]; rfl) ?_
      refine pure_ (i := 17) (N := some 52) (v := ?_) (a' := ?_) (fB 18 262143) rfl rfl (by kernel_rfl) (fun _ _ _ h => h) (Or.inl ⟨by rfl, by intro w'; go_simp; (first | with_reducible rfl | skip)⟩) (by simp only [Act.put, zA, zB, zC]; rfl) ?_
      refine done_ (by kernel_rfl) ?_
      refine NoPanic.normal ?_
      obtain ⟨m0, m1, m2, f0, f1, f2⟩ := box3 hC5.2.2.2.2.vbox
      obtain ⟨m3, f3⟩ := bf1 hC5.2.2.2.2.rbox
      have n0 := (HG.out.below hC5.2.2.2.2.below).n0
      have n1 := (HG.out.below hC5.2.2.2.2.below).n1
      have n2 := (HG.out.below hC5.2.2.2.2.below).n2
      go_wp2
      obtain ⟨hv3, hr3⟩ := wo_stored hC5.2.2.2.2.vbox hC5.2.2.2.2.rbox (.int .i64 0) (.int .i64 0) (.string ⟨#[]⟩) (.int .i64 122)
      exact ⟨_, wo_final (w.heap.size + 1) _ rfl rfl _ 0 0 122 ⟨#[]⟩ hv3 hr3, HQF.out HFx.out _ (wo_below hC5.2.2.2.2.below (by omega) _ _ _ _)⟩
    | zero =>
     have hlb : decide (i < row.length) = false := decide_eq_false (by have := HI.out; omega)
     have hFt : F = true := by
      rw [← HFi.out, List.drop_eq_nil_of_le (by have := HI.out; have := HLen.out; omega), List.drop_eq_nil_of_le (by have := HI.out; have := HLen.out; omega)]; rfl
     have hform := form_len (allE_form HAll.out.1)
     have hat : AtE wr ⟨w.heap.size, 0, none⟩ x := AtE.box hl (Kd.C_below HCx.out HS.out.below) HS.out.ebox
     have hctx : Ctx l row B c2 D c3 wr := ⟨HG.out.below HS.out.below, Kd.C_below HD.out HS.out.below, Kd.C_below HRw.out HS.out.below, hc2, hc3, hL, HLen.out⟩
     have hev : ∀ W, Below wr.heap.size wr W → Calls Tryd.prog (opF x.f0) #[.agg #[.slice B l.length c2, .slice D row.length c3], .pointer (some ⟨w.heap.size, 0, none⟩)] W (WoOut (worthE l row x) W) :=
      fun W hW => eval_calls l row B c2 D c3 (HFT.out hFt) (by have := HLen.out; have := HAll.out.2; omega) x hgd HAll.out.1 _ W (hctx.below hW) (hat.below hW)
     have HQT2 := Aside0.mk (HQT.out hFt)
     have hen := errN_worth l row x
     have s0 : wr.cell? ⟨w.heap.size, 0, none⟩ = some (.int .i64 x.f0) := (blk_cell HS.out.ebox 0).trans rfl
     have hop := fun W => op_calls x.f0 hform.1 hform.2.1 W
     have hof := opF_is x.f0
     have HOp := Aside0.mk hop
     clear HQF HQT HFT HFi hat hctx hform HI HLen HAll hop hFt
     obtain ⟨r, hr⟩ : ∃ r, worthE l row x = r := ⟨_, rfl⟩
     rw [hr] at hev hen
     have HQ3 := Aside0.mk (HQT2.out r hr)
     clear HQT2 hr
     obtain ⟨r1, r2⟩ := r
     generalize opF x.f0 = F2 at hev hof HOp
     obtain ⟨fn, hfn, hnm, hbd⟩ : ∃ fn, Tryd.prog.funcs[F2]? = some fn ∧ (fn.name == "runtime.NumGoroutine") = false ∧ fn.body.isSome = true := by
      rcases hof with rfl | rfl | rfl | rfl | rfl | rfl | rfl | rfl | rfl | rfl | rfl | rfl
      ·exact ⟨_, Tryd.func56, by kernel_rfl, by kernel_rfl⟩
      ·exact ⟨_, Tryd.func57, by kernel_rfl, by kernel_rfl⟩
      ·exact ⟨_, Tryd.func58, by kernel_rfl, by kernel_rfl⟩
      ·exact ⟨_, Tryd.func59, by kernel_rfl, by kernel_rfl⟩
      ·exact ⟨_, Tryd.func63, by kernel_rfl, by kernel_rfl⟩
      ·exact ⟨_, Tryd.func64, by kernel_rfl, by kernel_rfl⟩
      ·exact ⟨_, Tryd.func65, by kernel_rfl, by kernel_rfl⟩
      ·exact ⟨_, Tryd.func66, by kernel_rfl, by kernel_rfl⟩
      ·exact ⟨_, Tryd.func67, by kernel_rfl, by kernel_rfl⟩
      ·exact ⟨_, Tryd.func69, by kernel_rfl, by kernel_rfl⟩
      ·exact ⟨_, Tryd.func70, by kernel_rfl, by kernel_rfl⟩
      ·exact ⟨_, Tryd.func71, by kernel_rfl, by kernel_rfl⟩
     have hent := fun (args : Array Value) (W : World) => enters_ (P := Tryd.prog) hfn hnm hbd args W
     clear hfn hnm hbd hof
     by_cases er : r2 = 0
     ·subst er
      have hev2 := fun W hW => WoOut.ok (hev W hW)
      have HEv := Aside0.mk hev2
      clear hev hev2
      go_wp2_with (first
       | (go_at_call 37; refine (HOp.out _).mono ?_; rintro e w4 ⟨rfl, hb4⟩; have hS4 := HS.out.step hb4; have HB4 := Aside0.mk hb4; clear hb4 s0)
       | (refine (HEv.out _ HB4.out).mono ?_; rintro e w5 ⟨rfl, hb5⟩; have hS5 := hS4.step hb5; obtain ⟨m0, m1, m2, f0, f1, f2⟩ := box3 hS5.vbox; obtain ⟨m3, f3⟩ := bf1 hS5.rbox; clear hb5))
      obtain ⟨hv3, hr3⟩ := wo_stored hS5.vbox hS5.rbox (.int .i64 r1.f0) (.int .i64 r1.f1) (.string r1.f2) (.int .i64 0)
      refine leaves_cons (f := 36) (args := #[.pointer (some ⟨w.heap.size + 1, 0, none⟩), .pointer (some ⟨w.heap.size + 1 + 1, 0, none⟩)]) (by simp) (by simp [go_sem]) ?_
      refine (catch_none _ _ _).mono ?_
      rintro e u' w'' ⟨rfl, rfl, rfl⟩
      exact ⟨_, wo_final (w.heap.size + 1) _ rfl rfl _ _ _ _ _ hv3 hr3, HQ3.out _ (wo_below hS5.below (by omega) _ _ _ _)⟩
     ·have hev2 := fun W hW => WoOut.bad er (hev W hW)
      have HEv := Aside0.mk hev2
      have hr1 : r1 = nullV := hen er
      clear hev hev2 hen
      subst hr1
      go_wp2_with (first
       | (go_at_call 37; refine (HOp.out _).mono ?_; rintro e w4 ⟨rfl, hb4⟩; have hS4 := HS.out.step hb4; have HB4 := Aside0.mk hb4; clear hb4 s0)
       | (refine (HEv.out _ HB4.out).mono ?_; rintro e w5 ⟨rfl, hb5⟩; have hS5 := hS4.step hb5; clear hb5))
      refine leaves_cons (f := 36) (args := #[.pointer (some ⟨w.heap.size + 1, 0, none⟩), .pointer (some ⟨w.heap.size + 1 + 1, 0, none⟩)]) (by simp) (by simp [go_sem]) ?_
      refine (catch_err _ _ (by omega) _ _ _ _ r2 _ (HG.out.below hS5.below) hS5.vbox hS5.rbox).mono ?_
      rintro e u' w'' ⟨rfl, rfl, rfl⟩
      obtain ⟨hv3, hr3⟩ := wo_stored hS5.vbox hS5.rbox (.int .i64 0) (.int .i64 0) (.string ⟨#[]⟩) (.int .i64 r2)
      exact ⟨_, wo_final (w.heap.size + 1) _ rfl rfl _ _ _ _ _ hv3 hr3, HQ3.out _ (wo_below hS5.below (by omega) _ _ _ _)⟩
  ·have hd1 : ((row.length : Int) != (l.length : Int)) = true := by simpa using (by omega : ¬ (row.length : Int) = (l.length : Int))
   have hd2 : (row.length != l.length) = true := by simpa using hlen
   have HQ1 := Aside0.mk (HQ.out (nullV, 122) (by unfold worthX; rw [hke, if_neg (fun h => h rfl), if_pos (by cases hF : fitsL l row; rfl; exact absurd (hfl hF) hlen)]))
   clear HQ hke HKX hfl hlen
   go_enter_defers Tryd.func14, Tryd.ntmps14
   go_upto_region 1 with (fail)
   rw [← HW.out]
   go_upto_region 2 with (go_at_call 12; refine hkd.mono ?_; rintro e w2 ⟨rfl, hb2⟩; have hS2 := hS.step hb2; clear hb2)
   obtain ⟨m0, m1, m2, f0, f1, f2⟩ := box3 hS2.vbox
   obtain ⟨m3, f3⟩ := bf1 hS2.rbox
   have n0 := (HG.out.below hS2.below).n0
   have n1 := (HG.out.below hS2.below).n1
   have n2 := (HG.out.below hS2.below).n2
   go_wp2
   obtain ⟨hv3, hr3⟩ := wo_stored hS2.vbox hS2.rbox (.int .i64 0) (.int .i64 0) (.string ⟨#[]⟩) (.int .i64 122)
   exact ⟨_, wo_final (w.heap.size + 1) _ rfl rfl _ 0 0 122 ⟨#[]⟩ hv3 hr3, HQ1.out _ (wo_below hS2.below (by omega) _ _ _ _)⟩
 ·have hne : (ke != 0) = true := by simpa using hk0
  have HQ1 := Aside0.mk (HQ.out (nullV, ke) (by unfold worthX; rw [hke, if_pos hk0]))
  clear HQ hk0 hke HKX
  go_enter_defers Tryd.func14, Tryd.ntmps14
  go_upto_region 1 with (fail)
  rw [← HW.out]
  go_upto_region 2 with (go_at_call 12; refine hkd.mono ?_; rintro e w2 ⟨rfl, hb2⟩; have hS2 := hS.step hb2; clear hb2)
  obtain ⟨m0, m1, m2, f0, f1, f2⟩ := box3 hS2.vbox
  obtain ⟨m3, f3⟩ := bf1 hS2.rbox
  have n0 := (HG.out.below hS2.below).n0
  have n1 := (HG.out.below hS2.below).n1
  have n2 := (HG.out.below hS2.below).n2
  go_wp2
  obtain ⟨hv3, hr3⟩ := wo_stored hS2.vbox hS2.rbox (.int .i64 0) (.int .i64 0) (.string ⟨#[]⟩) (.int .i64 ke)
  exact ⟨_, wo_final (w.heap.size + 1) _ rfl rfl _ 0 0 ke ⟨#[]⟩ hv3 hr3, HQ1.out _ (wo_below hS2.below (by omega) _ _ _ _)⟩
end Go.Proofs.YtopolnbffmljaaaDoor.Q
namespace Go.Proofs.YtopolnbffmljaaaDoor.Q
theorem flat6 : ∀ (css : List (List Value)), (∀ c ∈ css, c.length = 6) → ∀ (j : Nat) (c : List Value) (i : Nat), css[j]? = some c → i < 6 → css.flatten[j * 6 + i]? = c[i]?
 | [], _, j, c, i, h, _ => by simp at h
 | c0 :: css, hl, 0, c, i, h, hi => by
  obtain rfl : c0 = c := Option.some.inj h
  have h0 := hl c0 List.mem_cons_self
  rw [List.flatten_cons, List.getElem?_append_left (by omega)]
  congr 1
  omega
 | c0 :: css, hl, j + 1, c, i, h, hi => by
  have h0 := hl c0 List.mem_cons_self
  rw [List.flatten_cons, List.getElem?_append_right (by omega)]
  have := flat6 css (fun q hq => hl q (List.mem_cons_of_mem _ hq)) j c i (by simpa using h) hi
  rw [← this]
  congr 1
  omega
theorem C_laid (w : World) (g : Nat) (t : TypeId) (fz : Nat × Nat) (ks : List Ex) (css : List (List Value)) (hlen : css.length = ks.length) (hm : ks.length ≤ 9223372036854775807)
  (hK : ∀ (j : Nat) (k : Ex) (c : List Value), ks[j]? = some k → css[j]? = some c → k26.K w k c) (hb : w.heap[g]? = some (.cells css.flatten.toArray t fz)) : Kd.C k26 w (some ⟨g, 0, none⟩) ks.length ks := by
 have hl6 : ∀ c ∈ css, c.length = 6 := by
  intro c hc
  obtain ⟨j, hj, rfl⟩ := List.getElem_of_mem hc
  have := hK j _ _ (List.getElem?_eq_getElem (by omega : j < ks.length)) (List.getElem?_eq_getElem hj)
  exact k26.K_len this
 refine ⟨rfl, hm, fun _ => ⟨⟨g, 0, none⟩, rfl, fun j p hj => ?_⟩⟩
 have hjl : j < css.length := by rw [hlen]; exact (List.getElem?_eq_some_iff.1 hj).1
 have hc := List.getElem?_eq_getElem hjl
 refine ⟨css[j], hl6 _ (List.getElem_mem hjl), hK j p _ hj hc, fun i u hu => ?_⟩
 have hi : i < 6 := by
  have h6 := hl6 _ (List.getElem_mem hjl)
  have := (List.getElem?_eq_some_iff.1 hu).1
  omega
 rw [add_plain]
 refine (cell_of_row w g _ _ t fz hb).trans ?_
 rw [List.getElem?_toArray]
 exact (flat6 css hl6 j _ i hc hi).trans hu
def exC (x : Ex) (A : Option Addr) (c : Nat) : List Value := [.int .i64 x.f0, .string x.f1, .int .i64 x.f2.f0, .int .i64 x.f2.f1, .string x.f2.f2, .slice A x.f3.length c]
theorem C_none (w : World) : Kd.C k26 w none ([] : List Ex).length [] := ⟨rfl, by decide, fun h => absurd h (by decide)⟩
theorem K_leaf (w : World) (x : Ex) (h : x.f3 = []) : k26.K w x (exC x none 0) := by
 have := k26_mk w x (A5 := none) (c5 := 0) (by rw [h]; exact Nat.le_refl _) (by rw [h]; exact C_none w)
 exact this
theorem K_node (w : World) (x : Ex) (A : Option Addr) (c : Nat) (hl : x.f3.length ≤ c) (hC : Kd.C k26 w A x.f3.length x.f3) : k26.K w x (exC x A c) := k26_mk w x hl hC
def oneE (n : Int) : Ex := ⟨2, ⟨#[]⟩, ⟨1, n, ⟨#[]⟩⟩, []⟩
theorem C_two (w : World) (g : Nat) (t : TypeId) (fz : Nat × Nat) (x y : Ex) (a b : List Value) (hx : k26.K w x a) (hy : k26.K w y b) (hb : w.heap[g]? = some (.cells (a ++ b).toArray t fz)) : Kd.C k26 w (some ⟨g, 0, none⟩) [x, y].length [x, y] := by
 refine C_laid w g t fz [x, y] [a, b] rfl (by simp) (fun j k c hk hc => ?_) (by simpa using hb)
 match j, hk, hc with
 | 0, hk, hc => obtain rfl := Option.some.inj hk; obtain rfl := Option.some.inj hc; exact hx
 | 1, hk, hc => obtain rfl := Option.some.inj hk; obtain rfl := Option.some.inj hc; exact hy
theorem C_three (w : World) (g : Nat) (t : TypeId) (fz : Nat × Nat) (x y z : Ex) (a b c : List Value) (hx : k26.K w x a) (hy : k26.K w y b) (hz : k26.K w z c) (hb : w.heap[g]? = some (.cells (a ++ (b ++ c)).toArray t fz)) : Kd.C k26 w (some ⟨g, 0, none⟩) [x, y, z].length [x, y, z] := by
 refine C_laid w g t fz [x, y, z] [a, b, c] rfl (by simp) (fun j k d hk hc => ?_) (by simpa using hb)
 match j, hk, hc with
 | 0, hk, hc => obtain rfl := Option.some.inj hk; obtain rfl := Option.some.inj hc; exact hx
 | 1, hk, hc => obtain rfl := Option.some.inj hk; obtain rfl := Option.some.inj hc; exact hy
 | 2, hk, hc => obtain rfl := Option.some.inj hk; obtain rfl := Option.some.inj hc; exact hz
set_option maxHeartbeats 4000000 in
set_option maxRecDepth 100000 in
theorem one_calls (n : Int) (w : World) :
  Calls Tryd.prog 29 #[.int .i64 n] w fun e w' => e = .returned (.agg #[.int .i64 2, .string ⟨#[]⟩, .int .i64 1, .int .i64 n, .string ⟨#[]⟩, .slice none 0 0]) ∧ Below w.heap.size w w' := by
 have hu := Tryd.underlying26
 go_enter Tryd.func29, Tryd.ntmps29
 go_wp2
 refine bodyPost_ret (results_single rfl (.cell _ _ _ _ _ rfl (blk_new w _) hu rfl (by kernel_rfl) .nil)) rfl ⟨rfl, below_alloc (Below.refl _ _) _⟩
def divE : Ex := ⟨7, ⟨#[]⟩, ⟨0, 0, ⟨#[]⟩⟩, [oneE 1, oneE 0]⟩
def noE : Ex := ⟨2, ⟨#[]⟩, ⟨2, 0, ⟨#[]⟩⟩, []⟩
def ifE : Ex := ⟨18, ⟨#[]⟩, ⟨0, 0, ⟨#[]⟩⟩, [noE, divE, oneE 2]⟩
def nulE : Ex := ⟨3, ⟨#[98, 111, 111, 108]⟩, ⟨0, 0, ⟨#[]⟩⟩, []⟩
def andE : Ex := ⟨14, ⟨#[]⟩, ⟨0, 0, ⟨#[]⟩⟩, [nulE, noE]⟩
def colsX : List Co := [⟨⟨#[97]⟩, 1⟩]
theorem w_div : worthX colsX [nullV] divE = (nullV, 11) := by kernel_rfl
theorem w_if : worthX colsX [nullV] ifE = (intV 2, 0) := by kernel_rfl
theorem w_and : worthX colsX [nullV] andE = (boolV false, 0) := by kernel_rfl
theorem g_div : goodE divE = true := by kernel_rfl
theorem g_if : goodE ifE = true := by kernel_rfl
theorem g_and : goodE andE = true := by kernel_rfl
theorem cols_laid (w : World) (g : Nat) (h : w.heap[g]? = some (.cells #[.string ⟨#[97]⟩, .int .i64 1] 58 (0, 0))) : Kd.C k58 w (some ⟨g, 0, none⟩) colsX.length colsX := by
 refine ⟨rfl, by decide, fun _ => ⟨⟨g, 0, none⟩, rfl, fun j p hj => ?_⟩⟩
 match j, hj with
 | 0, hj =>
  obtain rfl : (⟨⟨#[97]⟩, 1⟩ : Co) = p := Option.some.inj hj
  refine ⟨[.string ⟨#[97]⟩, .int .i64 1], rfl, k58_mk w ⟨⟨#[97]⟩, 1⟩, fun i u hu => ?_⟩
  rw [add_plain]
  refine (blk_cell h _).trans ?_
  match i, hu with
  | 0, hu => exact hu
  | 1, hu => exact hu
theorem row_laid (w : World) (g : Nat) (h : w.heap[g]? = some (.cells #[.int .i64 0, .int .i64 0, .string ⟨#[]⟩] 23 (0, 0))) : Kd.C k23 w (some ⟨g, 0, none⟩) [nullV].length [nullV] := by
 refine ⟨rfl, by decide, fun _ => ⟨⟨g, 0, none⟩, rfl, fun j p hj => ?_⟩⟩
 match j, hj with
 | 0, hj =>
  obtain rfl : nullV = p := Option.some.inj hj
  refine ⟨[.int .i64 0, .int .i64 0, .string ⟨#[]⟩], rfl, k23_mk w nullV, fun i u hu => ?_⟩
  rw [add_plain]
  refine (blk_cell h _).trans ?_
  match i, hu with
  | 0, hu => exact hu
  | 1, hu => exact hu
  | 2, hu => exact hu
theorem worth_at (x : Ex) (hgd : goodE x = true) (r : Wo) (hr : worthX colsX [nullV] x = r) (A : Option Addr) (c : Nat) (hl : x.f3.length ≤ c) (g h : Nat) (w : World) (hG : GlobE w) (hC : Kd.C k26 w A x.f3.length x.f3)
  (hc : w.heap[g]? = some (.cells #[.string ⟨#[97]⟩, .int .i64 1] 58 (0, 0))) (hv : w.heap[h]? = some (.cells #[.int .i64 0, .int .i64 0, .string ⟨#[]⟩] 23 (0, 0))) :
  Calls Tryd.prog 14 #[.agg #[.int .i64 x.f0, .string x.f1, .int .i64 x.f2.f0, .int .i64 x.f2.f1, .string x.f2.f2, .slice A x.f3.length c], .slice (some ⟨g, 0, none⟩) 1 1, .slice (some ⟨h, 0, none⟩) 1 1] w
   fun e w' => e = .returned (.tuple #[.agg #[.int .i64 r.1.f0, .int .i64 r.1.f1, .string r.1.f2], .int .i64 r.2]) ∧ Below w.heap.size w w' := by
 subst hr
 exact Worth_calls x hgd A c hl (some ⟨g, 0, none⟩) 1 colsX (by decide) (by decide) (by decide) (some ⟨h, 0, none⟩) 1 [nullV] (by decide) (by decide) w hG hC (cols_laid w g hc) (row_laid w h hv)
end Go.Proofs.YtopolnbffmljaaaDoor.Q
namespace Go.Proofs.YtopolnbffmljaaaDoor.Q
structure OfS (cs : Array Value) (pre : List Int) (w W : World) : Prop where
 below : Below w.heap.size w W
 box : W.heap[w.heap.size]? = some (.cells cs 26 (0, 0))
 arr : W.heap[w.heap.size + 1]? = some (.cells (arrK pre) 3 (0, 0))
theorem OfS.new (cs : Array Value) (w : World) : OfS cs [] w ((w.alloc (.cells cs 26)).alloc (.cells (arrK []) 3)) := by
 refine ⟨below_alloc (below_alloc (Below.refl _ _) _) _, blk_alloc (blk_new w _) _, ?_⟩
 have := blk_new (w.alloc (.cells cs 26)) (.cells (arrK []) 3)
 rwa [World.size_alloc] at this
theorem OfS.step {cs : Array Value} {pre : List Int} {w W W' : World} (h : OfS cs pre w W) (hb : Below W.heap.size W W') : OfS cs pre w W' := ⟨below_step h.below hb, blk_below h.box hb, blk_below h.arr hb⟩
theorem OfS.put {cs : Array Value} {pre : List Int} {w W : World} (h : OfS cs pre w W) (k : Int) (hl : pre.length < 3) : OfS cs (pre ++ [k]) w (W.setCell ⟨w.heap.size + 1, pre.length, none⟩ (.int .i64 k)) :=
 ⟨below_set h.below (Nat.le_succ _), (Below.heap_setCell _ _ _ _ (by show w.heap.size ≠ w.heap.size + 1; omega)).trans h.box, blk_put h.arr pre.length _ (arrK_set pre k hl)⟩
theorem OfS.cells {x0 x1 x2 x3 x4 x5 : Value} {pre : List Int} {w W : World} (h : OfS #[x0, x1, x2, x3, x4, x5] pre w W) : W.cell? ⟨w.heap.size, 0, none⟩ = some x0 ∧ W.cell? ⟨w.heap.size, 1, none⟩ = some x1 ∧ W.cell? ⟨w.heap.size, 2, none⟩ = some x2 ∧ W.cell? ⟨w.heap.size, 5, none⟩ = some x5 :=
 ⟨(blk_cell h.box 0).trans rfl, (blk_cell h.box 1).trans rfl, (blk_cell h.box 2).trans rfl, (blk_cell h.box 5).trans rfl⟩
theorem OfS.at {cs : Array Value} {pre : List Int} {w W : World} (h : OfS cs pre w W) (i : Nat) (hi : i < 3) : W.cell? ⟨w.heap.size + 1, i, none⟩ = some (.int .i64 (pre.getD i 0)) ∧ W.frozen? ⟨w.heap.size + 1, i, none⟩ = false ∧ w.heap.size + 1 < W.heap.size :=
 ⟨(blk_cell h.arr i).trans (arrK_get pre i hi), blk_frozen h.arr i, blk_lt h.arr⟩
theorem form_word {nm : ByteArray} {v : Va} {n : Nat} (h : formE 3 nm v n = true) : headgateref13_word.f nm = some (wordI nm) := by
 rw [refWord_eq]
 unfold formE at h
 rw [if_neg (by decide)] at h
 split at h
 ·cases h
 ·rw [if_neg (by decide), if_neg (by decide), if_pos rfl] at h
  simp only [Bool.and_eq_true, decide_eq_true_eq] at h
  by_cases h0 : 0 < wordI nm
  ·rw [if_pos h0]
  ·exfalso
   have h1 : wordI nm = 0 := by omega
   refine h.1 ?_
   unfold wordI at h1
   by_cases e : nm = ⟨#[]⟩
   ·exact e
   ·rw [if_neg e] at h1
    repeat' split at h1
    all_goals omega
set_option maxHeartbeats 16000000 in
set_option maxRecDepth 100000 in
theorem refOf_calls (B : Option Addr) (c2 : Nat) (l : List Co) (hL : l.length ≤ 140737488355328) (hc2 : l.length ≤ c2) : ∀ x : Ex, allE x = true → ∀ (A : Option Addr) (c : Nat) (w : World), x.f3.length ≤ c → Kd.C k26 w A x.f3.length x.f3 → Kd.C k58 w B l.length l →
  Calls Tryd.prog 34 #[.agg #[.int .i64 x.f0, .string x.f1, .int .i64 x.f2.f0, .int .i64 x.f2.f1, .string x.f2.f2, .slice A x.f3.length c], .slice B l.length c2] w fun e w' => e = .returned (.tuple #[.int .i64 (kindE l x).1, .int .i64 (kindE l x).2]) ∧ Below w.heap.size w w' := by
 refine Ex.ind fun x ih hall A c w hl hC hD => ?_
 have hfm := allE_form hall
 have hform := form_len hfm
 have hkd : ∀ k ∈ x.f3, allE k = true := fun k hk => allE_kid hall hk
 obtain ⟨op, nm, v, ks⟩ := x
 simp only at ih hfm hform hkd hl hC ⊢
 rw [kindE]
 have hkid : ∀ i : Nat, i < ks.length → ∃ ad A5 c5, A = some ad ∧ (∀ W, Below w.heap.size w W → W.cell? (ad.add (i * 6)) = some (.int .i64 (rd_T26 ks i).f0) ∧ W.cell? ⟨(ad.add (i * 6)).block, (ad.add (i * 6)).off + 1, none⟩ = some (.string (rd_T26 ks i).f1) ∧ W.cell? ⟨(ad.add (i * 6)).block, (ad.add (i * 6)).off + 2, none⟩ = some (.int .i64 (rd_T26 ks i).f2.f0) ∧ W.cell? ⟨(ad.add (i * 6)).block, (ad.add (i * 6)).off + 3, none⟩ = some (.int .i64 (rd_T26 ks i).f2.f1) ∧ W.cell? ⟨(ad.add (i * 6)).block, (ad.add (i * 6)).off + 4, none⟩ = some (.string (rd_T26 ks i).f2.f2) ∧ W.cell? ⟨(ad.add (i * 6)).block, (ad.add (i * 6)).off + 5, none⟩ = some (.slice A5 (rd_T26 ks i).f3.length c5)) ∧
   ∀ W, Below w.heap.size w W → Calls Tryd.prog 34 #[.agg #[.int .i64 (rd_T26 ks i).f0, .string (rd_T26 ks i).f1, .int .i64 (rd_T26 ks i).f2.f0, .int .i64 (rd_T26 ks i).f2.f1, .string (rd_T26 ks i).f2.f2, .slice A5 (rd_T26 ks i).f3.length c5], .slice B l.length c2] W fun e w' => e = .returned (.tuple #[.int .i64 (kindE l (rd_T26 ks i)).1, .int .i64 (kindE l (rd_T26 ks i)).2]) ∧ Below W.heap.size W w' := by
  intro i hi
  obtain ⟨ad, A5, c5, e, x0, x1, x2, x3, x4, x5, hl5, hi5⟩ := at_T26 hC (i : Int) (by omega) (by omega)
  simp only [Int.toNat_natCast] at x0 x1 x2 x3 x4 x5
  have hm : rd_T26 ks (i : Int) ∈ ks := by
   show ks.getD _ _ ∈ ks
   rw [Int.toNat_natCast, List.getD_eq_getElem?_getD, List.getElem?_eq_getElem hi]
   exact List.getElem_mem hi
  exact ⟨ad, A5, c5, e, fun W hW => ⟨pw_cell_below hW x0, pw_cell_below hW x1, pw_cell_below hW x2, pw_cell_below hW x3, pw_cell_below hW x4, pw_cell_below hW x5⟩, fun W hW => ih _ hm (hkd _ hm) A5 c5 W hl5 (Kd.C_below hi5 hW) (Kd.C_below hD hW)⟩
 obtain ⟨RL, hRL⟩ : ∃ RL, (kindL l ks).1 = RL := ⟨_, rfl⟩
 obtain ⟨RE, hRE⟩ : ∃ RE, (kindL l ks).2 = RE := ⟨_, rfl⟩
 rw [hRL, hRE]
 obtain ⟨Q, hQ⟩ : ∃ Q : Ending → World → Prop, Q = fun e w' => e = .returned (.tuple #[.int .i64 (if RE ≠ 0 then (0, RE) else kindO l op nm v (RL.getD 0 0) (RL.getD 1 0) (RL.getD 2 0)).1, .int .i64 (if RE ≠ 0 then (0, RE) else kindO l op nm v (RL.getD 0 0) (RL.getD 1 0) (RL.getD 2 0)).2]) ∧ Below w.heap.size w w' := ⟨_, rfl⟩
 have hqe : RE ≠ 0 → ∀ w', Below w.heap.size w w' → Q (.returned (.tuple #[.int .i64 0, .int .i64 RE])) w' := fun h w' a => by rw [hQ, if_pos h]; exact ⟨rfl, a⟩
 have hqo : RE = 0 → ∀ r : Int × Int, kindO l op nm v (RL.getD 0 0) (RL.getD 1 0) (RL.getD 2 0) = r → ∀ w', Below w.heap.size w w' → Q (.returned (.tuple #[.int .i64 r.1, .int .i64 r.2])) w' := fun h r hr w' a => by rw [hQ, if_neg (by omega), hr]; exact ⟨rfl, a⟩
 show Calls Tryd.prog 34 _ w (fun e w' => e = .returned (.tuple #[.int .i64 (if RE ≠ 0 then (0, RE) else kindO l op nm v (RL.getD 0 0) (RL.getD 1 0) (RL.getD 2 0)).1, .int .i64 (if RE ≠ 0 then (0, RE) else kindO l op nm v (RL.getD 0 0) (RL.getD 1 0) (RL.getD 2 0)).2]) ∧ Below w.heap.size w w')
 rw [← hQ]
 have HQE := Aside0.mk hqe
 have HQO := Aside0.mk hqo
 have HKid := Aside0.mk hkid
 have HD := Aside0.mk hD
 have HRL := Aside0.mk (show [] ++ (kindL l (ks.drop 0)).1 = RL from hRL)
 have HRE := Aside0.mk (show (kindL l (ks.drop 0)).2 = RE from hRE)
 have HF := Aside0.mk hform
 have HW3 := Aside0.mk (show op = 3 → headgateref13_word.f nm = some (wordI nm) from fun h => form_word (h ▸ hfm))
 have HL := Aside0.mk (And.intro hL hc2)
 have hn : ks.length ≤ 9223372036854775807 := hC.2.1
 clear ih hC hl hkid hQ hqe hqo hRL hRE hform hkd hall hD hL hc2 hfm
 have HS0 := Aside0.mk (OfS.new #[.int .i64 op, .string nm, .int .i64 v.f0, .int .i64 v.f1, .string v.f2, .slice A ks.length c] w)
 go_enter Tryd.func34, Tryd.ntmps34
 go_upto_region 2 with (fail)
 have HS0 := Aside0.mk (show OfS #[.int .i64 op, .string nm, .int .i64 v.f0, .int .i64 v.f1, .string v.f2, .slice A ks.length c] [] w ((w.alloc (.cells #[.int .i64 op, .string nm, .int .i64 v.f0, .int .i64 v.f1, .string v.f2, .slice A ks.length c] 26)).alloc (.cells #[.int .i64 0, .int .i64 0, .int .i64 0] 3)) from HS0.out)
 generalize (w.alloc (.cells #[.int .i64 op, .string nm, .int .i64 v.f0, .int .i64 v.f1, .string v.f2, .slice A ks.length c] 26)).alloc (.cells #[.int .i64 0, .int .i64 0, .int .i64 0] 3) = W0 at HS0 ⊢
 go_wp2_with fail
 go_loopg [7] (ks.length) (fun kq v7 wr => ∃ (i : Nat) (pre : List Int), v7 = .int .i64 i ∧ Aside0 (i + kq = ks.length ∧ pre.length = i) ∧ Aside0 (OfS #[.int .i64 op, .string nm, .int .i64 v.f0, .int .i64 v.f1, .string v.f2, .slice A ks.length c] pre w wr) ∧ Aside0 ((kindL l (ks.drop i)).2 = RE) ∧ Aside0 (pre ++ (kindL l (ks.drop i)).1 = RL))
 case atStart => exact ⟨0, [], rfl, ⟨by omega, rfl⟩, HS0, HRE, HRL⟩
 case round =>
  clear HRE HRL HS0
  obtain ⟨i, pre, rfl, HI, HB, HE, HR⟩ := hrel
  obtain ⟨r0, r1, r2, r5⟩ := HB.out.cells
  cases gk with
  | succ k1 =>
   clear r0 r1 r2
   have hi : i < ks.length := by have := HI.out; omega
   have hlb : decide (i < ks.length) = true := decide_eq_true hi
   have hi3 : i < 3 := by have := HF.out; omega
   obtain ⟨ad, A5, c5, rfl, hkc, hc⟩ := HKid.out i hi
   have hcw := hc wr HB.out.below
   obtain ⟨x0, x1, x2, x3, x4, x5⟩ := hkc wr HB.out.below
   have hE := HE.out
   have hR := HR.out
   have hdr : ks.drop i = rd_T26 ks (i : Int) :: ks.drop (i + 1) := by
    show _ = ks.getD _ _ :: _
    rw [Int.toNat_natCast, List.getD_eq_getElem?_getD, List.getElem?_eq_getElem hi]
    exact List.drop_eq_getElem_cons hi
   rw [hdr, kindL] at hE hR
   clear hdr hkc hc
   generalize rd_T26 ks (i : Int) = q at hcw hE hR x0 x1 x2 x3 x4 x5
   generalize kindE l q = KE at hcw hE hR
   obtain ⟨k0, e0⟩ := KE
   simp only at hcw hE hR
   have hin : (i < ks.length) = True := eq_true hi
   have hcell : ∀ w2 : World, OfS #[.int .i64 op, .string nm, .int .i64 v.f0, .int .i64 v.f1, .string v.f2, .slice (some ad) ks.length c] pre w w2 → w2.cell? ⟨w.heap.size + 1, i, none⟩ = some (.int .i64 (pre.getD i 0)) ∧ w2.frozen? ⟨w.heap.size + 1, i, none⟩ = false ∧ w.heap.size + 1 < w2.heap.size := fun w2 h => h.at i hi3
   have h3 : ((i : Int) < 3) = True := eq_true (by omega)
   have h3n : (i < 3) = True := eq_true hi3
   by_cases he : e0 = 0
   ·rw [if_neg (show ¬ e0 ≠ 0 from fun h => h he)] at hE hR
    subst he
    have HE2 := Aside0.mk (show (kindL l (ks.drop (i + 1))).2 = RE from hE)
    have HR2 := Aside0.mk (show (pre ++ [k0]) ++ (kindL l (ks.drop (i + 1))).1 = RL by rw [List.append_assoc]; exact hR)
    clear hE hR
    go_wp2_with (go_at_call 34; refine hcw.mono ?_; rintro e w2 ⟨rfl, hb2⟩; have HB2 := Aside0.mk (HB.out.step hb2); obtain ⟨hcl, hfr, hlt⟩ := hcell w2 HB2.out; clear hb2 r5 x0 x1 x2 x3 x4 x5)
    have HB3 := Aside0.mk (show OfS #[.int .i64 op, .string nm, .int .i64 v.f0, .int .i64 v.f1, .string v.f2, .slice (some ad) ks.length c] (pre ++ [k0]) w (w2.setCell ⟨w.heap.size + 1, i, none⟩ (.int .i64 k0)) from by
     have h := HB2.out.put k0 (by have := HI.out; omega)
     rw [HI.out.2] at h
     exact h)
    go_roundg k1
    case measure => omega
    case rel => exact ⟨i + 1, pre ++ [k0], by first | rfl | congr 1, ⟨by have := HI.out; omega, by rw [List.length_append, HI.out.2]; rfl⟩, HB3, HE2, HR2⟩
   ·rw [if_pos he] at hE
    have hE' : e0 = RE := hE
    clear hE hR
    have hne : (e0 != 0) = true := by simpa using he
    have HN := Aside0.mk (show RE ≠ 0 from hE' ▸ he)
    subst hE'
    clear he
    go_wp2_with (go_at_call 34; refine hcw.mono ?_; rintro e w2 ⟨rfl, hb2⟩; have HB2 := Aside0.mk (HB.out.step hb2); clear hb2 r5 x0 x1 x2 x3 x4 x5)
    first | exact HQE.out HN.out _ HB2.out.below | (go_ret2; exact HQE.out HN.out _ HB2.out.below)
  | zero =>
   have hlb : decide (i < ks.length) = false := decide_eq_false (by have := HI.out; omega)
   have hE := HE.out
   have hR := HR.out
   rw [List.drop_eq_nil_of_le (by have := HI.out; omega), kindL] at hE hR
   have hE' : RE = 0 := hE.symm
   have hR' : RL = pre := hR.symm.trans (List.append_nil pre)
   clear hE hR HE HR
   have HO := Aside0.mk (HQO.out hE')
   clear HQO HQE
   subst hE' hR'
   have s0 := (HB.out.at 0 (by decide)).1
   have s1 := (HB.out.at 1 (by decide)).1
   have s2 := (HB.out.at 2 (by decide)).1
   have HBe := Aside0.mk HB.out.below
   clear HB
   generalize RL.getD 0 0 = a at s0 HO
   generalize RL.getD 1 0 = b at s1 HO
   generalize RL.getD 2 0 = d at s2 HO
   have hop : op = 1 ∨ op = 2 ∨ op = 3 ∨ op = 4 ∨ op = 5 ∨ op = 6 ∨ op = 7 ∨ op = 8 ∨ op = 9 ∨ op = 10 ∨ op = 11 ∨ op = 12 ∨ op = 13 ∨ op = 14 ∨ op = 15 ∨ op = 16 ∨ op = 17 ∨ op = 18 ∨ op = 19 ∨ op = 20 := by have := HF.out; omega
   clear hn
   rcases hop with rfl | rfl | rfl | rfl | rfl | rfl | rfl | rfl | rfl | rfl | rfl | rfl | rfl | rfl | rfl | rfl | rfl | rfl | rfl | rfl
   ·obtain ⟨z, hz⟩ : ∃ z, findN nm l 0 = z := ⟨_, rfl⟩
    have hzr := findN_le nm l 0 (by omega)
    obtain ⟨K, hK⟩ := (refFind_ev l nm HL.out.1).get
    rw [hz] at hK
    have hcf := headgateref12_Find.calls K B c2 l nm z wr (Kd.C_below HD.out HBe.out) HL.out.2 hK
    clear hK
    by_cases hz0 : z < 0
    ·have HK := Aside0.mk (HO.out (0, 132) (by simp [kindO, hz, hz0]))
     have z1 : decide (z < 0) = true := decide_eq_true hz0
     clear HO hzr hz hz0
     go_wp2_with (go_at_call 49; refine hcf.mono ?_; rintro e w2 ⟨rfl, hb2⟩; have HB2 := Aside0.mk (below_step HBe.out hb2.below); clear hb2)
     first | exact HK.out _ HB2.out | (go_ret2; exact HK.out _ HB2.out)
    ·have HK := Aside0.mk (HO.out ((rd_T58 l z).f1, 0) (by simp [kindO, hz, hz0]))
     have z1 : decide (z < 0) = false := decide_eq_false hz0
     have hzl : z < (l.length : Int) := by omega
     have hz00 : 0 ≤ z := by omega
     clear HO hzr hz hz0
     go_wp2_with (go_at_call 49; refine hcf.mono ?_; rintro e w2 ⟨rfl, hb2⟩; have HB2 := Aside0.mk (below_step HBe.out hb2.below); have hat := at_T58 (Kd.C_below HD.out HB2.out) z hz00 hzl; obtain ⟨adc, rfl, q0, q1⟩ := hat; clear hb2)
     first | exact HK.out _ HB2.out | (go_ret2; exact HK.out _ HB2.out)
   ·have HK := Aside0.mk (HO.out (v.f0, 0) (by simp [kindO]))
    clear HO
    go_wp2_with fail
    first | exact HK.out _ HBe.out | (go_ret2; exact HK.out _ HBe.out)
   ·have HK := Aside0.mk (HO.out (wordI nm, 0) (by simp [kindO]))
    have hw := HW3.out rfl
    clear HO
    go_wp2_with (go_at_call 55; refine (headgateref13_word.calls nm _ _ hw).mono ?_; rintro e w1 ⟨rfl, hb⟩; have HB2 := Aside0.mk (below_step HBe.out hb.below); clear hb)
    first | exact HK.out _ HB2.out | (go_ret2; exact HK.out _ HB2.out)
   ·by_cases e1 : a = 1
    ·have e1b : (a == 1) = true := by simpa using e1
     by_cases e2 : b = 1
     ·have e2b : (b == 1) = true := by simpa using e2
      have HK := Aside0.mk (HO.out (1, 0) (by simp [kindO, e1, e2]))
      clear HO e1 e2
      go_wp2_with fail
      first | exact HK.out _ HBe.out | (go_ret2; exact HK.out _ HBe.out)
     ·have e2b : (b == 1) = false := by simpa using e2
      have HK := Aside0.mk (HO.out (0, 133) (by simp [kindO, e1, e2]))
      clear HO e1 e2
      go_wp2_with fail
      first | exact HK.out _ HBe.out | (go_ret2; exact HK.out _ HBe.out)
    ·have e1b : (a == 1) = false := by simpa using e1
     have HK := Aside0.mk (HO.out (0, 133) (by simp [kindO, e1]))
     clear HO e1
     go_wp2_with fail
     first | exact HK.out _ HBe.out | (go_ret2; exact HK.out _ HBe.out)
   ·by_cases e1 : a = 1
    ·have e1b : (a == 1) = true := by simpa using e1
     by_cases e2 : b = 1
     ·have e2b : (b == 1) = true := by simpa using e2
      have HK := Aside0.mk (HO.out (1, 0) (by simp [kindO, e1, e2]))
      clear HO e1 e2
      go_wp2_with fail
      first | exact HK.out _ HBe.out | (go_ret2; exact HK.out _ HBe.out)
     ·have e2b : (b == 1) = false := by simpa using e2
      have HK := Aside0.mk (HO.out (0, 133) (by simp [kindO, e1, e2]))
      clear HO e1 e2
      go_wp2_with fail
      first | exact HK.out _ HBe.out | (go_ret2; exact HK.out _ HBe.out)
    ·have e1b : (a == 1) = false := by simpa using e1
     have HK := Aside0.mk (HO.out (0, 133) (by simp [kindO, e1]))
     clear HO e1
     go_wp2_with fail
     first | exact HK.out _ HBe.out | (go_ret2; exact HK.out _ HBe.out)
   ·by_cases e1 : a = 1
    ·have e1b : (a == 1) = true := by simpa using e1
     by_cases e2 : b = 1
     ·have e2b : (b == 1) = true := by simpa using e2
      have HK := Aside0.mk (HO.out (1, 0) (by simp [kindO, e1, e2]))
      clear HO e1 e2
      go_wp2_with fail
      first | exact HK.out _ HBe.out | (go_ret2; exact HK.out _ HBe.out)
     ·have e2b : (b == 1) = false := by simpa using e2
      have HK := Aside0.mk (HO.out (0, 133) (by simp [kindO, e1, e2]))
      clear HO e1 e2
      go_wp2_with fail
      first | exact HK.out _ HBe.out | (go_ret2; exact HK.out _ HBe.out)
    ·have e1b : (a == 1) = false := by simpa using e1
     have HK := Aside0.mk (HO.out (0, 133) (by simp [kindO, e1]))
     clear HO e1
     go_wp2_with fail
     first | exact HK.out _ HBe.out | (go_ret2; exact HK.out _ HBe.out)
   ·by_cases e1 : a = 1
    ·have e1b : (a == 1) = true := by simpa using e1
     by_cases e2 : b = 1
     ·have e2b : (b == 1) = true := by simpa using e2
      have HK := Aside0.mk (HO.out (1, 0) (by simp [kindO, e1, e2]))
      clear HO e1 e2
      go_wp2_with fail
      first | exact HK.out _ HBe.out | (go_ret2; exact HK.out _ HBe.out)
     ·have e2b : (b == 1) = false := by simpa using e2
      have HK := Aside0.mk (HO.out (0, 133) (by simp [kindO, e1, e2]))
      clear HO e1 e2
      go_wp2_with fail
      first | exact HK.out _ HBe.out | (go_ret2; exact HK.out _ HBe.out)
    ·have e1b : (a == 1) = false := by simpa using e1
     have HK := Aside0.mk (HO.out (0, 133) (by simp [kindO, e1]))
     clear HO e1
     go_wp2_with fail
     first | exact HK.out _ HBe.out | (go_ret2; exact HK.out _ HBe.out)
   ·by_cases e1 : a = 1
    ·have e1b : (a == 1) = true := by simpa using e1
     by_cases e2 : b = 1
     ·have e2b : (b == 1) = true := by simpa using e2
      have HK := Aside0.mk (HO.out (1, 0) (by simp [kindO, e1, e2]))
      clear HO e1 e2
      go_wp2_with fail
      first | exact HK.out _ HBe.out | (go_ret2; exact HK.out _ HBe.out)
     ·have e2b : (b == 1) = false := by simpa using e2
      have HK := Aside0.mk (HO.out (0, 133) (by simp [kindO, e1, e2]))
      clear HO e1 e2
      go_wp2_with fail
      first | exact HK.out _ HBe.out | (go_ret2; exact HK.out _ HBe.out)
    ·have e1b : (a == 1) = false := by simpa using e1
     have HK := Aside0.mk (HO.out (0, 133) (by simp [kindO, e1]))
     clear HO e1
     go_wp2_with fail
     first | exact HK.out _ HBe.out | (go_ret2; exact HK.out _ HBe.out)
   ·by_cases e1 : a = 1
    ·have e1b : (a == 1) = true := by simpa using e1
     have HK := Aside0.mk (HO.out (1, 0) (by simp [kindO, e1]))
     clear HO e1
     go_wp2_with fail
     first | exact HK.out _ HBe.out | (go_ret2; exact HK.out _ HBe.out)
    ·have e1b : (a == 1) = false := by simpa using e1
     have HK := Aside0.mk (HO.out (0, 133) (by simp [kindO, e1]))
     clear HO e1
     go_wp2_with fail
     first | exact HK.out _ HBe.out | (go_ret2; exact HK.out _ HBe.out)
   ·by_cases e1 : a = b
    ·have e1b : (a == b) = true := by simpa using e1
     have HK := Aside0.mk (HO.out (2, 0) (by simp [kindO, e1]))
     clear HO e1
     go_wp2_with fail
     go_quiet (fail)
     go_wp2_with fail
     first | exact HK.out _ (pw_below_drewN HBe.out _) | (go_ret2; exact HK.out _ (pw_below_drewN HBe.out _))
    ·have e1b : (a == b) = false := by simpa using e1
     have HK := Aside0.mk (HO.out (0, 133) (by simp [kindO, e1]))
     clear HO e1
     go_wp2_with fail
     go_quiet (fail)
     go_wp2_with fail
     first | exact HK.out _ (pw_below_drewN HBe.out _) | (go_ret2; exact HK.out _ (pw_below_drewN HBe.out _))
   ·by_cases e1 : a = b
    ·have e1b : (a == b) = true := by simpa using e1
     have HK := Aside0.mk (HO.out (2, 0) (by simp [kindO, e1]))
     clear HO e1
     go_wp2_with fail
     go_quiet (fail)
     go_wp2_with fail
     first | exact HK.out _ (pw_below_drewN HBe.out _) | (go_ret2; exact HK.out _ (pw_below_drewN HBe.out _))
    ·have e1b : (a == b) = false := by simpa using e1
     have HK := Aside0.mk (HO.out (0, 133) (by simp [kindO, e1]))
     clear HO e1
     go_wp2_with fail
     go_quiet (fail)
     go_wp2_with fail
     first | exact HK.out _ (pw_below_drewN HBe.out _) | (go_ret2; exact HK.out _ (pw_below_drewN HBe.out _))
   ·by_cases e1 : a = b
    ·have e1b : (a == b) = true := by simpa using e1
     have HK := Aside0.mk (HO.out (2, 0) (by simp [kindO, e1]))
     clear HO e1
     go_wp2_with fail
     go_quiet (fail)
     go_wp2_with fail
     first | exact HK.out _ (pw_below_drewN HBe.out _) | (go_ret2; exact HK.out _ (pw_below_drewN HBe.out _))
    ·have e1b : (a == b) = false := by simpa using e1
     have HK := Aside0.mk (HO.out (0, 133) (by simp [kindO, e1]))
     clear HO e1
     go_wp2_with fail
     go_quiet (fail)
     go_wp2_with fail
     first | exact HK.out _ (pw_below_drewN HBe.out _) | (go_ret2; exact HK.out _ (pw_below_drewN HBe.out _))
   ·by_cases e1 : a = b
    ·have e1b : (a == b) = true := by simpa using e1
     have HK := Aside0.mk (HO.out (2, 0) (by simp [kindO, e1]))
     clear HO e1
     go_wp2_with fail
     go_quiet (fail)
     go_wp2_with fail
     first | exact HK.out _ (pw_below_drewN HBe.out _) | (go_ret2; exact HK.out _ (pw_below_drewN HBe.out _))
    ·have e1b : (a == b) = false := by simpa using e1
     have HK := Aside0.mk (HO.out (0, 133) (by simp [kindO, e1]))
     clear HO e1
     go_wp2_with fail
     go_quiet (fail)
     go_wp2_with fail
     first | exact HK.out _ (pw_below_drewN HBe.out _) | (go_ret2; exact HK.out _ (pw_below_drewN HBe.out _))
   ·by_cases e1 : a = 2
    ·have e1b : (a == 2) = true := by simpa using e1
     by_cases e2 : b = 2
     ·have e2b : (b == 2) = true := by simpa using e2
      have HK := Aside0.mk (HO.out (2, 0) (by simp [kindO, e1, e2]))
      clear HO e1 e2
      go_wp2_with fail
      first | exact HK.out _ HBe.out | (go_ret2; exact HK.out _ HBe.out)
     ·have e2b : (b == 2) = false := by simpa using e2
      have HK := Aside0.mk (HO.out (0, 133) (by simp [kindO, e1, e2]))
      clear HO e1 e2
      go_wp2_with fail
      first | exact HK.out _ HBe.out | (go_ret2; exact HK.out _ HBe.out)
    ·have e1b : (a == 2) = false := by simpa using e1
     have HK := Aside0.mk (HO.out (0, 133) (by simp [kindO, e1]))
     clear HO e1
     go_wp2_with fail
     first | exact HK.out _ HBe.out | (go_ret2; exact HK.out _ HBe.out)
   ·by_cases e1 : a = 2
    ·have e1b : (a == 2) = true := by simpa using e1
     by_cases e2 : b = 2
     ·have e2b : (b == 2) = true := by simpa using e2
      have HK := Aside0.mk (HO.out (2, 0) (by simp [kindO, e1, e2]))
      clear HO e1 e2
      go_wp2_with fail
      first | exact HK.out _ HBe.out | (go_ret2; exact HK.out _ HBe.out)
     ·have e2b : (b == 2) = false := by simpa using e2
      have HK := Aside0.mk (HO.out (0, 133) (by simp [kindO, e1, e2]))
      clear HO e1 e2
      go_wp2_with fail
      first | exact HK.out _ HBe.out | (go_ret2; exact HK.out _ HBe.out)
    ·have e1b : (a == 2) = false := by simpa using e1
     have HK := Aside0.mk (HO.out (0, 133) (by simp [kindO, e1]))
     clear HO e1
     go_wp2_with fail
     first | exact HK.out _ HBe.out | (go_ret2; exact HK.out _ HBe.out)
   ·by_cases e1 : a = 2
    ·have e1b : (a == 2) = true := by simpa using e1
     have HK := Aside0.mk (HO.out (2, 0) (by simp [kindO, e1]))
     clear HO e1
     go_wp2_with fail
     first | exact HK.out _ HBe.out | (go_ret2; exact HK.out _ HBe.out)
    ·have e1b : (a == 2) = false := by simpa using e1
     have HK := Aside0.mk (HO.out (0, 133) (by simp [kindO, e1]))
     clear HO e1
     go_wp2_with fail
     first | exact HK.out _ HBe.out | (go_ret2; exact HK.out _ HBe.out)
   ·have HK := Aside0.mk (HO.out (2, 0) (by simp [kindO]))
    clear HO
    go_wp2_with fail
    first | exact HK.out _ HBe.out | (go_ret2; exact HK.out _ HBe.out)
   ·by_cases e1 : a = 2
    ·have e1b : (a == 2) = true := by simpa using e1
     by_cases e2 : b = d
     ·have e2b : (b == d) = true := by simpa using e2
      have HK := Aside0.mk (HO.out (b, 0) (by simp [kindO, e1, e2]))
      clear HO e1 e2
      go_wp2_with fail
      go_quiet (fail)
      go_wp2_with fail
      first | exact HK.out _ (pw_below_drewN HBe.out _) | (go_ret2; exact HK.out _ (pw_below_drewN HBe.out _))
     ·have e2b : (b == d) = false := by simpa using e2
      have HK := Aside0.mk (HO.out (0, 133) (by simp [kindO, e1, e2]))
      clear HO e1 e2
      go_wp2_with fail
      go_quiet (fail)
      go_wp2_with fail
      first | exact HK.out _ (pw_below_drewN HBe.out _) | (go_ret2; exact HK.out _ (pw_below_drewN HBe.out _))
    ·have e1b : (a == 2) = false := by simpa using e1
     have HK := Aside0.mk (HO.out (0, 133) (by simp [kindO, e1]))
     clear HO e1
     go_wp2_with fail
     go_quiet (fail)
     go_wp2_with fail
     first | exact HK.out _ (pw_below_drewN HBe.out _) | (go_ret2; exact HK.out _ (pw_below_drewN HBe.out _))
   ·by_cases e1 : a = b
    ·have e1b : (a == b) = true := by simpa using e1
     have HK := Aside0.mk (HO.out (a, 0) (by simp [kindO, e1]))
     clear HO e1
     go_wp2_with fail
     go_quiet (fail)
     go_wp2_with fail
     first | exact HK.out _ (pw_below_drewN HBe.out _) | (go_ret2; exact HK.out _ (pw_below_drewN HBe.out _))
    ·have e1b : (a == b) = false := by simpa using e1
     have HK := Aside0.mk (HO.out (0, 133) (by simp [kindO, e1]))
     clear HO e1
     go_wp2_with fail
     go_quiet (fail)
     go_wp2_with fail
     first | exact HK.out _ (pw_below_drewN HBe.out _) | (go_ret2; exact HK.out _ (pw_below_drewN HBe.out _))
   ·by_cases e1 : a = 3
    ·have e1b : (a == 3) = true := by simpa using e1
     have HK := Aside0.mk (HO.out (1, 0) (by simp [kindO, e1]))
     clear HO e1
     go_wp2_with fail
     first | exact HK.out _ HBe.out | (go_ret2; exact HK.out _ HBe.out)
    ·have e1b : (a == 3) = false := by simpa using e1
     have HK := Aside0.mk (HO.out (0, 133) (by simp [kindO, e1]))
     clear HO e1
     go_wp2_with fail
     first | exact HK.out _ HBe.out | (go_ret2; exact HK.out _ HBe.out)
set_option maxHeartbeats 8000000 in
set_option maxRecDepth 100000 in
theorem refKind_calls (x : Ex) (hwf : wfE x) (hgd : goodE x = true) (hs : sizE x 0 0 = ((totE x : Int), (depE x : Int))) (A : Option Addr) (c : Nat) (hl : x.f3.length ≤ c) (B : Option Addr) (c2 : Nat) (l : List Co) (hL : l.length ≤ 140737488355328) (hns : ∀ c ∈ l, c.f0.size ≤ 140737488355328) (hc2 : l.length ≤ c2)
  (w : World) (hC : Kd.C k26 w A x.f3.length x.f3) (hD : Kd.C k58 w B l.length l) :
  Calls Tryd.prog 13 #[.agg #[.int .i64 x.f0, .string x.f1, .int .i64 x.f2.f0, .int .i64 x.f2.f1, .string x.f2.f2, .slice A x.f3.length c], .slice B l.length c2] w fun e w' => e = .returned (.tuple #[.int .i64 (kindX l x).1, .int .i64 (kindX l x).2]) ∧ Below w.heap.size w w' := by
 obtain ⟨K1, h1⟩ := (refRight_ev l hL hns).get
 obtain ⟨K2, h2⟩ := (refCheck_ev x hwf hgd hs).get
 have HRi := Aside0.mk (fun W (hW : Below w.heap.size w W) => headgateref12_Right.calls K1 B c2 l (rightS l) W (Kd.C_below hD hW) hc2 h1)
 have HCk := Aside0.mk (fun W (hW : Below w.heap.size w W) => headgateref13_Check.calls K2 x.f0 x.f1 x.f2.f0 x.f2.f1 x.f2.f2 A c x.f3 (chkE x) W (Kd.C_below hC hW) hl h2)
 have HOf := Aside0.mk (fun (ha : allE x = true) W (hW : Below w.heap.size w W) => refOf_calls B c2 l hL hc2 x ha A c W hl (Kd.C_below hC hW) (Kd.C_below hD hW))
 have hb := blk_new w (.cells #[.int .i64 x.f0, .string x.f1, .int .i64 x.f2.f0, .int .i64 x.f2.f1, .string x.f2.f2, .slice A x.f3.length c] 26)
 have HB := Aside0.mk (show Below w.heap.size w (w.alloc (.cells #[.int .i64 x.f0, .string x.f1, .int .i64 x.f2.f0, .int .i64 x.f2.f1, .string x.f2.f2, .slice A x.f3.length c] 26)) from below_alloc (Below.refl _ _) _)
 have HX := Aside0.mk hb
 clear h1 h2 hwf hs hC hD hb
 have box : ∀ W : World, W.heap[w.heap.size]? = some (.cells #[.int .i64 x.f0, .string x.f1, .int .i64 x.f2.f0, .int .i64 x.f2.f1, .string x.f2.f2, .slice A x.f3.length c] 26 (0, 0)) → W.cell? ⟨w.heap.size, 0, none⟩ = some (.int .i64 x.f0) ∧ W.cell? ⟨w.heap.size, 1, none⟩ = some (.string x.f1) ∧ W.cell? ⟨w.heap.size, 2, none⟩ = some (.int .i64 x.f2.f0) ∧ W.cell? ⟨w.heap.size, 3, none⟩ = some (.int .i64 x.f2.f1) ∧ W.cell? ⟨w.heap.size, 4, none⟩ = some (.string x.f2.f2) ∧ W.cell? ⟨w.heap.size, 5, none⟩ = some (.slice A x.f3.length c) := fun W h => ⟨(blk_cell h 0).trans rfl, (blk_cell h 1).trans rfl, (blk_cell h 2).trans rfl, (blk_cell h 3).trans rfl, (blk_cell h 4).trans rfl, (blk_cell h 5).trans rfl⟩
 have HBox := Aside0.mk box
 clear box
 cases hR : rightS l
 ·rw [hR] at HRi
  rw [show kindX l x = (0, 120) from by unfold kindX; rw [hR, if_pos rfl]]
  go_enter Tryd.func13, Tryd.ntmps13
  go_wp2_with (go_at_call 27; refine (HRi.out _ HB.out).mono ?_; rintro e w1 ⟨rfl, hb1⟩; have HB1 := Aside0.mk (below_step HB.out hb1.below); have HX1 := Aside0.mk (blk_below HX.out hb1.below); obtain ⟨m0, m1, m2, m3, m4, m5⟩ := HBox.out _ HX1.out; clear hb1)
  first | exact ⟨rfl, HB1.out⟩ | (go_ret2; exact ⟨rfl, HB1.out⟩)
 rw [hR] at HRi
 by_cases hc : chkE x = 0
 ·rw [show kindX l x = kindE l x from by unfold kindX; rw [hR, if_neg (by decide), if_neg (not_not_intro hc)]]
  rw [hc] at HCk
  have ha : allE x = true := by
   unfold chkE at hc
   split at hc
   ·cases hc
   ·split at hc
    ·cases hc
    ·rename_i h; simpa using h
  have HO := Aside0.mk (HOf.out ha)
  clear hc HOf hR ha
  go_enter Tryd.func13, Tryd.ntmps13
  go_wp2_with (first
   | (go_at_call 27; refine (HRi.out _ HB.out).mono ?_; rintro e w1 ⟨rfl, hb1⟩; have HB1 := Aside0.mk (below_step HB.out hb1.below); have HX1 := Aside0.mk (blk_below HX.out hb1.below); obtain ⟨m0, m1, m2, m3, m4, m5⟩ := HBox.out _ HX1.out; clear hb1)
   | (go_at_call 18; refine (HCk.out _ HB1.out).mono ?_; rintro e w2 ⟨rfl, hb2⟩; have HB2 := Aside0.mk (below_step HB1.out hb2); have HX2 := Aside0.mk (blk_below HX1.out hb2); clear hb2 m0 m1 m2 m3 m4 m5; obtain ⟨m0, m1, m2, m3, m4, m5⟩ := HBox.out _ HX2.out)
   | (go_at_call 34; refine (HO.out _ HB2.out).mono ?_; rintro e w3 ⟨rfl, hb3⟩; have HB3 := Aside0.mk (below_step HB2.out hb3); clear hb3))
  first | exact ⟨rfl, HB3.out⟩ | (go_ret2; exact ⟨rfl, HB3.out⟩)
 ·rw [show kindX l x = (0, chkE x) from by unfold kindX; rw [hR, if_neg (by decide), if_pos hc]]
  generalize chkE x = n at HCk hc
  have hn : (n != 0) = true := bne_iff_ne.2 hc
  clear hc HOf hR
  go_enter Tryd.func13, Tryd.ntmps13
  go_wp2_with (first
   | (go_at_call 27; refine (HRi.out _ HB.out).mono ?_; rintro e w1 ⟨rfl, hb1⟩; have HB1 := Aside0.mk (below_step HB.out hb1.below); have HX1 := Aside0.mk (blk_below HX.out hb1.below); obtain ⟨m0, m1, m2, m3, m4, m5⟩ := HBox.out _ HX1.out; clear hb1)
   | (go_at_call 18; refine (HCk.out _ HB1.out).mono ?_; rintro e w2 ⟨rfl, hb2⟩; have HB2 := Aside0.mk (below_step HB1.out hb2); have HX2 := Aside0.mk (blk_below HX1.out hb2); clear hb2 m0 m1 m2 m3 m4 m5; obtain ⟨m0, m1, m2, m3, m4, m5⟩ := HBox.out _ HX2.out))
  first | exact ⟨rfl, HB2.out⟩ | (go_ret2; exact ⟨rfl, HB2.out⟩)
end Go.Proofs.YtopolnbffmljaaaDoor.Q
namespace Go.Proofs.YtopolnbffmljaaaDoor.Q
theorem drop_cons {α : Type} (l : List α) (i : Nat) (h : i < l.length) (d : α) : l.drop i = l.getD i d :: l.drop (i + 1) := by
 rw [List.getD_eq_getElem?_getD, List.getElem?_eq_getElem h]
 exact List.drop_eq_getElem_cons h
set_option maxHeartbeats 8000000 in
set_option maxRecDepth 100000 in
theorem refFits_calls (B : Option Addr) (c2 : Nat) (l : List Co) (hc2 : l.length ≤ c2) (D : Option Addr) (c3 : Nat) (row : List Va) (hRl : row.length ≤ 140737488355328) (hc3 : row.length ≤ c3) (w : World) (hD : Kd.C k58 w B l.length l) (hRw : Kd.C k23 w D row.length row) :
  Calls Tryd.prog 28 #[.slice B l.length c2, .slice D row.length c3] w fun e w' => e = .returned (.bool (fitsL l row)) ∧ Below w.heap.size w w' := by
 have HB0 := Aside0.mk (Below.refl w.heap.size w)
 by_cases he : row.length = l.length
 rotate_left
 ·rw [show fitsL l row = false from by
   cases hf : fitsL l row
   ·rfl
   ·exact absurd (fitsL_len l row hf) he]
  have h1 : ((row.length : Int) != (l.length : Int)) = true := bne_iff_ne.2 (by omega)
  clear he
  go_enter Tryd.func28, Tryd.ntmps28
  go_wp2
  first | exact ⟨rfl, HB0.out⟩ | (go_ret; exact ⟨rfl, HB0.out⟩)
 have h1 : ((row.length : Int) != (l.length : Int)) = false := bne_eq_false_iff_eq.2 (by omega)
 have HE := Aside0.mk he
 have HL := Aside0.mk hRl
 have HD := Aside0.mk hD
 have HR := Aside0.mk hRw
 obtain ⟨r, hr⟩ : ∃ r, fitsL l row = r := ⟨_, rfl⟩
 have HF0 := Aside0.mk (show fitsL (l.drop 0) (row.drop 0) = r from hr)
 rw [hr]
 clear he hRl hD hRw hr hc2 hc3
 go_enter Tryd.func28, Tryd.ntmps28
 go_wp2_with fail
 go_loopg [5] (row.length) (fun kq v5 wr => ∃ i : Nat, v5 = .int .i64 i ∧ Aside0 (i + kq = row.length) ∧ Aside0 (Below w.heap.size w wr) ∧ Aside0 (fitsL (l.drop i) (row.drop i) = r))
 case atStart => exact ⟨0, rfl, ⟨by omega⟩, HB0, HF0⟩
 case round =>
  clear HB0 HF0
  obtain ⟨i, rfl, HI, HB, HF⟩ := hrel
  cases gk with
  | zero =>
   have hlb : decide (i < row.length) = false := decide_eq_false (by have := HI.out; omega)
   have hr : r = true := by
    have h := HF.out
    rw [List.drop_of_length_le (by have := HI.out; omega : row.length ≤ i), List.drop_of_length_le (by have := HI.out; have := HE.out; omega : l.length ≤ i)] at h
    exact h.symm
   subst hr
   clear HF
   go_wp2
   first | exact ⟨rfl, HB.out⟩ | (go_ret2; exact ⟨rfl, HB.out⟩) | (go_ret; exact ⟨rfl, HB.out⟩)
  | succ k1 =>
   have hi : i < row.length := by have := HI.out; omega
   have hil : i < l.length := by have := HE.out; omega
   have hlb : decide (i < row.length) = true := decide_eq_true hi
   have hF := HF.out
   rw [drop_cons l i hil z58, drop_cons row i hi z23] at hF
   obtain ⟨ad, e0, x0, x1, x2⟩ := at_T23 HR.out (i : Int) (by omega) (by omega)
   obtain ⟨cd, e1, y0, y1⟩ := at_T58 HD.out (i : Int) (by omega) (by omega)
   subst e0 e1
   have hv0 : rd_T23 row (i : Int) = row.getD i z23 := rfl
   have hc0 : rd_T58 l (i : Int) = l.getD i z58 := rfl
   rw [hv0] at x0 x1 x2
   rw [hc0] at y1
   clear hv0 hc0 y0
   simp only [Int.toNat_natCast] at x0 x1 x2 y1
   generalize row.getD i z23 = v at hF x0 x1 x2
   generalize l.getD i z58 = cc at hF y1
   have X0 := Aside0.mk x0
   have X1 := Aside0.mk x1
   have X2 := Aside0.mk x2
   have Z1 := Aside0.mk y1
   clear x0 x1 x2 y1
   have hF : (decide (chkV v = 0) && (decide (v.f0 = 0) || decide (v.f0 = cc.f1)) && fitsL (l.drop (i + 1)) (row.drop (i + 1))) = r := hF
   obtain ⟨KC, hKC⟩ := (show Ev (fun K => headgateref03_Check.f K v.f0 v.f1 v.f2) (chkV v) from refChk_ev v.f0 v.f1 v.f2).get
   have HCK := Aside0.mk (fun W => headgateref03_Check.calls KC v.f0 v.f1 v.f2 (chkV v) W hKC)
   clear hKC
   generalize chkV v = ck at HCK hF
   have p1 : decide (i < l.length) = true := decide_eq_true hil
   have p2 : (i < l.length) = True := eq_true hil
   have p3 : (i < row.length) = True := eq_true hi
   clear hi hil
   have hw := w64n i (by have := HI.out; have := HL.out; omega)
   by_cases hck : ck = 0
   rotate_left
   ·have h2 : (ck != 0) = true := bne_iff_ne.2 hck
    rw [decide_eq_false hck, Bool.false_and, Bool.false_and] at hF
    subst hF
    clear hck HF
    go_upto_region 6 with (fail)
    refine start_ (n := 27) (S := (fun w' => Below w.heap.size w w')) (ds := []) (fB 27 0) (by kernel_rfl) rfl rfl (below_step HB.out (below_drew1 (Below.refl _ _))) (fun hHeld => ?_)
    generalize wr.drew = wd at hHeld ⊢
    refine pure_ (i := 0) (N := some 17) (v := ?_) (a' := ?_) (fB 27 1) rfl rfl (by kernel_rfl) (fun _ _ _ h => h) (Or.inl ⟨by rfl, by intro w'; go_simp; (first | with_reducible rfl | skip)⟩) (by simp only [Act.put, zA, zB, zC]; rfl) ?_
    refine pure_ (i := 1) (N := some 18) (v := ?_) (a' := ?_) (fB 27 3) rfl rfl (by kernel_rfl) (fun _ _ _ h => h) (Or.inl ⟨by rfl, by intro w'; go_simp; (first | with_reducible rfl | skip)⟩) (by simp only [Act.put, zA, zB, zC]; rfl) ?_
    refine pure_ (i := 2) (N := some 19) (v := ?_) (a' := ?_) (fB 27 7) rfl rfl (by kernel_rfl) (fun _ _ _ h => h) (Or.inl ⟨by rfl, by intro w'; go_simp; (first | with_reducible rfl | skip)⟩) (by simp only [Act.put, zA, zB, zC]; rfl) ?_
    refine take_ (i := 3) (N := some 20) (v := ?_) (a' := ?_) (fB 27 15) rfl rfl (by kernel_rfl) (fun _ _ _ h => h) (Or.inl ⟨by rfl, by intro w' hs0; have y0 := pw_cell_below hs0 X0.out; have y1 := pw_cell_below hs0 X1.out; have y2 := pw_cell_below hs0 X2.out; go_simp; with_reducible rfl⟩) hHeld (by simp only [Act.put, zA, zB, zC]; rfl) ?_
    refine one1_ (i := 4) (N := some 21) (fB 27 31) rfl rfl (by kernel_rfl) (by decide) (fun K hK => ?_)
    refine goes_ Tryd.func50 (by kernel_rfl) rfl #[.agg #[.int .i64 v.f0, .int .i64 v.f1, .string v.f2]] (by rfl) rfl rfl (by (try simp only [List.map_toArray, List.map_cons, List.map_nil]); first | done | rfl) ?_
    refine (HCK.out _).mono ?_
    rintro e w2 ⟨rfl, hb2⟩
    have hs2 := below_step hHeld hb2
    refine ⟨_, rfl, ?_⟩
    clear hHeld
    refine hK.out _ _ (hs2) (fun hHeld => ?_)
    clear hK K
    refine norm_ (a' := ?_) ?_ ?_
    rotate_left
    ·show Act.put _ (some 21) _ = _
     simp only [Act.put, zA, zB, zC]
     rfl
    refine pure_ (i := 5) (N := some 22) (v := ?_) (a' := ?_) (fB 27 63) rfl rfl (by kernel_rfl) (fun _ _ _ h => h) (Or.inl ⟨by rfl, by intro w'; go_simp; (first | with_reducible rfl | skip)⟩) (by simp only [Act.put, zA, zB, zC]; rfl) ?_
    refine pure_ (i := 6) (N := some 23) (v := ?_) (a' := ?_) (fB 27 127) rfl rfl (by kernel_rfl) (fun _ _ _ h => h) (Or.inl ⟨by rfl, by intro w'; go_simp; (first | with_reducible rfl | skip)⟩) (by simp only [Act.put, zA, zB, zC]; rfl) ?_
    refine pure_ (i := 7) (N := some 24) (v := undef) (a' := ?_) (fB 27 255) rfl rfl (by kernel_rfl) (fun _ _ _ h => h) (Or.inr ⟨by rfl, rfl⟩) ?_ ?_
    rotate_left
    ·simp only [Act.put, zA, zB, zC]
     rfl
    refine pure_ (i := 8) (N := some 25) (v := undef) (a' := ?_) (fB 27 511) rfl rfl (by kernel_rfl) (fun _ _ _ h => h) (Or.inr ⟨by rfl, rfl⟩) ?_ ?_
    rotate_left
    ·simp only [Act.put, zA, zB, zC]
     rfl
    refine pure_ (i := 9) (N := some 26) (v := undef) (a' := ?_) (fB 27 1023) rfl rfl (by kernel_rfl) (fun _ _ _ h => h) (Or.inr ⟨by rfl, rfl⟩) ?_ ?_
    rotate_left
    ·simp only [Act.put, zA, zB, zC]
     rfl
    refine pure_ (i := 10) (N := some 27) (v := undef) (a' := ?_) (fB 27 2047) rfl rfl (by kernel_rfl) (fun _ _ _ h => h) (Or.inr ⟨by rfl, rfl⟩) ?_ ?_
    rotate_left
    ·simp only [Act.put, zA, zB, zC]
     rfl
    refine pure_ (i := 11) (N := some 28) (v := undef) (a' := ?_) (fB 27 4095) rfl rfl (by kernel_rfl) (fun _ _ _ h => h) (Or.inr ⟨by rfl, rfl⟩) ?_ ?_
    rotate_left
    ·simp only [Act.put, zA, zB, zC]
     rfl
    refine pure_ (i := 12) (N := some 29) (v := undef) (a' := ?_) (fB 27 8191) rfl rfl (by kernel_rfl) (fun _ _ _ h => h) (Or.inr ⟨by rfl, rfl⟩) ?_ ?_
    rotate_left
    ·simp only [Act.put, zA, zB, zC]
     rfl
    refine pure_ (i := 13) (N := some 30) (v := undef) (a' := ?_) (fB 27 16383) rfl rfl (by kernel_rfl) (fun _ _ _ h => h) (Or.inr ⟨by rfl, rfl⟩) ?_ ?_
    rotate_left
    ·simp only [Act.put, zA, zB, zC]
     rfl
    refine pure_ (i := 14) (N := some 31) (v := undef) (a' := ?_) (fB 27 32767) rfl rfl (by kernel_rfl) (fun _ _ _ h => h) (Or.inr ⟨by rfl, rfl⟩) ?_ ?_
    rotate_left
    ·simp only [Act.put, zA, zB, zC]
     rfl
    refine pure_ (i := 15) (N := some 32) (v := undef) (a' := ?_) (fB 27 65535) rfl rfl (by kernel_rfl) (fun _ _ _ h => h) (Or.inr ⟨by rfl, rfl⟩) ?_ ?_
    rotate_left
    ·simp only [Act.put, zA, zB, zC]
     rfl
    refine pure_ (i := 16) (N := some 33) (v := undef) (a' := ?_) (fB 27 131071) rfl rfl (by kernel_rfl) (fun _ _ _ h => h) (Or.inr ⟨by rfl, rfl⟩) ?_ ?_
    rotate_left
    ·simp only [Act.put, zA, zB, zC]
     rfl
    refine pure_ (i := 17) (N := some 34) (v := undef) (a' := ?_) (fB 27 262143) rfl rfl (by kernel_rfl) (fun _ _ _ h => h) (Or.inr ⟨by rfl, rfl⟩) ?_ ?_
    rotate_left
    ·simp only [Act.put, zA, zB, zC]
     rfl
    refine pure_ (i := 18) (N := some 35) (v := undef) (a' := ?_) (fB 27 524287) rfl rfl (by kernel_rfl) (fun _ _ _ h => h) (Or.inr ⟨by rfl, rfl⟩) ?_ ?_
    rotate_left
    ·simp only [Act.put, zA, zB, zC]
     rfl
    refine pure_ (i := 19) (N := some 36) (v := undef) (a' := ?_) (fB 27 1048575) rfl rfl (by kernel_rfl) (fun _ _ _ h => h) (Or.inr ⟨by rfl, rfl⟩) ?_ ?_
    rotate_left
    ·simp only [Act.put, zA, zB, zC]
     rfl
    refine pure_ (i := 20) (N := some 37) (v := undef) (a' := ?_) (fB 27 2097151) rfl rfl (by kernel_rfl) (fun _ _ _ h => h) (Or.inr ⟨by rfl, rfl⟩) ?_ ?_
    rotate_left
    ·simp only [Act.put, zA, zB, zC]
     rfl
    refine pure_ (i := 21) (N := some 38) (v := undef) (a' := ?_) (fB 27 4194303) rfl rfl (by kernel_rfl) (fun _ _ _ h => h) (Or.inr ⟨by rfl, rfl⟩) ?_ ?_
    rotate_left
    ·simp only [Act.put, zA, zB, zC]
     rfl
    refine pure_ (i := 22) (N := some 39) (v := undef) (a' := ?_) (fB 27 8388607) rfl rfl (by kernel_rfl) (fun _ _ _ h => h) (Or.inr ⟨by rfl, rfl⟩) ?_ ?_
    rotate_left
    ·simp only [Act.put, zA, zB, zC]
     rfl
    refine pure_ (i := 23) (N := some 40) (v := undef) (a' := ?_) (fB 27 16777215) rfl rfl (by kernel_rfl) (fun _ _ _ h => h) (Or.inr ⟨by rfl, rfl⟩) ?_ ?_
    rotate_left
    ·simp only [Act.put, zA, zB, zC]
     rfl
    refine pure_ (i := 24) (N := some 41) (v := undef) (a' := ?_) (fB 27 33554431) rfl rfl (by kernel_rfl) (fun _ _ _ h => h) (Or.inr ⟨by rfl, rfl⟩) ?_ ?_
    rotate_left
    ·simp only [Act.put, zA, zB, zC]
     rfl
    refine pure_ (i := 25) (N := some 42) (v := undef) (a' := ?_) (fB 27 67108863) rfl rfl (by kernel_rfl) (fun _ _ _ h => h) (Or.inr ⟨by rfl, rfl⟩) ?_ ?_
    rotate_left
    ·simp only [Act.put, zA, zB, zC]
     rfl
    refine pure_ (i := 26) (N := some 43) (v := ?_) (a' := ?_) (fB 27 134217727) rfl rfl (by kernel_rfl) (fun _ _ _ h => h) (Or.inl ⟨by rfl, by intro w'; go_simp; (first | with_reducible rfl | skip)⟩) (by simp only [Act.put, zA, zB, zC]; rfl) ?_
    refine done_ (by kernel_rfl) ?_
    go_wp2
    first | exact ⟨rfl, hHeld⟩ | (go_ret2; exact ⟨rfl, hHeld⟩) | (go_ret; exact ⟨rfl, hHeld⟩)
   subst hck
   rw [decide_eq_true rfl, Bool.true_and] at hF
   by_cases hv : v.f0 = 0
   ·have h3 : (v.f0 != 0) = false := bne_eq_false_iff_eq.2 hv
    rw [decide_eq_true hv, Bool.true_or, Bool.true_and] at hF
    have HF2 := Aside0.mk hF
    clear hv HF hF
    go_upto_region 6 with (fail)
    refine start_ (n := 27) (S := (fun w' => Below w.heap.size w w')) (ds := []) (fB 27 0) (by kernel_rfl) rfl rfl (below_step HB.out (below_drew1 (Below.refl _ _))) (fun hHeld => ?_)
    generalize wr.drew = wd at hHeld ⊢
    refine pure_ (i := 0) (N := some 17) (v := ?_) (a' := ?_) (fB 27 1) rfl rfl (by kernel_rfl) (fun _ _ _ h => h) (Or.inl ⟨by rfl, by intro w'; go_simp; (first | with_reducible rfl | skip)⟩) (by simp only [Act.put, zA, zB, zC]; rfl) ?_
    refine pure_ (i := 1) (N := some 18) (v := ?_) (a' := ?_) (fB 27 3) rfl rfl (by kernel_rfl) (fun _ _ _ h => h) (Or.inl ⟨by rfl, by intro w'; go_simp; (first | with_reducible rfl | skip)⟩) (by simp only [Act.put, zA, zB, zC]; rfl) ?_
    refine pure_ (i := 2) (N := some 19) (v := ?_) (a' := ?_) (fB 27 7) rfl rfl (by kernel_rfl) (fun _ _ _ h => h) (Or.inl ⟨by rfl, by intro w'; go_simp; (first | with_reducible rfl | skip)⟩) (by simp only [Act.put, zA, zB, zC]; rfl) ?_
    refine take_ (i := 3) (N := some 20) (v := ?_) (a' := ?_) (fB 27 15) rfl rfl (by kernel_rfl) (fun _ _ _ h => h) (Or.inl ⟨by rfl, by intro w' hs0; have y0 := pw_cell_below hs0 X0.out; have y1 := pw_cell_below hs0 X1.out; have y2 := pw_cell_below hs0 X2.out; go_simp; with_reducible rfl⟩) hHeld (by simp only [Act.put, zA, zB, zC]; rfl) ?_
    refine one1_ (i := 4) (N := some 21) (fB 27 31) rfl rfl (by kernel_rfl) (by decide) (fun K hK => ?_)
    refine goes_ Tryd.func50 (by kernel_rfl) rfl #[.agg #[.int .i64 v.f0, .int .i64 v.f1, .string v.f2]] (by rfl) rfl rfl (by (try simp only [List.map_toArray, List.map_cons, List.map_nil]); first | done | rfl) ?_
    refine (HCK.out _).mono ?_
    rintro e w2 ⟨rfl, hb2⟩
    have hs2 := below_step hHeld hb2
    refine ⟨_, rfl, ?_⟩
    clear hHeld
    refine hK.out _ _ (hs2) (fun hHeld => ?_)
    clear hK K
    refine norm_ (a' := ?_) ?_ ?_
    rotate_left
    ·show Act.put _ (some 21) _ = _
     simp only [Act.put, zA, zB, zC]
     rfl
    refine pure_ (i := 5) (N := some 22) (v := ?_) (a' := ?_) (fB 27 63) rfl rfl (by kernel_rfl) (fun _ _ _ h => h) (Or.inl ⟨by rfl, by intro w'; go_simp; (first | with_reducible rfl | skip)⟩) (by simp only [Act.put, zA, zB, zC]; rfl) ?_
    refine pure_ (i := 6) (N := some 23) (v := ?_) (a' := ?_) (fB 27 127) rfl rfl (by kernel_rfl) (fun _ _ _ h => h) (Or.inl ⟨by rfl, by intro w'; go_simp; (first | with_reducible rfl | skip)⟩) (by simp only [Act.put, zA, zB, zC]; rfl) ?_
    refine pure_ (i := 7) (N := some 24) (v := ?_) (a' := ?_) (fB 27 255) rfl rfl (by kernel_rfl) (fun _ _ _ h => h) (Or.inl ⟨by rfl, by intro w'; go_simp; (first | with_reducible rfl | skip)⟩) (by simp only [Act.put, zA, zB, zC]; rfl) ?_
    refine pure_ (i := 8) (N := some 25) (v := ?_) (a' := ?_) (fB 27 511) rfl rfl (by kernel_rfl) (fun _ _ _ h => h) (Or.inl ⟨by rfl, by intro w'; go_simp; (first | with_reducible rfl | skip)⟩) (by simp only [Act.put, zA, zB, zC]; rfl) ?_
    refine pure_ (i := 9) (N := some 26) (v := ?_) (a' := ?_) (fB 27 1023) rfl rfl (by kernel_rfl) (fun _ _ _ h => h) (Or.inl ⟨by rfl, by intro w'; go_simp; (first | with_reducible rfl | skip)⟩) (by simp only [Act.put, zA, zB, zC]; rfl) ?_
    refine pure_ (i := 10) (N := some 27) (v := ?_) (a' := ?_) (fB 27 2047) rfl rfl (by kernel_rfl) (fun _ _ _ h => h) (Or.inl ⟨by rfl, by intro w'; go_simp; (first | with_reducible rfl | skip)⟩) (by simp only [Act.put, zA, zB, zC]; rfl) ?_
    refine take_ (i := 11) (N := some 28) (v := ?_) (a' := ?_) (fB 27 4095) rfl rfl (by kernel_rfl) (fun _ _ _ h => h) (Or.inl ⟨by rfl, by intro w' hs0; have y0 := pw_cell_below hs0 X0.out; go_simp; with_reducible rfl⟩) hHeld (by simp only [Act.put, zA, zB, zC]; rfl) ?_
    refine pure_ (i := 12) (N := some 29) (v := ?_) (a' := ?_) (fB 27 8191) rfl rfl (by kernel_rfl) (fun _ _ _ h => h) (Or.inl ⟨by rfl, by intro w'; go_simp; (first | with_reducible rfl | skip)⟩) (by simp only [Act.put, zA, zB, zC]; rfl) ?_
    refine pure_ (i := 13) (N := some 30) (v := ?_) (a' := ?_) (fB 27 16383) rfl rfl (by kernel_rfl) (fun _ _ _ h => h) (Or.inl ⟨by rfl, by intro w'; go_simp; (first | with_reducible rfl | skip)⟩) (by simp only [Act.put, zA, zB, zC]; rfl) ?_
    refine pure_ (i := 14) (N := some 31) (v := undef) (a' := ?_) (fB 27 32767) rfl rfl (by kernel_rfl) (fun _ _ _ h => h) (Or.inr ⟨by rfl, rfl⟩) ?_ ?_
    rotate_left
    ·simp only [Act.put, zA, zB, zC]
     rfl
    refine pure_ (i := 15) (N := some 32) (v := undef) (a' := ?_) (fB 27 65535) rfl rfl (by kernel_rfl) (fun _ _ _ h => h) (Or.inr ⟨by rfl, rfl⟩) ?_ ?_
    rotate_left
    ·simp only [Act.put, zA, zB, zC]
     rfl
    refine pure_ (i := 16) (N := some 33) (v := undef) (a' := ?_) (fB 27 131071) rfl rfl (by kernel_rfl) (fun _ _ _ h => h) (Or.inr ⟨by rfl, rfl⟩) ?_ ?_
    rotate_left
    ·simp only [Act.put, zA, zB, zC]
     rfl
    refine pure_ (i := 17) (N := some 34) (v := undef) (a' := ?_) (fB 27 262143) rfl rfl (by kernel_rfl) (fun _ _ _ h => h) (Or.inr ⟨by rfl, rfl⟩) ?_ ?_
    rotate_left
    ·simp only [Act.put, zA, zB, zC]
     rfl
    refine pure_ (i := 18) (N := some 35) (v := undef) (a' := ?_) (fB 27 524287) rfl rfl (by kernel_rfl) (fun _ _ _ h => h) (Or.inr ⟨by rfl, rfl⟩) ?_ ?_
    rotate_left
    ·simp only [Act.put, zA, zB, zC]
     rfl
    refine pure_ (i := 19) (N := some 36) (v := undef) (a' := ?_) (fB 27 1048575) rfl rfl (by kernel_rfl) (fun _ _ _ h => h) (Or.inr ⟨by rfl, rfl⟩) ?_ ?_
    rotate_left
    ·simp only [Act.put, zA, zB, zC]
     rfl
    refine pure_ (i := 20) (N := some 37) (v := undef) (a' := ?_) (fB 27 2097151) rfl rfl (by kernel_rfl) (fun _ _ _ h => h) (Or.inr ⟨by rfl, rfl⟩) ?_ ?_
    rotate_left
    ·simp only [Act.put, zA, zB, zC]
     rfl
    refine pure_ (i := 21) (N := some 38) (v := undef) (a' := ?_) (fB 27 4194303) rfl rfl (by kernel_rfl) (fun _ _ _ h => h) (Or.inr ⟨by rfl, rfl⟩) ?_ ?_
    rotate_left
    ·simp only [Act.put, zA, zB, zC]
     rfl
    refine pure_ (i := 22) (N := some 39) (v := undef) (a' := ?_) (fB 27 8388607) rfl rfl (by kernel_rfl) (fun _ _ _ h => h) (Or.inr ⟨by rfl, rfl⟩) ?_ ?_
    rotate_left
    ·simp only [Act.put, zA, zB, zC]
     rfl
    refine pure_ (i := 23) (N := some 40) (v := undef) (a' := ?_) (fB 27 16777215) rfl rfl (by kernel_rfl) (fun _ _ _ h => h) (Or.inr ⟨by rfl, rfl⟩) ?_ ?_
    rotate_left
    ·simp only [Act.put, zA, zB, zC]
     rfl
    refine pure_ (i := 24) (N := some 41) (v := undef) (a' := ?_) (fB 27 33554431) rfl rfl (by kernel_rfl) (fun _ _ _ h => h) (Or.inr ⟨by rfl, rfl⟩) ?_ ?_
    rotate_left
    ·simp only [Act.put, zA, zB, zC]
     rfl
    refine pure_ (i := 25) (N := some 42) (v := ?_) (a' := ?_) (fB 27 67108863) rfl rfl (by kernel_rfl) (fun _ _ _ h => h) (Or.inl ⟨by rfl, by intro w'; go_simp; (first | with_reducible rfl | skip)⟩) (by simp only [Act.put, zA, zB, zC]; rfl) ?_
    refine pure_ (i := 26) (N := some 43) (v := ?_) (a' := ?_) (fB 27 134217727) rfl rfl (by kernel_rfl) (fun _ _ _ h => h) (Or.inl ⟨by rfl, by intro w'; go_simp; (first | with_reducible rfl | skip)⟩) (by simp only [Act.put, zA, zB, zC]; rfl) ?_
    refine done_ (by kernel_rfl) ?_
    have HB2 := Aside0.mk hHeld
    clear hHeld
    go_wp2
    go_roundg k1
    case measure => omega
    case rel => exact ⟨i + 1, by first | rfl | (rw [hw]; rfl) | (simp [hw]; done) | (congr 1), ⟨by have := HI.out; omega⟩, HB2, HF2⟩
   have h3 : (v.f0 != 0) = true := bne_iff_ne.2 hv
   rw [decide_eq_false hv, Bool.false_or] at hF
   clear hv
   by_cases hc : v.f0 = cc.f1
   ·have h4 : (v.f0 != cc.f1) = false := bne_eq_false_iff_eq.2 hc
    rw [decide_eq_true hc, Bool.true_and] at hF
    have HF2 := Aside0.mk hF
    clear hc HF hF
    go_upto_region 6 with (fail)
    refine start_ (n := 27) (S := (fun w' => Below w.heap.size w w')) (ds := []) (fB 27 0) (by kernel_rfl) rfl rfl (below_step HB.out (below_drew1 (Below.refl _ _))) (fun hHeld => ?_)
    generalize wr.drew = wd at hHeld ⊢
    refine pure_ (i := 0) (N := some 17) (v := ?_) (a' := ?_) (fB 27 1) rfl rfl (by kernel_rfl) (fun _ _ _ h => h) (Or.inl ⟨by rfl, by intro w'; go_simp; (first | with_reducible rfl | skip)⟩) (by simp only [Act.put, zA, zB, zC]; rfl) ?_
    refine pure_ (i := 1) (N := some 18) (v := ?_) (a' := ?_) (fB 27 3) rfl rfl (by kernel_rfl) (fun _ _ _ h => h) (Or.inl ⟨by rfl, by intro w'; go_simp; (first | with_reducible rfl | skip)⟩) (by simp only [Act.put, zA, zB, zC]; rfl) ?_
    refine pure_ (i := 2) (N := some 19) (v := ?_) (a' := ?_) (fB 27 7) rfl rfl (by kernel_rfl) (fun _ _ _ h => h) (Or.inl ⟨by rfl, by intro w'; go_simp; (first | with_reducible rfl | skip)⟩) (by simp only [Act.put, zA, zB, zC]; rfl) ?_
    refine take_ (i := 3) (N := some 20) (v := ?_) (a' := ?_) (fB 27 15) rfl rfl (by kernel_rfl) (fun _ _ _ h => h) (Or.inl ⟨by rfl, by intro w' hs0; have y0 := pw_cell_below hs0 X0.out; have y1 := pw_cell_below hs0 X1.out; have y2 := pw_cell_below hs0 X2.out; go_simp; with_reducible rfl⟩) hHeld (by simp only [Act.put, zA, zB, zC]; rfl) ?_
    refine one1_ (i := 4) (N := some 21) (fB 27 31) rfl rfl (by kernel_rfl) (by decide) (fun K hK => ?_)
    refine goes_ Tryd.func50 (by kernel_rfl) rfl #[.agg #[.int .i64 v.f0, .int .i64 v.f1, .string v.f2]] (by rfl) rfl rfl (by (try simp only [List.map_toArray, List.map_cons, List.map_nil]); first | done | rfl) ?_
    refine (HCK.out _).mono ?_
    rintro e w2 ⟨rfl, hb2⟩
    have hs2 := below_step hHeld hb2
    refine ⟨_, rfl, ?_⟩
    clear hHeld
    refine hK.out _ _ (hs2) (fun hHeld => ?_)
    clear hK K
    refine norm_ (a' := ?_) ?_ ?_
    rotate_left
    ·show Act.put _ (some 21) _ = _
     simp only [Act.put, zA, zB, zC]
     rfl
    refine pure_ (i := 5) (N := some 22) (v := ?_) (a' := ?_) (fB 27 63) rfl rfl (by kernel_rfl) (fun _ _ _ h => h) (Or.inl ⟨by rfl, by intro w'; go_simp; (first | with_reducible rfl | skip)⟩) (by simp only [Act.put, zA, zB, zC]; rfl) ?_
    refine pure_ (i := 6) (N := some 23) (v := ?_) (a' := ?_) (fB 27 127) rfl rfl (by kernel_rfl) (fun _ _ _ h => h) (Or.inl ⟨by rfl, by intro w'; go_simp; (first | with_reducible rfl | skip)⟩) (by simp only [Act.put, zA, zB, zC]; rfl) ?_
    refine pure_ (i := 7) (N := some 24) (v := ?_) (a' := ?_) (fB 27 255) rfl rfl (by kernel_rfl) (fun _ _ _ h => h) (Or.inl ⟨by rfl, by intro w'; go_simp; (first | with_reducible rfl | skip)⟩) (by simp only [Act.put, zA, zB, zC]; rfl) ?_
    refine pure_ (i := 8) (N := some 25) (v := ?_) (a' := ?_) (fB 27 511) rfl rfl (by kernel_rfl) (fun _ _ _ h => h) (Or.inl ⟨by rfl, by intro w'; go_simp; (first | with_reducible rfl | skip)⟩) (by simp only [Act.put, zA, zB, zC]; rfl) ?_
    refine pure_ (i := 9) (N := some 26) (v := ?_) (a' := ?_) (fB 27 1023) rfl rfl (by kernel_rfl) (fun _ _ _ h => h) (Or.inl ⟨by rfl, by intro w'; go_simp; (first | with_reducible rfl | skip)⟩) (by simp only [Act.put, zA, zB, zC]; rfl) ?_
    refine pure_ (i := 10) (N := some 27) (v := ?_) (a' := ?_) (fB 27 2047) rfl rfl (by kernel_rfl) (fun _ _ _ h => h) (Or.inl ⟨by rfl, by intro w'; go_simp; (first | with_reducible rfl | skip)⟩) (by simp only [Act.put, zA, zB, zC]; rfl) ?_
    refine take_ (i := 11) (N := some 28) (v := ?_) (a' := ?_) (fB 27 4095) rfl rfl (by kernel_rfl) (fun _ _ _ h => h) (Or.inl ⟨by rfl, by intro w' hs0; have y0 := pw_cell_below hs0 X0.out; go_simp; with_reducible rfl⟩) hHeld (by simp only [Act.put, zA, zB, zC]; rfl) ?_
    refine pure_ (i := 12) (N := some 29) (v := ?_) (a' := ?_) (fB 27 8191) rfl rfl (by kernel_rfl) (fun _ _ _ h => h) (Or.inl ⟨by rfl, by intro w'; go_simp; (first | with_reducible rfl | skip)⟩) (by simp only [Act.put, zA, zB, zC]; rfl) ?_
    refine pure_ (i := 13) (N := some 30) (v := ?_) (a' := ?_) (fB 27 16383) rfl rfl (by kernel_rfl) (fun _ _ _ h => h) (Or.inl ⟨by rfl, by intro w'; go_simp; (first | with_reducible rfl | skip)⟩) (by simp only [Act.put, zA, zB, zC]; rfl) ?_
    refine pure_ (i := 14) (N := some 31) (v := ?_) (a' := ?_) (fB 27 32767) rfl rfl (by kernel_rfl) (fun _ _ _ h => h) (Or.inl ⟨by rfl, by intro w'; go_simp; (first | with_reducible rfl | skip)⟩) (by simp only [Act.put, zA, zB, zC]; rfl) ?_
    refine pure_ (i := 15) (N := some 32) (v := ?_) (a' := ?_) (fB 27 65535) rfl rfl (by kernel_rfl) (fun _ _ _ h => h) (Or.inl ⟨by rfl, by intro w'; go_simp; (first | with_reducible rfl | skip)⟩) (by simp only [Act.put, zA, zB, zC]; rfl) ?_
    refine pure_ (i := 16) (N := some 33) (v := ?_) (a' := ?_) (fB 27 131071) rfl rfl (by kernel_rfl) (fun _ _ _ h => h) (Or.inl ⟨by rfl, by intro w'; go_simp; (first | with_reducible rfl | skip)⟩) (by simp only [Act.put, zA, zB, zC]; rfl) ?_
    refine pure_ (i := 17) (N := some 34) (v := ?_) (a' := ?_) (fB 27 262143) rfl rfl (by kernel_rfl) (fun _ _ _ h => h) (Or.inl ⟨by rfl, by intro w'; go_simp; (first | with_reducible rfl | skip)⟩) (by simp only [Act.put, zA, zB, zC]; rfl) ?_
    refine take_ (i := 18) (N := some 35) (v := ?_) (a' := ?_) (fB 27 524287) rfl rfl (by kernel_rfl) (fun _ _ _ h => h) (Or.inl ⟨by rfl, by intro w' hs0; have y0 := pw_cell_below hs0 X0.out; go_simp; with_reducible rfl⟩) hHeld (by simp only [Act.put, zA, zB, zC]; rfl) ?_
    refine pure_ (i := 19) (N := some 36) (v := ?_) (a' := ?_) (fB 27 1048575) rfl rfl (by kernel_rfl) (fun _ _ _ h => h) (Or.inl ⟨by rfl, by intro w'; go_simp; (first | with_reducible rfl | skip)⟩) (by simp only [Act.put, zA, zB, zC]; rfl) ?_
    refine pure_ (i := 20) (N := some 37) (v := ?_) (a' := ?_) (fB 27 2097151) rfl rfl (by kernel_rfl) (fun _ _ _ h => h) (Or.inl ⟨by rfl, by intro w'; go_simp; (first | with_reducible rfl | skip)⟩) (by simp only [Act.put, zA, zB, zC]; rfl) ?_
    refine pure_ (i := 21) (N := some 38) (v := ?_) (a' := ?_) (fB 27 4194303) rfl rfl (by kernel_rfl) (fun _ _ _ h => h) (Or.inl ⟨by rfl, by intro w'; go_simp; (first | with_reducible rfl | skip)⟩) (by simp only [Act.put, zA, zB, zC]; rfl) ?_
    refine pure_ (i := 22) (N := some 39) (v := ?_) (a' := ?_) (fB 27 8388607) rfl rfl (by kernel_rfl) (fun _ _ _ h => h) (Or.inl ⟨by rfl, by intro w'; go_simp; (first | with_reducible rfl | skip)⟩) (by simp only [Act.put, zA, zB, zC]; rfl) ?_
    refine take_ (i := 23) (N := some 40) (v := ?_) (a' := ?_) (fB 27 16777215) rfl rfl (by kernel_rfl) (fun _ _ _ h => h) (Or.inl ⟨by rfl, by intro w' hs0; have y1 := pw_cell_below hs0 Z1.out; go_simp; with_reducible rfl⟩) hHeld (by simp only [Act.put, zA, zB, zC]; rfl) ?_
    refine pure_ (i := 24) (N := some 41) (v := ?_) (a' := ?_) (fB 27 33554431) rfl rfl (by kernel_rfl) (fun _ _ _ h => h) (Or.inl ⟨by rfl, by intro w'; go_simp; (first | with_reducible rfl | skip)⟩) (by simp only [Act.put, zA, zB, zC]; rfl) ?_
    refine pure_ (i := 25) (N := some 42) (v := ?_) (a' := ?_) (fB 27 67108863) rfl rfl (by kernel_rfl) (fun _ _ _ h => h) (Or.inl ⟨by rfl, by intro w'; go_simp; (first | with_reducible rfl | skip)⟩) (by simp only [Act.put, zA, zB, zC]; rfl) ?_
    refine pure_ (i := 26) (N := some 43) (v := ?_) (a' := ?_) (fB 27 134217727) rfl rfl (by kernel_rfl) (fun _ _ _ h => h) (Or.inl ⟨by rfl, by intro w'; go_simp; (first | with_reducible rfl | skip)⟩) (by simp only [Act.put, zA, zB, zC]; rfl) ?_
    refine done_ (by kernel_rfl) ?_
    have HB2 := Aside0.mk hHeld
    clear hHeld
    go_wp2
    go_roundg k1
    case measure => omega
    case rel => exact ⟨i + 1, by first | rfl | (rw [hw]; rfl) | (simp [hw]; done) | (congr 1), ⟨by have := HI.out; omega⟩, HB2, HF2⟩
   ·have h4 : (v.f0 != cc.f1) = true := bne_iff_ne.2 hc
    rw [decide_eq_false hc, Bool.false_and] at hF
    subst hF
    clear hc HF
    go_upto_region 6 with (fail)
    refine start_ (n := 27) (S := (fun w' => Below w.heap.size w w')) (ds := []) (fB 27 0) (by kernel_rfl) rfl rfl (below_step HB.out (below_drew1 (Below.refl _ _))) (fun hHeld => ?_)
    generalize wr.drew = wd at hHeld ⊢
    refine pure_ (i := 0) (N := some 17) (v := ?_) (a' := ?_) (fB 27 1) rfl rfl (by kernel_rfl) (fun _ _ _ h => h) (Or.inl ⟨by rfl, by intro w'; go_simp; (first | with_reducible rfl | skip)⟩) (by simp only [Act.put, zA, zB, zC]; rfl) ?_
    refine pure_ (i := 1) (N := some 18) (v := ?_) (a' := ?_) (fB 27 3) rfl rfl (by kernel_rfl) (fun _ _ _ h => h) (Or.inl ⟨by rfl, by intro w'; go_simp; (first | with_reducible rfl | skip)⟩) (by simp only [Act.put, zA, zB, zC]; rfl) ?_
    refine pure_ (i := 2) (N := some 19) (v := ?_) (a' := ?_) (fB 27 7) rfl rfl (by kernel_rfl) (fun _ _ _ h => h) (Or.inl ⟨by rfl, by intro w'; go_simp; (first | with_reducible rfl | skip)⟩) (by simp only [Act.put, zA, zB, zC]; rfl) ?_
    refine take_ (i := 3) (N := some 20) (v := ?_) (a' := ?_) (fB 27 15) rfl rfl (by kernel_rfl) (fun _ _ _ h => h) (Or.inl ⟨by rfl, by intro w' hs0; have y0 := pw_cell_below hs0 X0.out; have y1 := pw_cell_below hs0 X1.out; have y2 := pw_cell_below hs0 X2.out; go_simp; with_reducible rfl⟩) hHeld (by simp only [Act.put, zA, zB, zC]; rfl) ?_
    refine one1_ (i := 4) (N := some 21) (fB 27 31) rfl rfl (by kernel_rfl) (by decide) (fun K hK => ?_)
    refine goes_ Tryd.func50 (by kernel_rfl) rfl #[.agg #[.int .i64 v.f0, .int .i64 v.f1, .string v.f2]] (by rfl) rfl rfl (by (try simp only [List.map_toArray, List.map_cons, List.map_nil]); first | done | rfl) ?_
    refine (HCK.out _).mono ?_
    rintro e w2 ⟨rfl, hb2⟩
    have hs2 := below_step hHeld hb2
    refine ⟨_, rfl, ?_⟩
    clear hHeld
    refine hK.out _ _ (hs2) (fun hHeld => ?_)
    clear hK K
    refine norm_ (a' := ?_) ?_ ?_
    rotate_left
    ·show Act.put _ (some 21) _ = _
     simp only [Act.put, zA, zB, zC]
     rfl
    refine pure_ (i := 5) (N := some 22) (v := ?_) (a' := ?_) (fB 27 63) rfl rfl (by kernel_rfl) (fun _ _ _ h => h) (Or.inl ⟨by rfl, by intro w'; go_simp; (first | with_reducible rfl | skip)⟩) (by simp only [Act.put, zA, zB, zC]; rfl) ?_
    refine pure_ (i := 6) (N := some 23) (v := ?_) (a' := ?_) (fB 27 127) rfl rfl (by kernel_rfl) (fun _ _ _ h => h) (Or.inl ⟨by rfl, by intro w'; go_simp; (first | with_reducible rfl | skip)⟩) (by simp only [Act.put, zA, zB, zC]; rfl) ?_
    refine pure_ (i := 7) (N := some 24) (v := ?_) (a' := ?_) (fB 27 255) rfl rfl (by kernel_rfl) (fun _ _ _ h => h) (Or.inl ⟨by rfl, by intro w'; go_simp; (first | with_reducible rfl | skip)⟩) (by simp only [Act.put, zA, zB, zC]; rfl) ?_
    refine pure_ (i := 8) (N := some 25) (v := ?_) (a' := ?_) (fB 27 511) rfl rfl (by kernel_rfl) (fun _ _ _ h => h) (Or.inl ⟨by rfl, by intro w'; go_simp; (first | with_reducible rfl | skip)⟩) (by simp only [Act.put, zA, zB, zC]; rfl) ?_
    refine pure_ (i := 9) (N := some 26) (v := ?_) (a' := ?_) (fB 27 1023) rfl rfl (by kernel_rfl) (fun _ _ _ h => h) (Or.inl ⟨by rfl, by intro w'; go_simp; (first | with_reducible rfl | skip)⟩) (by simp only [Act.put, zA, zB, zC]; rfl) ?_
    refine pure_ (i := 10) (N := some 27) (v := ?_) (a' := ?_) (fB 27 2047) rfl rfl (by kernel_rfl) (fun _ _ _ h => h) (Or.inl ⟨by rfl, by intro w'; go_simp; (first | with_reducible rfl | skip)⟩) (by simp only [Act.put, zA, zB, zC]; rfl) ?_
    refine take_ (i := 11) (N := some 28) (v := ?_) (a' := ?_) (fB 27 4095) rfl rfl (by kernel_rfl) (fun _ _ _ h => h) (Or.inl ⟨by rfl, by intro w' hs0; have y0 := pw_cell_below hs0 X0.out; go_simp; with_reducible rfl⟩) hHeld (by simp only [Act.put, zA, zB, zC]; rfl) ?_
    refine pure_ (i := 12) (N := some 29) (v := ?_) (a' := ?_) (fB 27 8191) rfl rfl (by kernel_rfl) (fun _ _ _ h => h) (Or.inl ⟨by rfl, by intro w'; go_simp; (first | with_reducible rfl | skip)⟩) (by simp only [Act.put, zA, zB, zC]; rfl) ?_
    refine pure_ (i := 13) (N := some 30) (v := ?_) (a' := ?_) (fB 27 16383) rfl rfl (by kernel_rfl) (fun _ _ _ h => h) (Or.inl ⟨by rfl, by intro w'; go_simp; (first | with_reducible rfl | skip)⟩) (by simp only [Act.put, zA, zB, zC]; rfl) ?_
    refine pure_ (i := 14) (N := some 31) (v := ?_) (a' := ?_) (fB 27 32767) rfl rfl (by kernel_rfl) (fun _ _ _ h => h) (Or.inl ⟨by rfl, by intro w'; go_simp; (first | with_reducible rfl | skip)⟩) (by simp only [Act.put, zA, zB, zC]; rfl) ?_
    refine pure_ (i := 15) (N := some 32) (v := ?_) (a' := ?_) (fB 27 65535) rfl rfl (by kernel_rfl) (fun _ _ _ h => h) (Or.inl ⟨by rfl, by intro w'; go_simp; (first | with_reducible rfl | skip)⟩) (by simp only [Act.put, zA, zB, zC]; rfl) ?_
    refine pure_ (i := 16) (N := some 33) (v := ?_) (a' := ?_) (fB 27 131071) rfl rfl (by kernel_rfl) (fun _ _ _ h => h) (Or.inl ⟨by rfl, by intro w'; go_simp; (first | with_reducible rfl | skip)⟩) (by simp only [Act.put, zA, zB, zC]; rfl) ?_
    refine pure_ (i := 17) (N := some 34) (v := ?_) (a' := ?_) (fB 27 262143) rfl rfl (by kernel_rfl) (fun _ _ _ h => h) (Or.inl ⟨by rfl, by intro w'; go_simp; (first | with_reducible rfl | skip)⟩) (by simp only [Act.put, zA, zB, zC]; rfl) ?_
    refine take_ (i := 18) (N := some 35) (v := ?_) (a' := ?_) (fB 27 524287) rfl rfl (by kernel_rfl) (fun _ _ _ h => h) (Or.inl ⟨by rfl, by intro w' hs0; have y0 := pw_cell_below hs0 X0.out; go_simp; with_reducible rfl⟩) hHeld (by simp only [Act.put, zA, zB, zC]; rfl) ?_
    refine pure_ (i := 19) (N := some 36) (v := ?_) (a' := ?_) (fB 27 1048575) rfl rfl (by kernel_rfl) (fun _ _ _ h => h) (Or.inl ⟨by rfl, by intro w'; go_simp; (first | with_reducible rfl | skip)⟩) (by simp only [Act.put, zA, zB, zC]; rfl) ?_
    refine pure_ (i := 20) (N := some 37) (v := ?_) (a' := ?_) (fB 27 2097151) rfl rfl (by kernel_rfl) (fun _ _ _ h => h) (Or.inl ⟨by rfl, by intro w'; go_simp; (first | with_reducible rfl | skip)⟩) (by simp only [Act.put, zA, zB, zC]; rfl) ?_
    refine pure_ (i := 21) (N := some 38) (v := ?_) (a' := ?_) (fB 27 4194303) rfl rfl (by kernel_rfl) (fun _ _ _ h => h) (Or.inl ⟨by rfl, by intro w'; go_simp; (first | with_reducible rfl | skip)⟩) (by simp only [Act.put, zA, zB, zC]; rfl) ?_
    refine pure_ (i := 22) (N := some 39) (v := ?_) (a' := ?_) (fB 27 8388607) rfl rfl (by kernel_rfl) (fun _ _ _ h => h) (Or.inl ⟨by rfl, by intro w'; go_simp; (first | with_reducible rfl | skip)⟩) (by simp only [Act.put, zA, zB, zC]; rfl) ?_
    refine take_ (i := 23) (N := some 40) (v := ?_) (a' := ?_) (fB 27 16777215) rfl rfl (by kernel_rfl) (fun _ _ _ h => h) (Or.inl ⟨by rfl, by intro w' hs0; have y1 := pw_cell_below hs0 Z1.out; go_simp; with_reducible rfl⟩) hHeld (by simp only [Act.put, zA, zB, zC]; rfl) ?_
    refine pure_ (i := 24) (N := some 41) (v := ?_) (a' := ?_) (fB 27 33554431) rfl rfl (by kernel_rfl) (fun _ _ _ h => h) (Or.inl ⟨by rfl, by intro w'; go_simp; (first | with_reducible rfl | skip)⟩) (by simp only [Act.put, zA, zB, zC]; rfl) ?_
    refine pure_ (i := 25) (N := some 42) (v := ?_) (a' := ?_) (fB 27 67108863) rfl rfl (by kernel_rfl) (fun _ _ _ h => h) (Or.inl ⟨by rfl, by intro w'; go_simp; (first | with_reducible rfl | skip)⟩) (by simp only [Act.put, zA, zB, zC]; rfl) ?_
    refine pure_ (i := 26) (N := some 43) (v := ?_) (a' := ?_) (fB 27 134217727) rfl rfl (by kernel_rfl) (fun _ _ _ h => h) (Or.inl ⟨by rfl, by intro w'; go_simp; (first | with_reducible rfl | skip)⟩) (by simp only [Act.put, zA, zB, zC]; rfl) ?_
    refine done_ (by kernel_rfl) ?_
    go_wp2
    first | exact ⟨rfl, hHeld⟩ | (go_ret2; exact ⟨rfl, hHeld⟩) | (go_ret; exact ⟨rfl, hHeld⟩)
end Go.Proofs.YtopolnbffmljaaaDoor.Q
namespace Go.Proofs.YtopolnbffmljaaaDoor.Q
set_option maxHeartbeats 8000000 in
set_option maxRecDepth 100000 in
theorem refWorth_calls (x : Ex) (hwf : wfE x) (hgd : goodE x = true) (hs : sizE x 0 0 = ((totE x : Int), (depE x : Int))) (A : Option Addr) (c : Nat) (hl : x.f3.length ≤ c) (B : Option Addr) (c2 : Nat) (l : List Co) (hL : l.length ≤ 140737488355328) (hns : ∀ c ∈ l, c.f0.size ≤ 140737488355328) (hc2 : l.length ≤ c2)
  (D : Option Addr) (c3 : Nat) (row : List Va) (hRl : row.length ≤ 140737488355328) (hrow : ∀ y ∈ row, in64 y.f1) (hc3 : row.length ≤ c3)
  (w : World) (hG : GlobE w) (hC : Kd.C k26 w A x.f3.length x.f3) (hD : Kd.C k58 w B l.length l) (hRw : Kd.C k23 w D row.length row) :
  Calls Tryd.prog 15 #[.agg #[.int .i64 x.f0, .string x.f1, .int .i64 x.f2.f0, .int .i64 x.f2.f1, .string x.f2.f2, .slice A x.f3.length c], .slice B l.length c2, .slice D row.length c3] w (RetW (worthX l row x) w) := by
 have hu := Tryd.underlying23
 have HKD := Aside0.mk (fun W (hW : Below w.heap.size w W) => refKind_calls x hwf hgd hs A c hl B c2 l hL hns hc2 W (Kd.C_below hC hW) (Kd.C_below hD hW))
 have HE0 := Aside0.mk (EvL.new #[.int .i64 x.f0, .string x.f1, .int .i64 x.f2.f0, .int .i64 x.f2.f1, .string x.f2.f2, .slice A x.f3.length c] w)
 by_cases hn : (kindX l x).2 = 0
 ·by_cases hf : fitsL l row = false
  ·rw [show worthX l row x = (nullV, 122) from by unfold worthX; rw [if_neg (not_not_intro hn), if_pos hf]]
   have HFT := Aside0.mk (fun W (hW : Below w.heap.size w W) => show Calls Tryd.prog 28 #[.slice B l.length c2, .slice D row.length c3] W (fun e w' => e = .returned (.bool false) ∧ Below W.heap.size W w') from hf ▸ refFits_calls B c2 l hc2 D c3 row hRl hc3 W (Kd.C_below hD hW) (Kd.C_below hRw hW))
   clear hf
   rw [hn] at HKD
   clear hn hC hD hRw hG
   go_enter Tryd.func15, Tryd.ntmps15
   go_upto_region 1 with (fail)
   generalize (w.alloc (.cells #[.int .i64 x.f0, .string x.f1, .int .i64 x.f2.f0, .int .i64 x.f2.f1, .string x.f2.f2, .slice A x.f3.length c] 26)).alloc (.cells #[.int .i64 0, .int .i64 0, .string ⟨#[]⟩] 23) = W0 at HE0 ⊢
   obtain ⟨m0, m1, m2, m3, m4, m5⟩ := HE0.out.cells
   obtain ⟨_, _, _, hz⟩ := HE0.out.res
   obtain ⟨r0, r1, r2, g0, g1, g2⟩ := box3 hz
   have hlt := blk_lt hz
   have HZ0 := Aside0.mk hz
   clear hz
   go_wp2_with (first
    | (go_at_call 13; refine (HKD.out _ HE0.out.below).mono ?_; rintro e w1 ⟨rfl, hb1⟩; have HE1 := Aside0.mk (HE0.out.step hb1); clear hb1; clear m0 m1 m2 m3 m4 m5 r0 r1 r2 g0 g1 g2 hlt; obtain ⟨m0, m1, m2, m3, m4, m5⟩ := HE1.out.cells; obtain ⟨_, _, _, hz⟩ := HE1.out.res; obtain ⟨r0, r1, r2, g0, g1, g2⟩ := box3 hz; have hlt := blk_lt hz; have HZ1 := Aside0.mk hz; clear hz)
    | (go_at_call 28; refine (HFT.out _ HE1.out.below).mono ?_; rintro e w2 ⟨rfl, hb2⟩; have HE2 := Aside0.mk (HE1.out.step hb2); clear hb2; clear m0 m1 m2 m3 m4 m5 r0 r1 r2 g0 g1 g2 hlt; obtain ⟨m0, m1, m2, m3, m4, m5⟩ := HE2.out.cells; obtain ⟨_, _, _, hz⟩ := HE2.out.res; obtain ⟨r0, r1, r2, g0, g1, g2⟩ := box3 hz; have hlt := blk_lt hz; have HZ2 := Aside0.mk hz; clear hz))
   refine bodyPost_ret (results_list rfl (by simp) (.cell _ _ _ _ _ rfl (blkput3 HZ2.out _ _ _) hu rfl (by kernel_rfl) (.tmp .nil))) rfl ⟨rfl, below_put3 HE2.out.below (by omega) _ _ _⟩
  ·rw [show worthX l row x = worthE l row x from by unfold worthX; rw [if_neg (not_not_intro hn), if_neg hf]]
   have hf : fitsL l row = true := by simpa using hf
   have hkx : allE x = true ∧ (kindE l x).2 = 0 := by
    unfold kindX at hn
    split at hn
    ·cases hn
    ·split at hn
     ·rename_i hc; exact absurd hn hc
     ·rename_i hc; exact ⟨chkE_all (Decidable.of_not_not hc), hn⟩
   have hokv : ∀ y ∈ row, okV y := fun y hy => ⟨hrow y hy, Nat.le_trans (chkV_size (fitsL_chk l row hf y hy)) (by decide)⟩
   have hctx : Ctx l row B c2 D c3 w := ⟨hG, hD, hRw, hc2, hc3, hL, fitsL_ln l row hf⟩
   have HEV := Aside0.mk (fun W (hW : Below w.heap.size w W) => refEval_calls l row B c2 D c3 hokv hf x hgd hkx.1 hkx.2 A c W hl (hctx.below hW) (Kd.C_below hC hW))
   have HFT := Aside0.mk (fun W (hW : Below w.heap.size w W) => show Calls Tryd.prog 28 #[.slice B l.length c2, .slice D row.length c3] W (fun e w' => e = .returned (.bool true) ∧ Below W.heap.size W w') from hf ▸ refFits_calls B c2 l hc2 D c3 row hRl hc3 W (Kd.C_below hD hW) (Kd.C_below hRw hW))
   clear hf hkx hokv hctx
   rw [hn] at HKD
   clear hn hC hD hRw hG
   go_enter Tryd.func15, Tryd.ntmps15
   go_upto_region 1 with (fail)
   generalize (w.alloc (.cells #[.int .i64 x.f0, .string x.f1, .int .i64 x.f2.f0, .int .i64 x.f2.f1, .string x.f2.f2, .slice A x.f3.length c] 26)).alloc (.cells #[.int .i64 0, .int .i64 0, .string ⟨#[]⟩] 23) = W0 at HE0 ⊢
   obtain ⟨m0, m1, m2, m3, m4, m5⟩ := HE0.out.cells
   obtain ⟨_, _, _, hz⟩ := HE0.out.res
   obtain ⟨r0, r1, r2, g0, g1, g2⟩ := box3 hz
   have hlt := blk_lt hz
   have HZ0 := Aside0.mk hz
   clear hz
   go_wp2_with (first
    | (go_at_call 13; refine (HKD.out _ HE0.out.below).mono ?_; rintro e w1 ⟨rfl, hb1⟩; have HE1 := Aside0.mk (HE0.out.step hb1); clear hb1; clear m0 m1 m2 m3 m4 m5 r0 r1 r2 g0 g1 g2 hlt; obtain ⟨m0, m1, m2, m3, m4, m5⟩ := HE1.out.cells; obtain ⟨_, _, _, hz⟩ := HE1.out.res; obtain ⟨r0, r1, r2, g0, g1, g2⟩ := box3 hz; have hlt := blk_lt hz; have HZ1 := Aside0.mk hz; clear hz)
    | (go_at_call 28; refine (HFT.out _ HE1.out.below).mono ?_; rintro e w2 ⟨rfl, hb2⟩; have HE2 := Aside0.mk (HE1.out.step hb2); clear hb2; clear m0 m1 m2 m3 m4 m5 r0 r1 r2 g0 g1 g2 hlt; obtain ⟨m0, m1, m2, m3, m4, m5⟩ := HE2.out.cells; obtain ⟨_, _, _, hz⟩ := HE2.out.res; obtain ⟨r0, r1, r2, g0, g1, g2⟩ := box3 hz; have hlt := blk_lt hz; have HZ2 := Aside0.mk hz; clear hz)
    | (go_at_call 38; refine (HEV.out _ HE2.out.below).mono ?_; rintro e w3 ⟨rfl, hb3⟩; have HE3 := Aside0.mk (HE2.out.step hb3); clear hb3; clear m0 m1 m2 m3 m4 m5 r0 r1 r2 g0 g1 g2 hlt; obtain ⟨m0, m1, m2, m3, m4, m5⟩ := HE3.out.cells; obtain ⟨_, _, _, hz⟩ := HE3.out.res; obtain ⟨r0, r1, r2, g0, g1, g2⟩ := box3 hz; have hlt := blk_lt hz; have HZ3 := Aside0.mk hz; clear hz))
   refine bodyPost_ret (results_list rfl (by simp) (.cell _ _ _ _ _ rfl (blkput3 HZ3.out _ _ _) hu rfl (by kernel_rfl) (.tmp .nil))) rfl ⟨rfl, below_put3 HE3.out.below (by omega) _ _ _⟩
 ·rw [show worthX l row x = (nullV, (kindX l x).2) from by unfold worthX; rw [if_pos hn]]
  clear hC hD hRw hG
  generalize (kindX l x).2 = n at *
  generalize (kindX l x).1 = z at *
  have hn1 : (n != 0) = true := bne_iff_ne.2 hn
  clear hn
  go_enter Tryd.func15, Tryd.ntmps15
  go_upto_region 1 with (fail)
  generalize (w.alloc (.cells #[.int .i64 x.f0, .string x.f1, .int .i64 x.f2.f0, .int .i64 x.f2.f1, .string x.f2.f2, .slice A x.f3.length c] 26)).alloc (.cells #[.int .i64 0, .int .i64 0, .string ⟨#[]⟩] 23) = W0 at HE0 ⊢
  obtain ⟨m0, m1, m2, m3, m4, m5⟩ := HE0.out.cells
  obtain ⟨_, _, _, hz⟩ := HE0.out.res
  obtain ⟨r0, r1, r2, g0, g1, g2⟩ := box3 hz
  have hlt := blk_lt hz
  have HZ0 := Aside0.mk hz
  clear hz
  go_wp2_with (first
   | (go_at_call 13; refine (HKD.out _ HE0.out.below).mono ?_; rintro e w1 ⟨rfl, hb1⟩; have HE1 := Aside0.mk (HE0.out.step hb1); clear hb1; clear m0 m1 m2 m3 m4 m5 r0 r1 r2 g0 g1 g2 hlt; obtain ⟨m0, m1, m2, m3, m4, m5⟩ := HE1.out.cells; obtain ⟨_, _, _, hz⟩ := HE1.out.res; obtain ⟨r0, r1, r2, g0, g1, g2⟩ := box3 hz; have hlt := blk_lt hz; have HZ1 := Aside0.mk hz; clear hz))
  refine bodyPost_ret (results_list rfl (by simp) (.cell _ _ _ _ _ rfl (blkput3 HZ1.out _ _ _) hu rfl (by kernel_rfl) (.tmp .nil))) rfl ⟨rfl, below_put3 HE1.out.below (by omega) _ _ _⟩
end Go.Proofs.YtopolnbffmljaaaDoor.Q
