/- Texts of the claim, put together. -/
import Derived.Test.YtopolnbffmljaaaDoorZExprTurns12
import Derived.Defers
import Derived.WalkSpells
import Derived.Recover
import Derived.RangeFuncNested
import Derived.Deep.RegionHeld3
import Derived.Laws.EntriesVeiled
import Derived.Deep.RegionHeld
import Derived.Test.YtopolnbffmljaaaDoorZExprTurns11
import Derived.Test.YtopolnbffmljaaaDoorZExprTurns6
open Go.RowKit Go.Proofs.YtopolnbffmljaaaDoorW.PrintWords Go.Proofs.YtopolnbffmljaaaDoorW.PrintLast Go.Proofs.YtopolnbffmljaaaDoorW.PrintMore
set_option linter.unusedVariables false
set_option linter.unusedSimpArgs false
open List renaming setIfInBounds_toArray → zA, set_cons_zero → zB, set_cons_succ → zC
namespace Go.Proofs.YtopolnbffmljaaaDoor.Q
theorem err_ne (c : Int) (w : World) : (binOp .neq 20 (.iface 30 (.int .i64 c)) .nilIface).run Tryd.prog w = .ok (.bool true) w := by kernel_rfl
theorem assert_err (c : Int) (w : World) : (Instr.typeAssert (.iface 30 (.int .i64 c)) 20 30 true).run Tryd.prog w = .ok (.tuple #[.int .i64 c, .bool true]) w := by kernel_rfl
theorem nil_ne (w : World) : (binOp .neq 20 .nilIface .nilIface).run Tryd.prog w = .ok (.bool false) w := by kernel_rfl
set_option maxHeartbeats 4000000 in
set_option maxRecDepth 100000 in
theorem catch_err (bv be : Nat) (hne : bv ≠ be) (y0 y1 y2 : Value) (e0 c : Int) (w : World) (hG : GlobE w) (hv : w.heap[bv]? = some (.cells #[y0, y1, y2] 23 (0, 0))) (he : w.heap[be]? = some (.cells #[.int .i64 e0] 30 (0, 0))) :
  CallsD Tryd.prog 36 #[.pointer (some ⟨bv, 0, none⟩), .pointer (some ⟨be, 0, none⟩)] (.panicking (errP c)) w fun e u' w' =>
   e = .returned (.tuple #[]) ∧ u' = .panicking [{ v := .iface 30 (.int .i64 c), recovered := true }] ∧ w' = (((w.setCell ⟨bv, 0, none⟩ (.int .i64 0)).setCell ⟨bv, 1, none⟩ (.int .i64 0)).setCell ⟨bv, 2, none⟩ (.string ⟨#[]⟩)).setCell ⟨be, 0, none⟩ (.int .i64 c) := by
 obtain ⟨m0, m1, m2, f0, f1, f2⟩ := box3 hv
 obtain ⟨m3, f3⟩ := bf1 he
 have hv3 := blkput3 hv (.int .i64 0) (.int .i64 0) (.string ⟨#[]⟩)
 have he3 : (((w.setCell ⟨bv, 0, none⟩ (.int .i64 0)).setCell ⟨bv, 1, none⟩ (.int .i64 0)).setCell ⟨bv, 2, none⟩ (.string ⟨#[]⟩)).heap[be]? = some (.cells #[.int .i64 e0] 30 (0, 0)) :=
  (Below.heap_setCell _ _ _ _ (Ne.symm hne)).trans ((Below.heap_setCell _ _ _ _ (Ne.symm hne)).trans ((Below.heap_setCell _ _ _ _ (Ne.symm hne)).trans he))
 obtain ⟨m4, f4⟩ := bf1 he3
 have n0 := hG.n0
 have n1 := hG.n1
 have n2 := hG.n2
 clear hG hv he hv3 he3
 refine callsD_of_wpS Tryd.func36 rfl fun c₀ cs hu => ?_
 unfold errP at hu
 apply wpS_seq
 apply wpS_region
 simp [wpOpsS, go_sem, recoverD, hu, Tryd.ntmps36, Exit.thenS]
 have k1 := err_ne
 have k2 := assert_err
 refine wpS_of_wp ?_
 simp only [Array.replicate_succ, Array.replicate_zero, List.push_toArray, List.append_toArray, List.nil_append, List.cons_append, List.setIfInBounds_toArray, List.set_cons_succ, List.set_cons_zero]
 go_wp2
 simp [bodyPostS, results, Tryd.results36]
theorem catch_none (p q : Addr) (w : World) :
  CallsD Tryd.prog 36 #[.pointer (some p), .pointer (some q)] .returning w fun e u' w' => e = .returned (.tuple #[]) ∧ u' = .returning ∧ w = w' := by
 have k3 := nil_ne
 refine callsD_of_wpS Tryd.func36 rfl fun c₀ cs hu => ?_
 apply wpS_seq
 apply wpS_region
 simp [wpOpsS, go_sem, recoverD, hu, Tryd.ntmps36, Exit.thenS]
 refine wpS_of_wp ?_
 simp only [Array.replicate_succ, Array.replicate_zero, List.push_toArray, List.append_toArray, List.nil_append, List.cons_append, List.setIfInBounds_toArray, List.set_cons_succ, List.set_cons_zero]
 go_wp2
 cases c₀
 simp_all [bodyPostS, results, Tryd.results36]
end Go.Proofs.YtopolnbffmljaaaDoor.Q
namespace Go.Proofs.YtopolnbffmljaaaDoor.Q
attribute [local go_sem] fldDoes
def errN (r : Wo) : Prop := r.2 ≠ 0 → r.1 = nullV
theorem errN_z (v : Va) : errN (v, 0) := fun h => absurd rfl h
theorem errN_n (c : Int) : errN (nullV, c) := fun _ => rfl
theorem errN_bind {a : Wo} {f : Va → Wo} (hf : ∀ x, errN (f x)) : errN (bindW a f) := by
 unfold bindW
 by_cases h : a.2 ≠ 0
 ·rw [if_pos h]; exact errN_n _
 ·rw [if_neg h]; exact hf _
theorem errN_reck (op : Int) (a b : Va) : errN (reckS op a b) := by
 unfold reckS
 by_cases h : a = nullV ∨ b = nullV
 ·rw [if_pos h]; exact errN_n _
 rw [if_neg h]
 by_cases h2 : (doS op a.f1 b.f1).2 ≠ 0
 ·rw [if_pos h2]; exact errN_n _
 ·rw [if_neg h2]; exact errN_z _
theorem errN_worthO (l : List Co) (row : List Va) (op : Int) (nm : ByteArray) (v : Va) (a b c : Wo) (hb : errN b) (hc : errN c) : errN (worthO l row op nm v a b c) := by
 unfold worthO
 by_cases h1 : op = 1
 ·rw [if_pos h1]; exact errN_z _
 rw [if_neg h1]
 by_cases h2 : op = 2
 ·rw [if_pos h2]; exact errN_z _
 rw [if_neg h2]
 by_cases h3 : op = 3
 ·rw [if_pos h3]; exact errN_z _
 rw [if_neg h3]
 by_cases h4 : op = 9
 ·rw [if_pos h4]; exact errN_bind fun x => errN_reck _ _ _
 rw [if_neg h4]
 by_cases h5 : op = 4 ∨ op = 5 ∨ op = 6 ∨ op = 7 ∨ op = 8
 ·rw [if_pos h5]; exact errN_bind fun x => errN_bind fun y => errN_reck _ _ _
 rw [if_neg h5]
 by_cases h6 : op = 10 ∨ op = 11 ∨ op = 12 ∨ op = 13
 ·rw [if_pos h6]
  refine errN_bind fun x => errN_bind fun y => ?_
  by_cases g : x = nullV ∨ y = nullV
  ·rw [if_pos g]; exact errN_z _
  ·rw [if_neg g]; exact errN_z _
 rw [if_neg h6]
 by_cases h7 : op = 14 ∨ op = 15
 ·rw [if_pos h7]
  refine errN_bind fun x => ?_
  by_cases g : x = boolV (decide (op = 15))
  ·rw [if_pos g]; exact errN_z _
  rw [if_neg g]
  refine errN_bind fun y => ?_
  by_cases g2 : y = boolV (decide (op = 15))
  ·rw [if_pos g2]; exact errN_z _
  rw [if_neg g2]
  by_cases g3 : x = nullV ∨ y = nullV
  ·rw [if_pos g3]; exact errN_z _
  ·rw [if_neg g3]; exact errN_z _
 rw [if_neg h7]
 by_cases h8 : op = 16
 ·rw [if_pos h8]
  refine errN_bind fun x => ?_
  by_cases g : x = nullV
  ·rw [if_pos g]; exact errN_z _
  ·rw [if_neg g]; exact errN_z _
 rw [if_neg h8]
 by_cases h9 : op = 17
 ·rw [if_pos h9]; exact errN_bind fun x => errN_z _
 rw [if_neg h9]
 by_cases h10 : op = 18
 ·rw [if_pos h10]
  refine errN_bind fun x => ?_
  by_cases g : x = boolV true
  ·rw [if_pos g]; exact hb
  ·rw [if_neg g]; exact hc
 rw [if_neg h10]
 by_cases h11 : op = 19
 ·rw [if_pos h11]
  refine errN_bind fun x => ?_
  by_cases g : x = nullV
  ·rw [if_pos g]; exact hb
  ·rw [if_neg g]; exact errN_z _
 rw [if_neg h11]
 refine errN_bind fun x => ?_
 by_cases g : x = nullV
 ·rw [if_pos g]; exact errN_z _
 ·rw [if_neg g]; exact errN_z _
theorem errN_worth (l : List Co) (row : List Va) : ∀ x : Ex, errN (worthE l row x) := by
 refine Ex.ind fun x ih => ?_
 have key : ∀ i, errN ((x.f3.map (worthE l row)).getD i (nullV, 0)) := by
  intro i
  rw [List.getD_eq_getElem?_getD, List.getElem?_map]
  cases h : x.f3[i]? with
  | none => exact errN_z _
  | some k => exact ih k (List.mem_of_getElem? h)
 rw [worthE_eq]
 exact errN_worthO l row _ _ _ _ _ _ (key 1) (key 2)
theorem fitsL_len : ∀ (l : List Co) (row : List Va), fitsL l row = true → row.length = l.length
 | [], [], _ => rfl
 | c :: cs, v :: vs, h => by
  unfold fitsL at h
  rw [Bool.and_eq_true] at h
  rw [List.length_cons, List.length_cons, fitsL_len cs vs h.2]
theorem fitsL_chk : ∀ (l : List Co) (row : List Va), fitsL l row = true → ∀ y ∈ row, chkV y = 0
 | [], [], _, y, hy => by simp at hy
 | c :: cs, v :: vs, h, y, hy => by
  unfold fitsL at h
  rw [Bool.and_eq_true, Bool.and_eq_true, decide_eq_true_eq] at h
  rcases List.mem_cons.1 hy with rfl | hy
  ·exact h.1.1
  ·exact fitsL_chk cs vs h.2 y hy
theorem chkV_size {v : Va} (h : chkV v = 0) : v.f2.size ≤ 200 := by
 have e : v.f2.toList = [] → v.f2.size ≤ 200 := fun h => by rw [← data_length, ← Lib.toList_data, h]; exact Nat.zero_le _
 unfold chkV at h
 by_cases h0 : v.f0 = 0
 ·rw [if_pos h0] at h
  by_cases g : v.f1 = 0 ∧ v.f2.toList = []
  ·exact e g.2
  ·rw [if_neg g] at h; cases h
 rw [if_neg h0] at h
 by_cases h1 : v.f0 = 1
 ·rw [if_pos h1] at h
  by_cases g : v.f2.toList = []
  ·exact e g
  ·rw [if_neg g] at h; cases h
 rw [if_neg h1] at h
 by_cases h2 : v.f0 = 2
 ·rw [if_pos h2] at h
  by_cases g : (v.f1 = 0 ∨ v.f1 = 1) ∧ v.f2.toList = []
  ·exact e g.2
  ·rw [if_neg g] at h; cases h
 rw [if_neg h2] at h
 by_cases h3 : v.f0 = 3
 ·rw [if_pos h3] at h
  by_cases g : v.f1 = 0 ∧ v.f2.size ≤ 200
  ·exact g.2
  ·rw [if_neg g] at h; cases h
 rw [if_neg h3] at h
 cases h
theorem dropC (l : List Co) (i : Nat) (h : i < l.length) : l.drop i = rd_T58 l (i : Int) :: l.drop (i + 1) := co_drop l i h
theorem dropV (l : List Va) (i : Nat) (h : i < l.length) : l.drop i = rd_T23 l (i : Int) :: l.drop (i + 1) := by
 unfold rd_T23
 rw [Int.toNat_natCast, List.getD_eq_getElem?_getD, List.getElem?_eq_getElem h, List.drop_eq_getElem_cons h]
 rfl
theorem mkfW : ∀ (fn : Fn) (first cap : Array Value) (w : World), (Instr.makeFunc fn first cap).run Tryd.prog w = .ok (.func fn first cap) w := fun _ _ _ _ => rfl
structure WoS (x : Ex) (A : Option Addr) (c : Nat) (w W : World) : Prop where
 below : Below w.heap.size w W
 ebox : W.heap[w.heap.size]? = some (.cells #[.int .i64 x.f0, .string x.f1, .int .i64 x.f2.f0, .int .i64 x.f2.f1, .string x.f2.f2, .slice A x.f3.length c] 26 (0, 0))
 vbox : W.heap[w.heap.size + 1]? = some (.cells #[.int .i64 0, .int .i64 0, .string ⟨#[]⟩] 23 (0, 0))
 rbox : W.heap[w.heap.size + 1 + 1]? = some (.cells #[.int .i64 0] 30 (0, 0))
theorem WoS.step {x : Ex} {A : Option Addr} {c : Nat} {w W W' : World} (h : WoS x A c w W) (hb : Below W.heap.size W W') : WoS x A c w W' :=
 ⟨below_step h.below hb, blk_below h.ebox hb, blk_below h.vbox hb, blk_below h.rbox hb⟩
theorem WoS.new (x : Ex) (A : Option Addr) (c : Nat) (w : World) : WoS x A c w (((w.alloc (.cells #[.int .i64 x.f0, .string x.f1, .int .i64 x.f2.f0, .int .i64 x.f2.f1, .string x.f2.f2, .slice A x.f3.length c] 26)).alloc (.cells #[.int .i64 0, .int .i64 0, .string ⟨#[]⟩] 23)).alloc (.cells #[.int .i64 0] 30)) := by
 refine ⟨below_alloc (below_alloc (below_alloc (Below.refl _ _) _) _) _, blk_alloc (blk_alloc (blk_new w _) _) _, ?_, ?_⟩
 ·have := blk_new (w.alloc (.cells #[.int .i64 x.f0, .string x.f1, .int .i64 x.f2.f0, .int .i64 x.f2.f1, .string x.f2.f2, .slice A x.f3.length c] 26)) (.cells #[.int .i64 0, .int .i64 0, .string ⟨#[]⟩] 23)
  rw [World.size_alloc] at this
  exact blk_alloc this _
 ·have := blk_new ((w.alloc (.cells #[.int .i64 x.f0, .string x.f1, .int .i64 x.f2.f0, .int .i64 x.f2.f1, .string x.f2.f2, .slice A x.f3.length c] 26)).alloc (.cells #[.int .i64 0, .int .i64 0, .string ⟨#[]⟩] 23)) (.cells #[.int .i64 0] 30)
  rwa [World.size_alloc, World.size_alloc] at this
theorem heap_far {W : World} {g h j : Nat} {y : Value} {o : Option Obj} (he : W.heap[h]? = o) (hne : h ≠ g) : (W.setCell ⟨g, j, none⟩ y).heap[h]? = o := (Below.heap_setCell _ _ _ _ (show h ≠ (⟨g, j, none⟩ : Addr).block from hne)).trans he
theorem wo_stored {W : World} {g : Nat} {y0 y1 y2 y3 : Value} (hv : W.heap[g]? = some (.cells #[y0, y1, y2] 23 (0, 0))) (hr : W.heap[g + 1]? = some (.cells #[y3] 30 (0, 0))) (z0 z1 z2 z3 : Value) :
  ((((W.setCell ⟨g, 0, none⟩ z0).setCell ⟨g, 1, none⟩ z1).setCell ⟨g, 2, none⟩ z2).setCell ⟨g + 1, 0, none⟩ z3).heap[g]? = some (.cells #[z0, z1, z2] 23 (0, 0)) ∧
  ((((W.setCell ⟨g, 0, none⟩ z0).setCell ⟨g, 1, none⟩ z1).setCell ⟨g, 2, none⟩ z2).setCell ⟨g + 1, 0, none⟩ z3).heap[g + 1]? = some (.cells #[z3] 30 (0, 0)) :=
 ⟨heap_far (blkput3 hv z0 z1 z2) (by omega), blk_put (heap_far (heap_far (heap_far hr (by omega)) (by omega)) (by omega)) 0 _ rfl⟩
theorem wo_below {w W : World} {g : Nat} (h : Below w.heap.size w W) (hg : w.heap.size ≤ g) (z0 z1 z2 z3 : Value) : Below w.heap.size w ((((W.setCell ⟨g, 0, none⟩ z0).setCell ⟨g, 1, none⟩ z1).setCell ⟨g, 2, none⟩ z2).setCell ⟨g + 1, 0, none⟩ z3) :=
 below_set (below_put3 h hg _ _ _) (by omega)
theorem wo_final (g : Nat) (tmps : Array Value) (h6 : tmps.getD 6 undef = .pointer (some ⟨g, 0, none⟩)) (h7 : tmps.getD 7 undef = .pointer (some ⟨g + 1, 0, none⟩)) (W : World) (a b e : Int) (s : ByteArray)
  (hv : W.heap[g]? = some (.cells #[.int .i64 a, .int .i64 b, .string s] 23 (0, 0))) (hr : W.heap[g + 1]? = some (.cells #[.int .i64 e] 30 (0, 0))) :
  (results Tryd.f14 tmps).run Tryd.prog W = .ok (.tuple #[.agg #[.int .i64 a, .int .i64 b, .string s], .int .i64 e]) W := by
 obtain ⟨m0, m1, m2, f0, f1, f2⟩ := box3 hv
 obtain ⟨m3, f3⟩ := bf1 hr
 have h6' : tmps[6]?.getD undef = .pointer (some ⟨g, 0, none⟩) := by simpa using h6
 have h7' : tmps[7]?.getD undef = .pointer (some ⟨g + 1, 0, none⟩) := by simpa using h7
 unfold results
 simp [Tryd.results14, h6', h7', go_sem, m0, m1, m2, m3]
theorem wox_step {x : Ex} {A : Option Addr} {c : Nat} {w W W' : World} {q0 q1 q2 q3 : Addr} {z0 z1 z2 z3 : Value} (h : W.cell? q0 = some z0 ∧ W.cell? q1 = some z1 ∧ W.cell? q2 = some z2 ∧ W.cell? q3 = some z3 ∧ WoS x A c w W) (hb : Below W.heap.size W W') : W'.cell? q0 = some z0 ∧ W'.cell? q1 = some z1 ∧ W'.cell? q2 = some z2 ∧ W'.cell? q3 = some z3 ∧ WoS x A c w W' :=
 ⟨pw_cell_below hb h.1, pw_cell_below hb h.2.1, pw_cell_below hb h.2.2.1, pw_cell_below hb h.2.2.2.1, h.2.2.2.2.step hb⟩
set_option maxHeartbeats 16000000 in
set_option maxRecDepth 100000 in
theorem Worth_calls (x : Ex) (hgd : goodE x = true) (A : Option Addr) (c : Nat) (hl : x.f3.length ≤ c) (B : Option Addr) (c2 : Nat) (l : List Co) (hL : l.length ≤ 140737488355328) (hns : ∀ c ∈ l, c.f0.size ≤ 140737488355328) (hc2 : l.length ≤ c2)
  (D : Option Addr) (c3 : Nat) (row : List Va) (hrow : ∀ y ∈ row, in64 y.f1) (hc3 : row.length ≤ c3)
  (w : World) (hG : GlobE w) (hC : Kd.C k26 w A x.f3.length x.f3) (hD : Kd.C k58 w B l.length l) (hRw : Kd.C k23 w D row.length row) :
  Calls Tryd.prog 14 #[.agg #[.int .i64 x.f0, .string x.f1, .int .i64 x.f2.f0, .int .i64 x.f2.f1, .string x.f2.f2, .slice A x.f3.length c], .slice B l.length c2, .slice D row.length c3] w
   fun e w' => e = .returned (.tuple #[.agg #[.int .i64 (worthX l row x).1.f0, .int .i64 (worthX l row x).1.f1, .string (worthX l row x).1.f2], .int .i64 (worthX l row x).2]) ∧ Below w.heap.size w w' := by
 have hu := Tryd.underlying23
 obtain ⟨W, hW⟩ : ∃ W, W = (((w.alloc (.cells #[.int .i64 x.f0, .string x.f1, .int .i64 x.f2.f0, .int .i64 x.f2.f1, .string x.f2.f2, .slice A x.f3.length c] 26)).alloc (.cells #[.int .i64 0, .int .i64 0, .string ⟨#[]⟩] 23)).alloc (.cells #[.int .i64 0] 30)) := ⟨_, rfl⟩
 have hS : WoS x A c w W := by rw [hW]; exact WoS.new x A c w
 have hkd := Kind_calls x hgd A c hl B c2 l hL hns hc2 W (hG.below hS.below) (Kd.C_below hC hS.below) (Kd.C_below hD hS.below)
 have HG := Aside0.mk hG
 have HD := Aside0.mk hD
 have HRw := Aside0.mk hRw
 have HW := Aside0.mk hW
 have HCx := Aside0.mk hC
 have HKX := Aside0.mk (rfl : kindX l x = kindX l x)
 obtain ⟨Q, hQ⟩ : ∃ Q : Ending → World → Prop, Q = fun e w' => e = .returned (.tuple #[.agg #[.int .i64 (worthX l row x).1.f0, .int .i64 (worthX l row x).1.f1, .string (worthX l row x).1.f2], .int .i64 (worthX l row x).2]) ∧ Below w.heap.size w w' := ⟨_, rfl⟩
 rw [← hQ]
 have hq : ∀ r : Wo, worthX l row x = r → ∀ w', Below w.heap.size w w' → Q (.returned (.tuple #[.agg #[.int .i64 r.1.f0, .int .i64 r.1.f1, .string r.1.f2], .int .i64 r.2])) w' := fun r hr w' h => by rw [hQ, hr]; exact ⟨rfl, h⟩
 have HQ := Aside0.mk hq
 clear hQ hq hG hD hRw hW hC
 obtain ⟨e1, e2, e3, e4, e5, e6⟩ : W.cell? ⟨w.heap.size, 0, none⟩ = some (.int .i64 x.f0) ∧ W.cell? ⟨w.heap.size, 1, none⟩ = some (.string x.f1) ∧ W.cell? ⟨w.heap.size, 2, none⟩ = some (.int .i64 x.f2.f0) ∧ W.cell? ⟨w.heap.size, 3, none⟩ = some (.int .i64 x.f2.f1) ∧ W.cell? ⟨w.heap.size, 4, none⟩ = some (.string x.f2.f2) ∧ W.cell? ⟨w.heap.size, 5, none⟩ = some (.slice A x.f3.length c) :=
  ⟨(blk_cell hS.ebox 0).trans rfl, (blk_cell hS.ebox 1).trans rfl, (blk_cell hS.ebox 2).trans rfl, (blk_cell hS.ebox 3).trans rfl, (blk_cell hS.ebox 4).trans rfl, (blk_cell hS.ebox 5).trans rfl⟩
 obtain ⟨ke, hke⟩ : ∃ ke, (kindX l x).2 = ke := ⟨_, rfl⟩
 rw [hke] at hkd
 by_cases hk0 : ke = 0
 ·subst hk0
  have hfl := fitsL_len l row
  by_cases hlen : row.length = l.length
  ·have hd1 : ((row.length : Int) != (l.length : Int)) = false := by rw [hlen]; simp
   have hd2 : (row.length != l.length) = false := by rw [hlen]; simp
   have hn : row.length ≤ 9223372036854775807 := HRw.out.2.1
   obtain ⟨F, hF⟩ : ∃ F, fitsL l row = F := ⟨_, rfl⟩
   have HF := Aside0.mk (show fitsL (l.drop 0) (row.drop 0) = F by simpa using hF)
   have HQF := Aside0.mk (show F = false → ∀ w', Below w.heap.size w w' → Q (.returned (.tuple #[.agg #[.int .i64 0, .int .i64 0, .string ⟨#[]⟩], .int .i64 122])) w' from fun h => HQ.out (nullV, 122) (by unfold worthX; rw [hke, if_neg (fun h => h rfl), hF, h, if_pos rfl]))
   have HQT := Aside0.mk (show F = true → ∀ r : Wo, worthE l row x = r → ∀ w', Below w.heap.size w w' → Q (.returned (.tuple #[.agg #[.int .i64 r.1.f0, .int .i64 r.1.f1, .string r.1.f2], .int .i64 r.2])) w' from fun h r hr => HQ.out r (by unfold worthX; rw [hke, if_neg (fun h => h rfl), hF, h, if_neg (by decide), hr]))
   have HFT := Aside0.mk (show F = true → ∀ y ∈ row, okV y from fun h y hy => ⟨hrow y hy, Nat.le_trans (chkV_size (fitsL_chk l row (hF.trans h) y hy)) (by decide)⟩)
   have HLen := Aside0.mk hlen
   have HAll := Aside0.mk (show allE x = true ∧ 0 < l.length from (by
    unfold kindX at hke
    cases hr : rightS l
    ·rw [hr, if_pos rfl] at hke; cases hke
    ·rw [hr, if_neg (by decide)] at hke
     by_cases hcx : chkE x = 0
     ·refine ⟨chk_all hcx, ?_⟩
      unfold rightS at hr
      simp only [Bool.and_eq_true, decide_eq_true_eq] at hr
      omega
     ·rw [if_pos hcx] at hke; exact absurd hke hcx))
   have mf := mkfW
   clear HQ hF hke HKX hfl hlen hrow
   go_enter_defers Tryd.func14, Tryd.ntmps14
   go_upto_region 1 with (fail)
   rw [← HW.out]
   go_upto_region 2 with (go_at_call 12; refine hkd.mono ?_; rintro e w2 ⟨rfl, hb2⟩; have hS2 := hS.step hb2; clear hb2)
   clear e1 e2 e3 e4 e5 e6 hS hkd HW
   have HS2 := Aside0.mk hS2
   clear hS2
   go_wp2_with fail
   go_loopg [30] (row.length) (fun kq v30 wr => ∃ i : Nat, v30 = .int .i64 i ∧ Aside0 (i + kq = row.length) ∧ Aside0 (WoS x A c w wr) ∧ Aside0 (fitsL (l.drop i) (row.drop i) = F))
   case atStart => exact ⟨0, rfl, ⟨by omega⟩, HS2, HF⟩
   case round =>
    obtain ⟨i, rfl, HI, HS, HFi⟩ := hrel
    clear HS2 HF
    cases gk with
    | succ k1 =>
     have hi : i < row.length := by have := HI.out; omega
     have hlb : decide (i < row.length) = true := decide_eq_true hi
     have hil : i < l.length := by rw [← HLen.out]; exact hi
     obtain ⟨adr, hadr, r0, r1, r2⟩ := at_T23 (Kd.C_below HRw.out HS.out.below) (i : Int) (by omega) (by omega)
     obtain ⟨adc, hadc, q0, q1⟩ := at_T58 (Kd.C_below HD.out HS.out.below) (i : Int) (by omega) (by omega)
     have hfi := HFi.out
     rw [dropC l i hil, dropV row i hi] at hfi
     unfold fitsL at hfi
     subst hadr hadc
     rw [Int.toNat_natCast] at r0 r1 r2 q1
     clear HFi q0
     generalize rd_T23 row (i : Int) = y at r0 r1 r2 hfi
     generalize (rd_T58 l (i : Int)).f1 = kc at q1 hfi
     obtain ⟨KC, hKC0⟩ := chk_ev y
     have hKC := hKC0 KC (Nat.le_refl _)
     clear hKC0
     generalize chkV y = C at hKC hfi
     obtain ⟨W2, hW2⟩ : ∃ W2, W2 = wr.alloc (.cells #[.int .i64 y.f0, .int .i64 y.f1, .string y.f2] 23) := ⟨_, rfl⟩
     have hS2 : WoS x A c w W2 := by rw [hW2]; exact HS.out.step (below_alloc (Below.refl _ _) _)
     have hY : W2.heap[wr.heap.size]? = some (.cells #[.int .i64 y.f0, .int .i64 y.f1, .string y.f2] 23 (0, 0)) := by rw [hW2]; exact blk_new wr _
     have hq1 : W2.cell? ⟨(adc.add (i * 2)).block, (adc.add (i * 2)).off + 1, none⟩ = some (.int .i64 kc) := by rw [hW2]; exact pw_cell_below (below_alloc (Below.refl _ _) _) q1
     obtain ⟨y0, y1, y2, _, _, _⟩ := box3 hY
     have hCC : W2.cell? ⟨(adc.add (i * 2)).block, (adc.add (i * 2)).off + 1, none⟩ = some (.int .i64 kc) ∧ W2.cell? ⟨wr.heap.size, 0, none⟩ = some (.int .i64 y.f0) ∧ W2.cell? ⟨wr.heap.size, 1, none⟩ = some (.int .i64 y.f1) ∧ W2.cell? ⟨wr.heap.size, 2, none⟩ = some (.string y.f2) ∧ WoS x A c w W2 := ⟨hq1, y0, y1, y2, hS2⟩
     have HW2 := Aside0.mk hW2
     clear hW2 hS2 hY hq1 q1 y0 y1 y2
     have hcase : (C ≠ 0 ∧ F = false) ∨ (C = 0 ∧ y.f0 = 0 ∧ fitsL (l.drop (i + 1)) (row.drop (i + 1)) = F) ∨ (C = 0 ∧ y.f0 ≠ 0 ∧ y.f0 = kc ∧ fitsL (l.drop (i + 1)) (row.drop (i + 1)) = F) ∨ (C = 0 ∧ y.f0 ≠ 0 ∧ y.f0 ≠ kc ∧ F = false) := by
      by_cases g0 : C = 0
      ·by_cases g1 : y.f0 = 0
       ·refine .inr (.inl ⟨g0, g1, ?_⟩)
        rw [← hfi, decide_eq_true g0, decide_eq_true g1]; simp
       ·by_cases g2 : y.f0 = kc
        ·refine .inr (.inr (.inl ⟨g0, g1, g2, ?_⟩))
         rw [← hfi, decide_eq_true g0, decide_eq_true g2]; simp
        ·refine .inr (.inr (.inr ⟨g0, g1, g2, ?_⟩))
         rw [← hfi, decide_eq_true g0, decide_eq_false g1, decide_eq_false g2]; simp
      ·refine .inl ⟨g0, ?_⟩
       rw [← hfi, decide_eq_false g0]; simp
     clear hfi
     rcases hcase with ⟨g0, hFx⟩ | ⟨g0, g1, hFx⟩ | ⟨g0, g1, g2, hFx⟩ | ⟨g0, g1, g2, hFx⟩
     ·have HFx := Aside0.mk hFx
      have b0 : (C != 0) = true := by simpa using g0
      clear hFx g0
      go_upto_region 9 with (fail)
      rw [← HW2.out]
      refine wp_region_noPanic ?_
      refine start_ (n := 18) (S := (fun w' => w'.cell? ⟨(adc.add (i * 2)).block, (adc.add (i * 2)).off + 1, none⟩ = some (.int .i64 kc) ∧ w'.cell? ⟨wr.heap.size, 0, none⟩ = some (.int .i64 y.f0) ∧ w'.cell? ⟨wr.heap.size, 1, none⟩ = some (.int .i64 y.f1) ∧ w'.cell? ⟨wr.heap.size, 2, none⟩ = some (.string y.f2) ∧ WoS x A c w w')) (ds := []) #[false, false, false, false, false, false, false, false, false, false, false, false, false, false, false, false, false, false] (by kernel_rfl) rfl rfl (wox_step hCC (below_drew1 (Below.refl _ _))) (fun hHeld => ?_)
      refine take_ (i := 0) (N := some 35) (v := ?_) (a' := ?_) #[true, false, false, false, false, false, false, false, false, false, false, false, false, false, false, false, false, false] rfl rfl (by kernel_rfl) (fun _ _ _ h => h) (Or.inl ⟨by rfl, ?_⟩) hHeld ?_ ?_
      rotate_left
      ·rintro w' ⟨s0, s1, s2, s3, s4⟩
       go_simp
       with_reducible rfl
      rotate_left
      ·simp only [Act.put, zA, zB, zC]
       rfl
      refine one1_ (i := 1) (N := some 36) #[true, true, false, false, false, false, false, false, false, false, false, false, false, false, false, false, false, false] rfl rfl (by kernel_rfl) (by decide) (fun K hK => ?_)
      refine goes_ Tryd.func35 (by kernel_rfl) rfl #[.agg #[.int .i64 y.f0, .int .i64 y.f1, .string y.f2]] (by rfl) rfl rfl (by (try simp only [List.map_toArray, List.map_cons, List.map_nil]); first | done | rfl) ?_
      refine (value_Check.calls KC y.f0 y.f1 y.f2 _ _ hKC).mono ?_
      rintro e w5 ⟨rfl, hb5⟩
      have hC5 := wox_step hHeld hb5
      refine ⟨_, rfl, ?_⟩
      clear hHeld
      refine hK.out _ _ (hC5) (fun hHeld => ?_)
      clear hK K
      refine norm_ (a' := ?_) ?_ ?_
      rotate_left
      ·show Act.put _ (some 36) _ = _
       simp only [Act.put, zA, zB, zC]
       rfl
      refine pure_ (i := 2) (N := some 37) (v := ?_) (a' := ?_) #[true, true, true, false, false, false, false, false, false, false, false, false, false, false, false, false, false, false] rfl rfl (by kernel_rfl) (fun _ _ _ h => h) (Or.inl ⟨by rfl, ?_⟩) ?_ ?_
      rotate_left
      ·intro w'
       go_simp
       first | with_reducible rfl | skip
      rotate_left
      ·simp only [Act.put, zA, zB, zC]
       rfl
      refine pure_ (i := 3) (N := some 38) (v := ?_) (a' := ?_) #[true, true, true, true, false, false, false, false, false, false, false, false, false, false, false, false, false, false] rfl rfl (by kernel_rfl) (fun _ _ _ h => h) (Or.inl ⟨by rfl, ?_⟩) ?_ ?_
      rotate_left
      ·intro w'
       go_simp
       first | with_reducible rfl | skip
      rotate_left
      ·simp only [Act.put, zA, zB, zC]
       rfl
      refine pure_ (i := 4) (N := some 39) (v := undef) (a' := ?_) #[true, true, true, true, true, false, false, false, false, false, false, false, false, false, false, false, false, false] rfl rfl (by kernel_rfl) (fun _ _ _ h => h) (Or.inr ⟨by rfl, rfl⟩) ?_ ?_
      rotate_left
      ·simp only [Act.put, zA, zB, zC]
       rfl
      refine pure_ (i := 5) (N := some 40) (v := undef) (a' := ?_) #[true, true, true, true, true, true, false, false, false, false, false, false, false, false, false, false, false, false] rfl rfl (by kernel_rfl) (fun _ _ _ h => h) (Or.inr ⟨by rfl, rfl⟩) ?_ ?_
      rotate_left
      ·simp only [Act.put, zA, zB, zC]
       rfl
      refine pure_ (i := 6) (N := some 41) (v := undef) (a' := ?_) #[true, true, true, true, true, true, true, false, false, false, false, false, false, false, false, false, false, false] rfl rfl (by kernel_rfl) (fun _ _ _ h => h) (Or.inr ⟨by rfl, rfl⟩) ?_ ?_
      rotate_left
      ·simp only [Act.put, zA, zB, zC]
       rfl
      refine pure_ (i := 7) (N := some 42) (v := undef) (a' := ?_) #[true, true, true, true, true, true, true, true, false, false, false, false, false, false, false, false, false, false] rfl rfl (by kernel_rfl) (fun _ _ _ h => h) (Or.inr ⟨by rfl, rfl⟩) ?_ ?_
      rotate_left
      ·simp only [Act.put, zA, zB, zC]
       rfl
      refine pure_ (i := 8) (N := some 43) (v := undef) (a' := ?_) #[true, true, true, true, true, true, true, true, true, false, false, false, false, false, false, false, false, false] rfl rfl (by kernel_rfl) (fun _ _ _ h => h) (Or.inr ⟨by rfl, rfl⟩) ?_ ?_
      rotate_left
      ·simp only [Act.put, zA, zB, zC]
       rfl
      refine pure_ (i := 9) (N := some 44) (v := undef) (a' := ?_) #[true, true, true, true, true, true, true, true, true, true, false, false, false, false, false, false, false, false] rfl rfl (by kernel_rfl) (fun _ _ _ h => h) (Or.inr ⟨by rfl, rfl⟩) ?_ ?_
      rotate_left
      ·simp only [Act.put, zA, zB, zC]
       rfl
      refine pure_ (i := 10) (N := some 45) (v := undef) (a' := ?_) #[true, true, true, true, true, true, true, true, true, true, true, false, false, false, false, false, false, false] rfl rfl (by kernel_rfl) (fun _ _ _ h => h) (Or.inr ⟨by rfl, rfl⟩) ?_ ?_
      rotate_left
      ·simp only [Act.put, zA, zB, zC]
       rfl
      refine pure_ (i := 11) (N := some 46) (v := undef) (a' := ?_) #[true, true, true, true, true, true, true, true, true, true, true, true, false, false, false, false, false, false] rfl rfl (by kernel_rfl) (fun _ _ _ h => h) (Or.inr ⟨by rfl, rfl⟩) ?_ ?_
      rotate_left
      ·simp only [Act.put, zA, zB, zC]
       rfl
      refine pure_ (i := 12) (N := some 47) (v := undef) (a' := ?_) #[true, true, true, true, true, true, true, true, true, true, true, true, true, false, false, false, false, false] rfl rfl (by kernel_rfl) (fun _ _ _ h => h) (Or.inr ⟨by rfl, rfl⟩) ?_ ?_
      rotate_left
      ·simp only [Act.put, zA, zB, zC]
       rfl
      refine pure_ (i := 13) (N := some 48) (v := undef) (a' := ?_) #[true, true, true, true, true, true, true, true, true, true, true, true, true, true, false, false, false, false] rfl rfl (by kernel_rfl) (fun _ _ _ h => h) (Or.inr ⟨by rfl, rfl⟩) ?_ ?_
      rotate_left
      ·simp only [Act.put, zA, zB, zC]
       rfl
      refine pure_ (i := 14) (N := some 49) (v := undef) (a' := ?_) #[true, true, true, true, true, true, true, true, true, true, true, true, true, true, true, false, false, false] rfl rfl (by kernel_rfl) (fun _ _ _ h => h) (Or.inr ⟨by rfl, rfl⟩) ?_ ?_
      rotate_left
      ·simp only [Act.put, zA, zB, zC]
       rfl
      refine pure_ (i := 15) (N := some 50) (v := undef) (a' := ?_) #[true, true, true, true, true, true, true, true, true, true, true, true, true, true, true, true, false, false] rfl rfl (by kernel_rfl) (fun _ _ _ h => h) (Or.inr ⟨by rfl, rfl⟩) ?_ ?_
      rotate_left
      ·simp only [Act.put, zA, zB, zC]
       rfl
      refine pure_ (i := 16) (N := some 51) (v := undef) (a' := ?_) #[true, true, true, true, true, true, true, true, true, true, true, true, true, true, true, true, true, false] rfl rfl (by kernel_rfl) (fun _ _ _ h => h) (Or.inr ⟨by rfl, rfl⟩) ?_ ?_
      rotate_left
      ·simp only [Act.put, zA, zB, zC]
       rfl
      refine pure_ (i := 17) (N := some 52) (v := ?_) (a' := ?_) #[true, true, true, true, true, true, true, true, true, true, true, true, true, true, true, true, true, true] rfl rfl (by kernel_rfl) (fun _ _ _ h => h) (Or.inl ⟨by rfl, ?_⟩) ?_ ?_
      rotate_left
      ·intro w'
       go_simp
       first | with_reducible rfl | skip
      rotate_left
      ·simp only [Act.put, zA, zB, zC]
       rfl
      refine done_ (by kernel_rfl) ?_
      refine NoPanic.normal ?_
      obtain ⟨m0, m1, m2, f0, f1, f2⟩ := box3 hC5.2.2.2.2.vbox
      obtain ⟨m3, f3⟩ := bf1 hC5.2.2.2.2.rbox
      have n0 := (HG.out.below hC5.2.2.2.2.below).n0
      have n1 := (HG.out.below hC5.2.2.2.2.below).n1
      have n2 := (HG.out.below hC5.2.2.2.2.below).n2
      go_wp2
      obtain ⟨hv3, hr3⟩ := wo_stored hC5.2.2.2.2.vbox hC5.2.2.2.2.rbox (.int .i64 0) (.int .i64 0) (.string ⟨#[]⟩) (.int .i64 122)
      exact ⟨_, wo_final (w.heap.size + 1) _ rfl rfl _ 0 0 122 ⟨#[]⟩ hv3 hr3, HQF.out HFx.out _ (wo_below hC5.2.2.2.2.below (by omega) _ _ _ _)⟩
     ·have HFx := Aside0.mk hFx
      subst g0
      have b1 : (y.f0 != 0) = false := by simpa using g1
      clear hFx g1
      go_upto_region 9 with (fail)
      rw [← HW2.out]
      refine wp_region_noPanic ?_
      refine start_ (n := 18) (S := (fun w' => w'.cell? ⟨(adc.add (i * 2)).block, (adc.add (i * 2)).off + 1, none⟩ = some (.int .i64 kc) ∧ w'.cell? ⟨wr.heap.size, 0, none⟩ = some (.int .i64 y.f0) ∧ w'.cell? ⟨wr.heap.size, 1, none⟩ = some (.int .i64 y.f1) ∧ w'.cell? ⟨wr.heap.size, 2, none⟩ = some (.string y.f2) ∧ WoS x A c w w')) (ds := []) #[false, false, false, false, false, false, false, false, false, false, false, false, false, false, false, false, false, false] (by kernel_rfl) rfl rfl (wox_step hCC (below_drew1 (Below.refl _ _))) (fun hHeld => ?_)
      refine take_ (i := 0) (N := some 35) (v := ?_) (a' := ?_) #[true, false, false, false, false, false, false, false, false, false, false, false, false, false, false, false, false, false] rfl rfl (by kernel_rfl) (fun _ _ _ h => h) (Or.inl ⟨by rfl, ?_⟩) hHeld ?_ ?_
      rotate_left
      ·rintro w' ⟨s0, s1, s2, s3, s4⟩
       go_simp
       with_reducible rfl
      rotate_left
      ·simp only [Act.put, zA, zB, zC]
       rfl
      refine one1_ (i := 1) (N := some 36) #[true, true, false, false, false, false, false, false, false, false, false, false, false, false, false, false, false, false] rfl rfl (by kernel_rfl) (by decide) (fun K hK => ?_)
      refine goes_ Tryd.func35 (by kernel_rfl) rfl #[.agg #[.int .i64 y.f0, .int .i64 y.f1, .string y.f2]] (by rfl) rfl rfl (by (try simp only [List.map_toArray, List.map_cons, List.map_nil]); first | done | rfl) ?_
      refine (value_Check.calls KC y.f0 y.f1 y.f2 _ _ hKC).mono ?_
      rintro e w5 ⟨rfl, hb5⟩
      have hC5 := wox_step hHeld hb5
      refine ⟨_, rfl, ?_⟩
      clear hHeld
      refine hK.out _ _ (hC5) (fun hHeld => ?_)
      clear hK K
      refine norm_ (a' := ?_) ?_ ?_
      rotate_left
      ·show Act.put _ (some 36) _ = _
       simp only [Act.put, zA, zB, zC]
       rfl
      refine pure_ (i := 2) (N := some 37) (v := ?_) (a' := ?_) #[true, true, true, false, false, false, false, false, false, false, false, false, false, false, false, false, false, false] rfl rfl (by kernel_rfl) (fun _ _ _ h => h) (Or.inl ⟨by rfl, ?_⟩) ?_ ?_
      rotate_left
      ·intro w'
       go_simp
       first | with_reducible rfl | skip
      rotate_left
      ·simp only [Act.put, zA, zB, zC]
       rfl
      refine pure_ (i := 3) (N := some 38) (v := ?_) (a' := ?_) #[true, true, true, true, false, false, false, false, false, false, false, false, false, false, false, false, false, false] rfl rfl (by kernel_rfl) (fun _ _ _ h => h) (Or.inl ⟨by rfl, ?_⟩) ?_ ?_
      rotate_left
      ·intro w'
       go_simp
       first | with_reducible rfl | skip
      rotate_left
      ·simp only [Act.put, zA, zB, zC]
       rfl
      refine pure_ (i := 4) (N := some 39) (v := ?_) (a' := ?_) #[true, true, true, true, true, false, false, false, false, false, false, false, false, false, false, false, false, false] rfl rfl (by kernel_rfl) (fun _ _ _ h => h) (Or.inl ⟨by rfl, ?_⟩) ?_ ?_
      rotate_left
      ·intro w'
       go_simp
       first | with_reducible rfl | skip
      rotate_left
      ·simp only [Act.put, zA, zB, zC]
       rfl
      refine take_ (i := 5) (N := some 40) (v := ?_) (a' := ?_) #[true, true, true, true, true, true, false, false, false, false, false, false, false, false, false, false, false, false] rfl rfl (by kernel_rfl) (fun _ _ _ h => h) (Or.inl ⟨by rfl, ?_⟩) hHeld ?_ ?_
      rotate_left
      ·rintro w' ⟨s0, s1, s2, s3, s4⟩
       go_simp
       with_reducible rfl
      rotate_left
      ·simp only [Act.put, zA, zB, zC]
       rfl
      refine pure_ (i := 6) (N := some 41) (v := ?_) (a' := ?_) #[true, true, true, true, true, true, true, false, false, false, false, false, false, false, false, false, false, false] rfl rfl (by kernel_rfl) (fun _ _ _ h => h) (Or.inl ⟨by rfl, ?_⟩) ?_ ?_
      rotate_left
      ·intro w'
       go_simp
       first | with_reducible rfl | skip
      rotate_left
      ·simp only [Act.put, zA, zB, zC]
       rfl
      refine pure_ (i := 7) (N := some 42) (v := ?_) (a' := ?_) #[true, true, true, true, true, true, true, true, false, false, false, false, false, false, false, false, false, false] rfl rfl (by kernel_rfl) (fun _ _ _ h => h) (Or.inl ⟨by rfl, ?_⟩) ?_ ?_
      rotate_left
      ·intro w'
       go_simp
       first | with_reducible rfl | skip
      rotate_left
      ·simp only [Act.put, zA, zB, zC]
       rfl
      refine pure_ (i := 8) (N := some 43) (v := undef) (a' := ?_) #[true, true, true, true, true, true, true, true, true, false, false, false, false, false, false, false, false, false] rfl rfl (by kernel_rfl) (fun _ _ _ h => h) (Or.inr ⟨by rfl, rfl⟩) ?_ ?_
      rotate_left
      ·simp only [Act.put, zA, zB, zC]
       rfl
      refine pure_ (i := 9) (N := some 44) (v := undef) (a' := ?_) #[true, true, true, true, true, true, true, true, true, true, false, false, false, false, false, false, false, false] rfl rfl (by kernel_rfl) (fun _ _ _ h => h) (Or.inr ⟨by rfl, rfl⟩) ?_ ?_
      rotate_left
      ·simp only [Act.put, zA, zB, zC]
       rfl
      refine pure_ (i := 10) (N := some 45) (v := undef) (a' := ?_) #[true, true, true, true, true, true, true, true, true, true, true, false, false, false, false, false, false, false] rfl rfl (by kernel_rfl) (fun _ _ _ h => h) (Or.inr ⟨by rfl, rfl⟩) ?_ ?_
      rotate_left
      ·simp only [Act.put, zA, zB, zC]
       rfl
      refine pure_ (i := 11) (N := some 46) (v := undef) (a' := ?_) #[true, true, true, true, true, true, true, true, true, true, true, true, false, false, false, false, false, false] rfl rfl (by kernel_rfl) (fun _ _ _ h => h) (Or.inr ⟨by rfl, rfl⟩) ?_ ?_
      rotate_left
      ·simp only [Act.put, zA, zB, zC]
       rfl
      refine pure_ (i := 12) (N := some 47) (v := undef) (a' := ?_) #[true, true, true, true, true, true, true, true, true, true, true, true, true, false, false, false, false, false] rfl rfl (by kernel_rfl) (fun _ _ _ h => h) (Or.inr ⟨by rfl, rfl⟩) ?_ ?_
      rotate_left
      ·simp only [Act.put, zA, zB, zC]
       rfl
      refine pure_ (i := 13) (N := some 48) (v := undef) (a' := ?_) #[true, true, true, true, true, true, true, true, true, true, true, true, true, true, false, false, false, false] rfl rfl (by kernel_rfl) (fun _ _ _ h => h) (Or.inr ⟨by rfl, rfl⟩) ?_ ?_
      rotate_left
      ·simp only [Act.put, zA, zB, zC]
       rfl
      refine pure_ (i := 14) (N := some 49) (v := undef) (a' := ?_) #[true, true, true, true, true, true, true, true, true, true, true, true, true, true, true, false, false, false] rfl rfl (by kernel_rfl) (fun _ _ _ h => h) (Or.inr ⟨by rfl, rfl⟩) ?_ ?_
      rotate_left
      ·simp only [Act.put, zA, zB, zC]
       rfl
      refine pure_ (i := 15) (N := some 50) (v := undef) (a' := ?_) #[true, true, true, true, true, true, true, true, true, true, true, true, true, true, true, true, false, false] rfl rfl (by kernel_rfl) (fun _ _ _ h => h) (Or.inr ⟨by rfl, rfl⟩) ?_ ?_
      rotate_left
      ·simp only [Act.put, zA, zB, zC]
       rfl
      refine pure_ (i := 16) (N := some 51) (v := ?_) (a' := ?_) #[true, true, true, true, true, true, true, true, true, true, true, true, true, true, true, true, true, false] rfl rfl (by kernel_rfl) (fun _ _ _ h => h) (Or.inl ⟨by rfl, ?_⟩) ?_ ?_
      rotate_left
      ·intro w'
       go_simp
       first | with_reducible rfl | skip
      rotate_left
      ·simp only [Act.put, zA, zB, zC]
       rfl
      refine pure_ (i := 17) (N := some 52) (v := ?_) (a' := ?_) #[true, true, true, true, true, true, true, true, true, true, true, true, true, true, true, true, true, true] rfl rfl (by kernel_rfl) (fun _ _ _ h => h) (Or.inl ⟨by rfl, ?_⟩) ?_ ?_
      rotate_left
      ·intro w'
       go_simp
       first | with_reducible rfl | skip
      rotate_left
      ·simp only [Act.put, zA, zB, zC]
       rfl
      refine done_ (by kernel_rfl) ?_
      refine NoPanic.normal ?_
      go_wp2
      go_roundg k1
      case measure => omega
      case rel => exact ⟨i + 1, by congr 1, ⟨by have := HI.out; omega⟩, ⟨hC5.2.2.2.2⟩, HFx⟩
     ·have HFx := Aside0.mk hFx
      subst g0
      have b1 : (y.f0 != 0) = true := by simpa using g1
      have b2 : (y.f0 != kc) = false := by simpa using g2
      clear hFx g1 g2
      go_upto_region 9 with (fail)
      rw [← HW2.out]
      refine wp_region_noPanic ?_
      refine start_ (n := 18) (S := (fun w' => w'.cell? ⟨(adc.add (i * 2)).block, (adc.add (i * 2)).off + 1, none⟩ = some (.int .i64 kc) ∧ w'.cell? ⟨wr.heap.size, 0, none⟩ = some (.int .i64 y.f0) ∧ w'.cell? ⟨wr.heap.size, 1, none⟩ = some (.int .i64 y.f1) ∧ w'.cell? ⟨wr.heap.size, 2, none⟩ = some (.string y.f2) ∧ WoS x A c w w')) (ds := []) #[false, false, false, false, false, false, false, false, false, false, false, false, false, false, false, false, false, false] (by kernel_rfl) rfl rfl (wox_step hCC (below_drew1 (Below.refl _ _))) (fun hHeld => ?_)
      refine take_ (i := 0) (N := some 35) (v := ?_) (a' := ?_) #[true, false, false, false, false, false, false, false, false, false, false, false, false, false, false, false, false, false] rfl rfl (by kernel_rfl) (fun _ _ _ h => h) (Or.inl ⟨by rfl, ?_⟩) hHeld ?_ ?_
      rotate_left
      ·rintro w' ⟨s0, s1, s2, s3, s4⟩
       go_simp
       with_reducible rfl
      rotate_left
      ·simp only [Act.put, zA, zB, zC]
       rfl
      refine one1_ (i := 1) (N := some 36) #[true, true, false, false, false, false, false, false, false, false, false, false, false, false, false, false, false, false] rfl rfl (by kernel_rfl) (by decide) (fun K hK => ?_)
      refine goes_ Tryd.func35 (by kernel_rfl) rfl #[.agg #[.int .i64 y.f0, .int .i64 y.f1, .string y.f2]] (by rfl) rfl rfl (by (try simp only [List.map_toArray, List.map_cons, List.map_nil]); first | done | rfl) ?_
      refine (value_Check.calls KC y.f0 y.f1 y.f2 _ _ hKC).mono ?_
      rintro e w5 ⟨rfl, hb5⟩
      have hC5 := wox_step hHeld hb5
      refine ⟨_, rfl, ?_⟩
      clear hHeld
      refine hK.out _ _ (hC5) (fun hHeld => ?_)
      clear hK K
      refine norm_ (a' := ?_) ?_ ?_
      rotate_left
      ·show Act.put _ (some 36) _ = _
       simp only [Act.put, zA, zB, zC]
       rfl
      refine pure_ (i := 2) (N := some 37) (v := ?_) (a' := ?_) #[true, true, true, false, false, false, false, false, false, false, false, false, false, false, false, false, false, false] rfl rfl (by kernel_rfl) (fun _ _ _ h => h) (Or.inl ⟨by rfl, ?_⟩) ?_ ?_
      rotate_left
      ·intro w'
       go_simp
       first | with_reducible rfl | skip
      rotate_left
      ·simp only [Act.put, zA, zB, zC]
       rfl
      refine pure_ (i := 3) (N := some 38) (v := ?_) (a' := ?_) #[true, true, true, true, false, false, false, false, false, false, false, false, false, false, false, false, false, false] rfl rfl (by kernel_rfl) (fun _ _ _ h => h) (Or.inl ⟨by rfl, ?_⟩) ?_ ?_
      rotate_left
      ·intro w'
       go_simp
       first | with_reducible rfl | skip
      rotate_left
      ·simp only [Act.put, zA, zB, zC]
       rfl
      refine pure_ (i := 4) (N := some 39) (v := ?_) (a' := ?_) #[true, true, true, true, true, false, false, false, false, false, false, false, false, false, false, false, false, false] rfl rfl (by kernel_rfl) (fun _ _ _ h => h) (Or.inl ⟨by rfl, ?_⟩) ?_ ?_
      rotate_left
      ·intro w'
       go_simp
       first | with_reducible rfl | skip
      rotate_left
      ·simp only [Act.put, zA, zB, zC]
       rfl
      refine take_ (i := 5) (N := some 40) (v := ?_) (a' := ?_) #[true, true, true, true, true, true, false, false, false, false, false, false, false, false, false, false, false, false] rfl rfl (by kernel_rfl) (fun _ _ _ h => h) (Or.inl ⟨by rfl, ?_⟩) hHeld ?_ ?_
      rotate_left
      ·rintro w' ⟨s0, s1, s2, s3, s4⟩
       go_simp
       with_reducible rfl
      rotate_left
      ·simp only [Act.put, zA, zB, zC]
       rfl
      refine pure_ (i := 6) (N := some 41) (v := ?_) (a' := ?_) #[true, true, true, true, true, true, true, false, false, false, false, false, false, false, false, false, false, false] rfl rfl (by kernel_rfl) (fun _ _ _ h => h) (Or.inl ⟨by rfl, ?_⟩) ?_ ?_
      rotate_left
      ·intro w'
       go_simp
       first | with_reducible rfl | skip
      rotate_left
      ·simp only [Act.put, zA, zB, zC]
       rfl
      refine pure_ (i := 7) (N := some 42) (v := ?_) (a' := ?_) #[true, true, true, true, true, true, true, true, false, false, false, false, false, false, false, false, false, false] rfl rfl (by kernel_rfl) (fun _ _ _ h => h) (Or.inl ⟨by rfl, ?_⟩) ?_ ?_
      rotate_left
      ·intro w'
       go_simp
       first | with_reducible rfl | skip
      rotate_left
      ·simp only [Act.put, zA, zB, zC]
       rfl
      refine pure_ (i := 8) (N := some 43) (v := ?_) (a' := ?_) #[true, true, true, true, true, true, true, true, true, false, false, false, false, false, false, false, false, false] rfl rfl (by kernel_rfl) (fun _ _ _ h => h) (Or.inl ⟨by rfl, ?_⟩) ?_ ?_
      rotate_left
      ·intro w'
       go_simp
       first | with_reducible rfl | skip
      rotate_left
      ·simp only [Act.put, zA, zB, zC]
       rfl
      refine pure_ (i := 10) (N := some 45) (v := ?_) (a' := ?_) #[true, true, true, true, true, true, true, true, true, false, true, false, false, false, false, false, false, false] rfl rfl (by kernel_rfl) (fun _ _ _ h => h) (Or.inl ⟨by rfl, ?_⟩) ?_ ?_
      rotate_left
      ·intro w'
       go_simp
       first | with_reducible rfl | skip
      rotate_left
      ·simp only [Act.put, zA, zB, zC]
       rfl
      refine pure_ (i := 11) (N := some 46) (v := ?_) (a' := ?_) #[true, true, true, true, true, true, true, true, true, false, true, true, false, false, false, false, false, false] rfl rfl (by kernel_rfl) (fun _ _ _ h => h) (Or.inl ⟨by rfl, ?_⟩) ?_ ?_
      rotate_left
      ·intro w'
       go_simp
       first | with_reducible rfl | skip
      rotate_left
      ·simp only [Act.put, zA, zB, zC]
       rfl
      refine pure_ (i := 12) (N := some 47) (v := ?_) (a' := ?_) #[true, true, true, true, true, true, true, true, true, false, true, true, true, false, false, false, false, false] rfl rfl (by kernel_rfl) (fun _ _ _ h => h) (Or.inl ⟨by rfl, ?_⟩) ?_ ?_
      rotate_left
      ·intro w'
       go_simp
       first | with_reducible rfl | skip
      rotate_left
      ·simp only [Act.put, zA, zB, zC]
       rfl
      refine pure_ (i := 13) (N := some 48) (v := ?_) (a' := ?_) #[true, true, true, true, true, true, true, true, true, false, true, true, true, true, false, false, false, false] rfl rfl (by kernel_rfl) (fun _ _ _ h => h) (Or.inl ⟨by rfl, ?_⟩) ?_ ?_
      rotate_left
      ·intro w'
       go_simp
       first | with_reducible rfl | skip
      rotate_left
      ·simp only [Act.put, zA, zB, zC]
       rfl
      refine take_ (i := 9) (N := some 44) (v := ?_) (a' := ?_) #[true, true, true, true, true, true, true, true, true, true, true, true, true, true, false, false, false, false] rfl rfl (by kernel_rfl) (fun _ _ _ h => h) (Or.inl ⟨by rfl, ?_⟩) hHeld ?_ ?_
      rotate_left
      ·rintro w' ⟨s0, s1, s2, s3, s4⟩
       go_simp
       with_reducible rfl
      rotate_left
      ·simp only [Act.put, zA, zB, zC]
       rfl
      refine take_ (i := 14) (N := some 49) (v := ?_) (a' := ?_) #[true, true, true, true, true, true, true, true, true, true, true, true, true, true, true, false, false, false] rfl rfl (by kernel_rfl) (fun _ _ _ h => h) (Or.inl ⟨by rfl, ?_⟩) hHeld ?_ ?_
      rotate_left
      ·rintro w' ⟨s0, s1, s2, s3, s4⟩
       go_simp
       with_reducible rfl
      rotate_left
      ·simp only [Act.put, zA, zB, zC]
       rfl
      refine pure_ (i := 15) (N := some 50) (v := ?_) (a' := ?_) #[true, true, true, true, true, true, true, true, true, true, true, true, true, true, true, true, false, false] rfl rfl (by kernel_rfl) (fun _ _ _ h => h) (Or.inl ⟨by rfl, ?_⟩) ?_ ?_
      rotate_left
      ·intro w'
       go_simp
       first | with_reducible rfl | skip
      rotate_left
      ·simp only [Act.put, zA, zB, zC]
       rfl
      refine pure_ (i := 16) (N := some 51) (v := ?_) (a' := ?_) #[true, true, true, true, true, true, true, true, true, true, true, true, true, true, true, true, true, false] rfl rfl (by kernel_rfl) (fun _ _ _ h => h) (Or.inl ⟨by rfl, ?_⟩) ?_ ?_
      rotate_left
      ·intro w'
       go_simp
       first | with_reducible rfl | skip
      rotate_left
      ·simp only [Act.put, zA, zB, zC]
       rfl
      refine pure_ (i := 17) (N := some 52) (v := ?_) (a' := ?_) #[true, true, true, true, true, true, true, true, true, true, true, true, true, true, true, true, true, true] rfl rfl (by kernel_rfl) (fun _ _ _ h => h) (Or.inl ⟨by rfl, ?_⟩) ?_ ?_
      rotate_left
      ·intro w'
       go_simp
       first | with_reducible rfl | skip
      rotate_left
      ·simp only [Act.put, zA, zB, zC]
       rfl
      refine done_ (by kernel_rfl) ?_
      refine NoPanic.normal ?_
      go_wp2
      go_roundg k1
      case measure => omega
      case rel => exact ⟨i + 1, by congr 1, ⟨by have := HI.out; omega⟩, ⟨hC5.2.2.2.2⟩, HFx⟩
     ·have HFx := Aside0.mk hFx
      subst g0
      have b1 : (y.f0 != 0) = true := by simpa using g1
      have b2 : (y.f0 != kc) = true := by simpa using g2
      clear hFx g1 g2
      go_upto_region 9 with (fail)
      rw [← HW2.out]
      refine wp_region_noPanic ?_
      refine start_ (n := 18) (S := (fun w' => w'.cell? ⟨(adc.add (i * 2)).block, (adc.add (i * 2)).off + 1, none⟩ = some (.int .i64 kc) ∧ w'.cell? ⟨wr.heap.size, 0, none⟩ = some (.int .i64 y.f0) ∧ w'.cell? ⟨wr.heap.size, 1, none⟩ = some (.int .i64 y.f1) ∧ w'.cell? ⟨wr.heap.size, 2, none⟩ = some (.string y.f2) ∧ WoS x A c w w')) (ds := []) #[false, false, false, false, false, false, false, false, false, false, false, false, false, false, false, false, false, false] (by kernel_rfl) rfl rfl (wox_step hCC (below_drew1 (Below.refl _ _))) (fun hHeld => ?_)
      refine take_ (i := 0) (N := some 35) (v := ?_) (a' := ?_) #[true, false, false, false, false, false, false, false, false, false, false, false, false, false, false, false, false, false] rfl rfl (by kernel_rfl) (fun _ _ _ h => h) (Or.inl ⟨by rfl, ?_⟩) hHeld ?_ ?_
      rotate_left
      ·rintro w' ⟨s0, s1, s2, s3, s4⟩
       go_simp
       with_reducible rfl
      rotate_left
      ·simp only [Act.put, zA, zB, zC]
       rfl
      refine one1_ (i := 1) (N := some 36) #[true, true, false, false, false, false, false, false, false, false, false, false, false, false, false, false, false, false] rfl rfl (by kernel_rfl) (by decide) (fun K hK => ?_)
      refine goes_ Tryd.func35 (by kernel_rfl) rfl #[.agg #[.int .i64 y.f0, .int .i64 y.f1, .string y.f2]] (by rfl) rfl rfl (by (try simp only [List.map_toArray, List.map_cons, List.map_nil]); first | done | rfl) ?_
      refine (value_Check.calls KC y.f0 y.f1 y.f2 _ _ hKC).mono ?_
      rintro e w5 ⟨rfl, hb5⟩
      have hC5 := wox_step hHeld hb5
      refine ⟨_, rfl, ?_⟩
      clear hHeld
      refine hK.out _ _ (hC5) (fun hHeld => ?_)
      clear hK K
      refine norm_ (a' := ?_) ?_ ?_
      rotate_left
      ·show Act.put _ (some 36) _ = _
       simp only [Act.put, zA, zB, zC]
       rfl
      refine pure_ (i := 2) (N := some 37) (v := ?_) (a' := ?_) #[true, true, true, false, false, false, false, false, false, false, false, false, false, false, false, false, false, false] rfl rfl (by kernel_rfl) (fun _ _ _ h => h) (Or.inl ⟨by rfl, ?_⟩) ?_ ?_
      rotate_left
      ·intro w'
       go_simp
       first | with_reducible rfl | skip
      rotate_left
      ·simp only [Act.put, zA, zB, zC]
       rfl
      refine pure_ (i := 3) (N := some 38) (v := ?_) (a' := ?_) #[true, true, true, true, false, false, false, false, false, false, false, false, false, false, false, false, false, false] rfl rfl (by kernel_rfl) (fun _ _ _ h => h) (Or.inl ⟨by rfl, ?_⟩) ?_ ?_
      rotate_left
      ·intro w'
       go_simp
       first | with_reducible rfl | skip
      rotate_left
      ·simp only [Act.put, zA, zB, zC]
       rfl
      refine pure_ (i := 4) (N := some 39) (v := ?_) (a' := ?_) #[true, true, true, true, true, false, false, false, false, false, false, false, false, false, false, false, false, false] rfl rfl (by kernel_rfl) (fun _ _ _ h => h) (Or.inl ⟨by rfl, ?_⟩) ?_ ?_
      rotate_left
      ·intro w'
       go_simp
       first | with_reducible rfl | skip
      rotate_left
      ·simp only [Act.put, zA, zB, zC]
       rfl
      refine take_ (i := 5) (N := some 40) (v := ?_) (a' := ?_) #[true, true, true, true, true, true, false, false, false, false, false, false, false, false, false, false, false, false] rfl rfl (by kernel_rfl) (fun _ _ _ h => h) (Or.inl ⟨by rfl, ?_⟩) hHeld ?_ ?_
      rotate_left
      ·rintro w' ⟨s0, s1, s2, s3, s4⟩
       go_simp
       with_reducible rfl
      rotate_left
      ·simp only [Act.put, zA, zB, zC]
       rfl
      refine pure_ (i := 6) (N := some 41) (v := ?_) (a' := ?_) #[true, true, true, true, true, true, true, false, false, false, false, false, false, false, false, false, false, false] rfl rfl (by kernel_rfl) (fun _ _ _ h => h) (Or.inl ⟨by rfl, ?_⟩) ?_ ?_
      rotate_left
      ·intro w'
       go_simp
       first | with_reducible rfl | skip
      rotate_left
      ·simp only [Act.put, zA, zB, zC]
       rfl
      refine pure_ (i := 7) (N := some 42) (v := ?_) (a' := ?_) #[true, true, true, true, true, true, true, true, false, false, false, false, false, false, false, false, false, false] rfl rfl (by kernel_rfl) (fun _ _ _ h => h) (Or.inl ⟨by rfl, ?_⟩) ?_ ?_
      rotate_left
      ·intro w'
       go_simp
       first | with_reducible rfl | skip
      rotate_left
      ·simp only [Act.put, zA, zB, zC]
       rfl
      refine pure_ (i := 8) (N := some 43) (v := ?_) (a' := ?_) #[true, true, true, true, true, true, true, true, true, false, false, false, false, false, false, false, false, false] rfl rfl (by kernel_rfl) (fun _ _ _ h => h) (Or.inl ⟨by rfl, ?_⟩) ?_ ?_
      rotate_left
      ·intro w'
       go_simp
       first | with_reducible rfl | skip
      rotate_left
      ·simp only [Act.put, zA, zB, zC]
       rfl
      refine pure_ (i := 10) (N := some 45) (v := ?_) (a' := ?_) #[true, true, true, true, true, true, true, true, true, false, true, false, false, false, false, false, false, false] rfl rfl (by kernel_rfl) (fun _ _ _ h => h) (Or.inl ⟨by rfl, ?_⟩) ?_ ?_
      rotate_left
      ·intro w'
       go_simp
       first | with_reducible rfl | skip
      rotate_left
      ·simp only [Act.put, zA, zB, zC]
       rfl
      refine pure_ (i := 11) (N := some 46) (v := ?_) (a' := ?_) #[true, true, true, true, true, true, true, true, true, false, true, true, false, false, false, false, false, false] rfl rfl (by kernel_rfl) (fun _ _ _ h => h) (Or.inl ⟨by rfl, ?_⟩) ?_ ?_
      rotate_left
      ·intro w'
       go_simp
       first | with_reducible rfl | skip
      rotate_left
      ·simp only [Act.put, zA, zB, zC]
       rfl
      refine pure_ (i := 12) (N := some 47) (v := ?_) (a' := ?_) #[true, true, true, true, true, true, true, true, true, false, true, true, true, false, false, false, false, false] rfl rfl (by kernel_rfl) (fun _ _ _ h => h) (Or.inl ⟨by rfl, ?_⟩) ?_ ?_
      rotate_left
      ·intro w'
       go_simp
       first | with_reducible rfl | skip
      rotate_left
      ·simp only [Act.put, zA, zB, zC]
       rfl
      refine pure_ (i := 13) (N := some 48) (v := ?_) (a' := ?_) #[true, true, true, true, true, true, true, true, true, false, true, true, true, true, false, false, false, false] rfl rfl (by kernel_rfl) (fun _ _ _ h => h) (Or.inl ⟨by rfl, ?_⟩) ?_ ?_
      rotate_left
      ·intro w'
       go_simp
       first | with_reducible rfl | skip
      rotate_left
      ·simp only [Act.put, zA, zB, zC]
       rfl
      refine take_ (i := 9) (N := some 44) (v := ?_) (a' := ?_) #[true, true, true, true, true, true, true, true, true, true, true, true, true, true, false, false, false, false] rfl rfl (by kernel_rfl) (fun _ _ _ h => h) (Or.inl ⟨by rfl, ?_⟩) hHeld ?_ ?_
      rotate_left
      ·rintro w' ⟨s0, s1, s2, s3, s4⟩
       go_simp
       with_reducible rfl
      rotate_left
      ·simp only [Act.put, zA, zB, zC]
       rfl
      refine take_ (i := 14) (N := some 49) (v := ?_) (a' := ?_) #[true, true, true, true, true, true, true, true, true, true, true, true, true, true, true, false, false, false] rfl rfl (by kernel_rfl) (fun _ _ _ h => h) (Or.inl ⟨by rfl, ?_⟩) hHeld ?_ ?_
      rotate_left
      ·rintro w' ⟨s0, s1, s2, s3, s4⟩
       go_simp
       with_reducible rfl
      rotate_left
      ·simp only [Act.put, zA, zB, zC]
       rfl
      refine pure_ (i := 15) (N := some 50) (v := ?_) (a' := ?_) #[true, true, true, true, true, true, true, true, true, true, true, true, true, true, true, true, false, false] rfl rfl (by kernel_rfl) (fun _ _ _ h => h) (Or.inl ⟨by rfl, ?_⟩) ?_ ?_
      rotate_left
      ·intro w'
       go_simp
       first | with_reducible rfl | skip
      rotate_left
      ·simp only [Act.put, zA, zB, zC]
       rfl
      refine pure_ (i := 16) (N := some 51) (v := ?_) (a' := ?_) #[true, true, true, true, true, true, true, true, true, true, true, true, true, true, true, true, true, false] rfl rfl (by kernel_rfl) (fun _ _ _ h => h) (Or.inl ⟨by rfl, ?_⟩) ?_ ?_
      rotate_left
      ·intro w'
       go_simp
       first | with_reducible rfl | skip
      rotate_left
      ·simp only [Act.put, zA, zB, zC]
       rfl
      refine pure_ (i := 17) (N := some 52) (v := ?_) (a' := ?_) #[true, true, true, true, true, true, true, true, true, true, true, true, true, true, true, true, true, true] rfl rfl (by kernel_rfl) (fun _ _ _ h => h) (Or.inl ⟨by rfl, ?_⟩) ?_ ?_
      rotate_left
      ·intro w'
       go_simp
       first | with_reducible rfl | skip
      rotate_left
      ·simp only [Act.put, zA, zB, zC]
       rfl
      refine done_ (by kernel_rfl) ?_
      refine NoPanic.normal ?_
      obtain ⟨m0, m1, m2, f0, f1, f2⟩ := box3 hC5.2.2.2.2.vbox
      obtain ⟨m3, f3⟩ := bf1 hC5.2.2.2.2.rbox
      have n0 := (HG.out.below hC5.2.2.2.2.below).n0
      have n1 := (HG.out.below hC5.2.2.2.2.below).n1
      have n2 := (HG.out.below hC5.2.2.2.2.below).n2
      go_wp2
      obtain ⟨hv3, hr3⟩ := wo_stored hC5.2.2.2.2.vbox hC5.2.2.2.2.rbox (.int .i64 0) (.int .i64 0) (.string ⟨#[]⟩) (.int .i64 122)
      exact ⟨_, wo_final (w.heap.size + 1) _ rfl rfl _ 0 0 122 ⟨#[]⟩ hv3 hr3, HQF.out HFx.out _ (wo_below hC5.2.2.2.2.below (by omega) _ _ _ _)⟩
    | zero =>
     have hlb : decide (i < row.length) = false := decide_eq_false (by have := HI.out; omega)
     have hFt : F = true := by
      rw [← HFi.out, List.drop_eq_nil_of_le (by have := HI.out; have := HLen.out; omega), List.drop_eq_nil_of_le (by have := HI.out; have := HLen.out; omega)]; rfl
     have hform := form_len (allE_form HAll.out.1)
     have hat : AtE wr ⟨w.heap.size, 0, none⟩ x := AtE.box hl (Kd.C_below HCx.out HS.out.below) HS.out.ebox
     have hctx : Ctx l row B c2 D c3 wr := ⟨HG.out.below HS.out.below, Kd.C_below HD.out HS.out.below, Kd.C_below HRw.out HS.out.below, hc2, hc3, hL, HLen.out⟩
     have hev : ∀ W, Below wr.heap.size wr W → Calls Tryd.prog (opF x.f0) #[.agg #[.slice B l.length c2, .slice D row.length c3], .pointer (some ⟨w.heap.size, 0, none⟩)] W (WoOut (worthE l row x) W) :=
      fun W hW => eval_calls l row B c2 D c3 (HFT.out hFt) (by have := HLen.out; have := HAll.out.2; omega) x hgd HAll.out.1 _ W (hctx.below hW) (hat.below hW)
     have HQT2 := Aside0.mk (HQT.out hFt)
     have hen := errN_worth l row x
     have s0 : wr.cell? ⟨w.heap.size, 0, none⟩ = some (.int .i64 x.f0) := (blk_cell HS.out.ebox 0).trans rfl
     have hop := fun W => op_calls x.f0 hform.1 hform.2.1 W
     have hof := opF_is x.f0
     have HOp := Aside0.mk hop
     clear HQF HQT HFT HFi hat hctx hform HI HLen HAll hop hFt
     obtain ⟨r, hr⟩ : ∃ r, worthE l row x = r := ⟨_, rfl⟩
     rw [hr] at hev hen
     have HQ3 := Aside0.mk (HQT2.out r hr)
     clear HQT2 hr
     obtain ⟨r1, r2⟩ := r
     generalize opF x.f0 = F2 at hev hof HOp
     obtain ⟨fn, hfn, hnm, hbd⟩ : ∃ fn, Tryd.prog.funcs[F2]? = some fn ∧ (fn.name == "runtime.NumGoroutine") = false ∧ fn.body.isSome = true := by
      rcases hof with rfl | rfl | rfl | rfl | rfl | rfl | rfl | rfl | rfl | rfl | rfl | rfl
      ·exact ⟨_, Tryd.func56, by kernel_rfl, by kernel_rfl⟩
      ·exact ⟨_, Tryd.func57, by kernel_rfl, by kernel_rfl⟩
      ·exact ⟨_, Tryd.func58, by kernel_rfl, by kernel_rfl⟩
      ·exact ⟨_, Tryd.func59, by kernel_rfl, by kernel_rfl⟩
      ·exact ⟨_, Tryd.func63, by kernel_rfl, by kernel_rfl⟩
      ·exact ⟨_, Tryd.func64, by kernel_rfl, by kernel_rfl⟩
      ·exact ⟨_, Tryd.func65, by kernel_rfl, by kernel_rfl⟩
      ·exact ⟨_, Tryd.func66, by kernel_rfl, by kernel_rfl⟩
      ·exact ⟨_, Tryd.func67, by kernel_rfl, by kernel_rfl⟩
      ·exact ⟨_, Tryd.func69, by kernel_rfl, by kernel_rfl⟩
      ·exact ⟨_, Tryd.func70, by kernel_rfl, by kernel_rfl⟩
      ·exact ⟨_, Tryd.func71, by kernel_rfl, by kernel_rfl⟩
     have hent := fun (args : Array Value) (W : World) => enters_ (P := Tryd.prog) hfn hnm hbd args W
     clear hfn hnm hbd hof
     by_cases er : r2 = 0
     ·subst er
      have hev2 := fun W hW => WoOut.ok (hev W hW)
      have HEv := Aside0.mk hev2
      clear hev hev2
      go_wp2_with (first
       | (go_at_call 37; refine (HOp.out _).mono ?_; rintro e w4 ⟨rfl, hb4⟩; have hS4 := HS.out.step hb4; have HB4 := Aside0.mk hb4; clear hb4 s0)
       | (refine (HEv.out _ HB4.out).mono ?_; rintro e w5 ⟨rfl, hb5⟩; have hS5 := hS4.step hb5; obtain ⟨m0, m1, m2, f0, f1, f2⟩ := box3 hS5.vbox; obtain ⟨m3, f3⟩ := bf1 hS5.rbox; clear hb5))
      obtain ⟨hv3, hr3⟩ := wo_stored hS5.vbox hS5.rbox (.int .i64 r1.f0) (.int .i64 r1.f1) (.string r1.f2) (.int .i64 0)
      refine leaves_cons (f := 36) (args := #[.pointer (some ⟨w.heap.size + 1, 0, none⟩), .pointer (some ⟨w.heap.size + 1 + 1, 0, none⟩)]) (by simp) (by simp [go_sem]) ?_
      refine (catch_none _ _ _).mono ?_
      rintro e u' w'' ⟨rfl, rfl, rfl⟩
      exact ⟨_, wo_final (w.heap.size + 1) _ rfl rfl _ _ _ _ _ hv3 hr3, HQ3.out _ (wo_below hS5.below (by omega) _ _ _ _)⟩
     ·have hev2 := fun W hW => WoOut.bad er (hev W hW)
      have HEv := Aside0.mk hev2
      have hr1 : r1 = nullV := hen er
      clear hev hev2 hen
      subst hr1
      go_wp2_with (first
       | (go_at_call 37; refine (HOp.out _).mono ?_; rintro e w4 ⟨rfl, hb4⟩; have hS4 := HS.out.step hb4; have HB4 := Aside0.mk hb4; clear hb4 s0)
       | (refine (HEv.out _ HB4.out).mono ?_; rintro e w5 ⟨rfl, hb5⟩; have hS5 := hS4.step hb5; clear hb5))
      refine leaves_cons (f := 36) (args := #[.pointer (some ⟨w.heap.size + 1, 0, none⟩), .pointer (some ⟨w.heap.size + 1 + 1, 0, none⟩)]) (by simp) (by simp [go_sem]) ?_
      refine (catch_err _ _ (by omega) _ _ _ _ r2 _ (HG.out.below hS5.below) hS5.vbox hS5.rbox).mono ?_
      rintro e u' w'' ⟨rfl, rfl, rfl⟩
      obtain ⟨hv3, hr3⟩ := wo_stored hS5.vbox hS5.rbox (.int .i64 0) (.int .i64 0) (.string ⟨#[]⟩) (.int .i64 r2)
      exact ⟨_, wo_final (w.heap.size + 1) _ rfl rfl _ _ _ _ _ hv3 hr3, HQ3.out _ (wo_below hS5.below (by omega) _ _ _ _)⟩
  ·have hd1 : ((row.length : Int) != (l.length : Int)) = true := by simpa using (by omega : ¬ (row.length : Int) = (l.length : Int))
   have hd2 : (row.length != l.length) = true := by simpa using hlen
   have HQ1 := Aside0.mk (HQ.out (nullV, 122) (by unfold worthX; rw [hke, if_neg (fun h => h rfl), if_pos (by cases hF : fitsL l row; rfl; exact absurd (hfl hF) hlen)]))
   clear HQ hke HKX hfl hlen
   go_enter_defers Tryd.func14, Tryd.ntmps14
   go_upto_region 1 with (fail)
   rw [← HW.out]
   go_upto_region 2 with (go_at_call 12; refine hkd.mono ?_; rintro e w2 ⟨rfl, hb2⟩; have hS2 := hS.step hb2; clear hb2)
   obtain ⟨m0, m1, m2, f0, f1, f2⟩ := box3 hS2.vbox
   obtain ⟨m3, f3⟩ := bf1 hS2.rbox
   have n0 := (HG.out.below hS2.below).n0
   have n1 := (HG.out.below hS2.below).n1
   have n2 := (HG.out.below hS2.below).n2
   go_wp2
   obtain ⟨hv3, hr3⟩ := wo_stored hS2.vbox hS2.rbox (.int .i64 0) (.int .i64 0) (.string ⟨#[]⟩) (.int .i64 122)
   exact ⟨_, wo_final (w.heap.size + 1) _ rfl rfl _ 0 0 122 ⟨#[]⟩ hv3 hr3, HQ1.out _ (wo_below hS2.below (by omega) _ _ _ _)⟩
 ·have hne : (ke != 0) = true := by simpa using hk0
  have HQ1 := Aside0.mk (HQ.out (nullV, ke) (by unfold worthX; rw [hke, if_pos hk0]))
  clear HQ hk0 hke HKX
  go_enter_defers Tryd.func14, Tryd.ntmps14
  go_upto_region 1 with (fail)
  rw [← HW.out]
  go_upto_region 2 with (go_at_call 12; refine hkd.mono ?_; rintro e w2 ⟨rfl, hb2⟩; have hS2 := hS.step hb2; clear hb2)
  obtain ⟨m0, m1, m2, f0, f1, f2⟩ := box3 hS2.vbox
  obtain ⟨m3, f3⟩ := bf1 hS2.rbox
  have n0 := (HG.out.below hS2.below).n0
  have n1 := (HG.out.below hS2.below).n1
  have n2 := (HG.out.below hS2.below).n2
  go_wp2
  obtain ⟨hv3, hr3⟩ := wo_stored hS2.vbox hS2.rbox (.int .i64 0) (.int .i64 0) (.string ⟨#[]⟩) (.int .i64 ke)
  exact ⟨_, wo_final (w.heap.size + 1) _ rfl rfl _ 0 0 ke ⟨#[]⟩ hv3 hr3, HQ1.out _ (wo_below hS2.below (by omega) _ _ _ _)⟩
end Go.Proofs.YtopolnbffmljaaaDoor.Q
namespace Go.Proofs.YtopolnbffmljaaaDoor.Q
theorem flat6 : ∀ (css : List (List Value)), (∀ c ∈ css, c.length = 6) → ∀ (j : Nat) (c : List Value) (i : Nat), css[j]? = some c → i < 6 → css.flatten[j * 6 + i]? = c[i]?
 | [], _, j, c, i, h, _ => by simp at h
 | c0 :: css, hl, 0, c, i, h, hi => by
  obtain rfl : c0 = c := Option.some.inj h
  have h0 := hl c0 List.mem_cons_self
  rw [List.flatten_cons, List.getElem?_append_left (by omega)]
  congr 1
  omega
 | c0 :: css, hl, j + 1, c, i, h, hi => by
  have h0 := hl c0 List.mem_cons_self
  rw [List.flatten_cons, List.getElem?_append_right (by omega)]
  have := flat6 css (fun q hq => hl q (List.mem_cons_of_mem _ hq)) j c i (by simpa using h) hi
  rw [← this]
  congr 1
  omega
theorem C_laid (w : World) (g : Nat) (t : TypeId) (fz : Nat × Nat) (ks : List Ex) (css : List (List Value)) (hlen : css.length = ks.length) (hm : ks.length ≤ 9223372036854775807)
  (hK : ∀ (j : Nat) (k : Ex) (c : List Value), ks[j]? = some k → css[j]? = some c → k26.K w k c) (hb : w.heap[g]? = some (.cells css.flatten.toArray t fz)) : Kd.C k26 w (some ⟨g, 0, none⟩) ks.length ks := by
 have hl6 : ∀ c ∈ css, c.length = 6 := by
  intro c hc
  obtain ⟨j, hj, rfl⟩ := List.getElem_of_mem hc
  have := hK j _ _ (List.getElem?_eq_getElem (by omega : j < ks.length)) (List.getElem?_eq_getElem hj)
  exact k26.K_len this
 refine ⟨rfl, hm, fun _ => ⟨⟨g, 0, none⟩, rfl, fun j p hj => ?_⟩⟩
 have hjl : j < css.length := by rw [hlen]; exact (List.getElem?_eq_some_iff.1 hj).1
 have hc := List.getElem?_eq_getElem hjl
 refine ⟨css[j], hl6 _ (List.getElem_mem hjl), hK j p _ hj hc, fun i u hu => ?_⟩
 have hi : i < 6 := by
  have h6 := hl6 _ (List.getElem_mem hjl)
  have := (List.getElem?_eq_some_iff.1 hu).1
  omega
 rw [add_plain]
 refine (cell_of_row w g _ _ t fz hb).trans ?_
 rw [List.getElem?_toArray]
 exact (flat6 css hl6 j _ i hc hi).trans hu
def exC (x : Ex) (A : Option Addr) (c : Nat) : List Value := [.int .i64 x.f0, .string x.f1, .int .i64 x.f2.f0, .int .i64 x.f2.f1, .string x.f2.f2, .slice A x.f3.length c]
theorem C_none (w : World) : Kd.C k26 w none ([] : List Ex).length [] := ⟨rfl, by decide, fun h => absurd h (by decide)⟩
theorem K_leaf (w : World) (x : Ex) (h : x.f3 = []) : k26.K w x (exC x none 0) := by
 have := k26_mk w x (A5 := none) (c5 := 0) (by rw [h]; exact Nat.le_refl _) (by rw [h]; exact C_none w)
 exact this
theorem K_node (w : World) (x : Ex) (A : Option Addr) (c : Nat) (hl : x.f3.length ≤ c) (hC : Kd.C k26 w A x.f3.length x.f3) : k26.K w x (exC x A c) := k26_mk w x hl hC
def oneE (n : Int) : Ex := ⟨2, ⟨#[]⟩, ⟨1, n, ⟨#[]⟩⟩, []⟩
theorem C_two (w : World) (g : Nat) (t : TypeId) (fz : Nat × Nat) (x y : Ex) (a b : List Value) (hx : k26.K w x a) (hy : k26.K w y b) (hb : w.heap[g]? = some (.cells (a ++ b).toArray t fz)) : Kd.C k26 w (some ⟨g, 0, none⟩) [x, y].length [x, y] := by
 refine C_laid w g t fz [x, y] [a, b] rfl (by simp) (fun j k c hk hc => ?_) (by simpa using hb)
 match j, hk, hc with
 | 0, hk, hc => obtain rfl := Option.some.inj hk; obtain rfl := Option.some.inj hc; exact hx
 | 1, hk, hc => obtain rfl := Option.some.inj hk; obtain rfl := Option.some.inj hc; exact hy
theorem C_one (w : World) (g : Nat) (t : TypeId) (fz : Nat × Nat) (x : Ex) (a : List Value) (hx : k26.K w x a) (hb : w.heap[g]? = some (.cells a.toArray t fz)) : Kd.C k26 w (some ⟨g, 0, none⟩) [x].length [x] := by
 refine C_laid w g t fz [x] [a] rfl (by simp) (fun j k c hk hc => ?_) (by simpa using hb)
 match j, hk, hc with
 | 0, hk, hc => obtain rfl := Option.some.inj hk; obtain rfl := Option.some.inj hc; exact hx
theorem C_three (w : World) (g : Nat) (t : TypeId) (fz : Nat × Nat) (x y z : Ex) (a b c : List Value) (hx : k26.K w x a) (hy : k26.K w y b) (hz : k26.K w z c) (hb : w.heap[g]? = some (.cells (a ++ (b ++ c)).toArray t fz)) : Kd.C k26 w (some ⟨g, 0, none⟩) [x, y, z].length [x, y, z] := by
 refine C_laid w g t fz [x, y, z] [a, b, c] rfl (by simp) (fun j k d hk hc => ?_) (by simpa using hb)
 match j, hk, hc with
 | 0, hk, hc => obtain rfl := Option.some.inj hk; obtain rfl := Option.some.inj hc; exact hx
 | 1, hk, hc => obtain rfl := Option.some.inj hk; obtain rfl := Option.some.inj hc; exact hy
 | 2, hk, hc => obtain rfl := Option.some.inj hk; obtain rfl := Option.some.inj hc; exact hz
set_option maxHeartbeats 4000000 in
set_option maxRecDepth 100000 in
theorem one_calls (n : Int) (w : World) :
  Calls Tryd.prog 29 #[.int .i64 n] w fun e w' => e = .returned (.agg #[.int .i64 2, .string ⟨#[]⟩, .int .i64 1, .int .i64 n, .string ⟨#[]⟩, .slice none 0 0]) ∧ Below w.heap.size w w' := by
 have hu := Tryd.underlying26
 go_enter Tryd.func29, Tryd.ntmps29
 go_wp2
 refine bodyPost_ret (results_single rfl (.cell _ _ _ _ _ rfl (blk_new w _) hu rfl (by kernel_rfl) .nil)) rfl ⟨rfl, below_alloc (Below.refl _ _) _⟩
def divE : Ex := ⟨7, ⟨#[]⟩, ⟨0, 0, ⟨#[]⟩⟩, [oneE 1, oneE 0]⟩
def noE : Ex := ⟨2, ⟨#[]⟩, ⟨2, 0, ⟨#[]⟩⟩, []⟩
def ifE : Ex := ⟨18, ⟨#[]⟩, ⟨0, 0, ⟨#[]⟩⟩, [noE, divE, oneE 2]⟩
def nulE : Ex := ⟨3, ⟨#[98, 111, 111, 108]⟩, ⟨0, 0, ⟨#[]⟩⟩, []⟩
def andE : Ex := ⟨14, ⟨#[]⟩, ⟨0, 0, ⟨#[]⟩⟩, [nulE, noE]⟩
def colsX : List Co := [⟨⟨#[97]⟩, 1⟩]
theorem w_div : worthX colsX [nullV] divE = (nullV, 11) := by kernel_rfl
theorem w_if : worthX colsX [nullV] ifE = (intV 2, 0) := by kernel_rfl
theorem w_and : worthX colsX [nullV] andE = (boolV false, 0) := by kernel_rfl
theorem g_div : goodE divE = true := by kernel_rfl
theorem g_if : goodE ifE = true := by kernel_rfl
theorem g_and : goodE andE = true := by kernel_rfl
theorem cols_laid (w : World) (g : Nat) (h : w.heap[g]? = some (.cells #[.string ⟨#[97]⟩, .int .i64 1] 58 (0, 0))) : Kd.C k58 w (some ⟨g, 0, none⟩) colsX.length colsX := by
 refine ⟨rfl, by decide, fun _ => ⟨⟨g, 0, none⟩, rfl, fun j p hj => ?_⟩⟩
 match j, hj with
 | 0, hj =>
  obtain rfl : (⟨⟨#[97]⟩, 1⟩ : Co) = p := Option.some.inj hj
  refine ⟨[.string ⟨#[97]⟩, .int .i64 1], rfl, k58_mk w ⟨⟨#[97]⟩, 1⟩, fun i u hu => ?_⟩
  rw [add_plain]
  refine (blk_cell h _).trans ?_
  match i, hu with
  | 0, hu => exact hu
  | 1, hu => exact hu
theorem row_laid (w : World) (g : Nat) (h : w.heap[g]? = some (.cells #[.int .i64 0, .int .i64 0, .string ⟨#[]⟩] 23 (0, 0))) : Kd.C k23 w (some ⟨g, 0, none⟩) [nullV].length [nullV] := by
 refine ⟨rfl, by decide, fun _ => ⟨⟨g, 0, none⟩, rfl, fun j p hj => ?_⟩⟩
 match j, hj with
 | 0, hj =>
  obtain rfl : nullV = p := Option.some.inj hj
  refine ⟨[.int .i64 0, .int .i64 0, .string ⟨#[]⟩], rfl, k23_mk w nullV, fun i u hu => ?_⟩
  rw [add_plain]
  refine (blk_cell h _).trans ?_
  match i, hu with
  | 0, hu => exact hu
  | 1, hu => exact hu
  | 2, hu => exact hu
theorem worth_at (x : Ex) (hgd : goodE x = true) (r : Wo) (hr : worthX colsX [nullV] x = r) (A : Option Addr) (c : Nat) (hl : x.f3.length ≤ c) (g h : Nat) (w : World) (hG : GlobE w) (hC : Kd.C k26 w A x.f3.length x.f3)
  (hc : w.heap[g]? = some (.cells #[.string ⟨#[97]⟩, .int .i64 1] 58 (0, 0))) (hv : w.heap[h]? = some (.cells #[.int .i64 0, .int .i64 0, .string ⟨#[]⟩] 23 (0, 0))) :
  Calls Tryd.prog 14 #[.agg #[.int .i64 x.f0, .string x.f1, .int .i64 x.f2.f0, .int .i64 x.f2.f1, .string x.f2.f2, .slice A x.f3.length c], .slice (some ⟨g, 0, none⟩) 1 1, .slice (some ⟨h, 0, none⟩) 1 1] w
   fun e w' => e = .returned (.tuple #[.agg #[.int .i64 r.1.f0, .int .i64 r.1.f1, .string r.1.f2], .int .i64 r.2]) ∧ Below w.heap.size w w' := by
 subst hr
 exact Worth_calls x hgd A c hl (some ⟨g, 0, none⟩) 1 colsX (by decide) (by decide) (by decide) (some ⟨h, 0, none⟩) 1 [nullV] (by decide) (by decide) w hG hC (cols_laid w g hc) (row_laid w h hv)
end Go.Proofs.YtopolnbffmljaaaDoor.Q
namespace Go.Proofs.YtopolnbffmljaaaDoor.Q
theorem blk_new1 (w : World) (o1 o2 : Obj) : ((w.alloc o1).alloc o2).heap[w.heap.size + 1]? = some o2 := by
 have := blk_new (w.alloc o1) o2
 rwa [World.size_alloc] at this
theorem blk_new2 (w : World) (o1 o2 o3 : Obj) : (((w.alloc o1).alloc o2).alloc o3).heap[w.heap.size + 1 + 1]? = some o3 := by
 have := blk_new1 (w.alloc o1) o2 o3
 rwa [World.size_alloc] at this
structure AlS (w : World) (a b d n : Nat) (W : World) : Prop where
 below : Below w.heap.size w W
 cols : W.heap[a]? = some (.cells #[.string ⟨#[97]⟩, .int .i64 1] 58 (0, 0))
 kids : W.heap[b]? = some (.cells (exC (oneE 1) none 0 ++ exC (oneE 0) none 0).toArray 26 (0, 0))
 dbox : W.heap[d]? = some (.cells (exC divE (some ⟨b, 0, none⟩) 2).toArray 26 (0, 0))
 nbox : W.heap[n]? = some (.cells (exC noE none 0).toArray 26 (0, 0))
theorem AlS.step {w W W' : World} {a b d n : Nat} (h : AlS w a b d n W) (hb : Below W.heap.size W W') : AlS w a b d n W' :=
 ⟨below_step h.below hb, blk_below h.cols hb, blk_below h.kids hb, blk_below h.dbox hb, blk_below h.nbox hb⟩
theorem AlS.divK {w W : World} {a b d n : Nat} (h : AlS w a b d n W) : k26.K W divE (exC divE (some ⟨b, 0, none⟩) 2) :=
 K_node W divE _ 2 (by decide) (C_two W b _ _ _ _ _ _ (K_leaf W _ rfl) (K_leaf W _ rfl) h.kids)
theorem AlS.cells {w w' : World} {a b d n : Nat} (h : AlS w a b d n w') : w'.cell? ⟨d, 0, none⟩ = some (.int .i64 7) ∧ w'.cell? ⟨d, 1, none⟩ = some (.string ⟨#[]⟩) ∧ w'.cell? ⟨d, 2, none⟩ = some (.int .i64 0) ∧ w'.cell? ⟨d, 3, none⟩ = some (.int .i64 0) ∧ w'.cell? ⟨d, 4, none⟩ = some (.string ⟨#[]⟩) ∧ w'.cell? ⟨d, 5, none⟩ = some (.slice (some ⟨b, 0, none⟩) 2 2) ∧ w'.cell? ⟨n, 0, none⟩ = some (.int .i64 2) ∧ w'.cell? ⟨n, 1, none⟩ = some (.string ⟨#[]⟩) ∧ w'.cell? ⟨n, 2, none⟩ = some (.int .i64 2) ∧ w'.cell? ⟨n, 3, none⟩ = some (.int .i64 0) ∧ w'.cell? ⟨n, 4, none⟩ = some (.string ⟨#[]⟩) ∧ w'.cell? ⟨n, 5, none⟩ = some (.slice none 0 0) ∧ AlS w a b d n w' :=
 ⟨(blk_cell h.dbox 0).trans rfl, (blk_cell h.dbox 1).trans rfl, (blk_cell h.dbox 2).trans rfl, (blk_cell h.dbox 3).trans rfl, (blk_cell h.dbox 4).trans rfl, (blk_cell h.dbox 5).trans rfl, (blk_cell h.nbox 0).trans rfl, (blk_cell h.nbox 1).trans rfl, (blk_cell h.nbox 2).trans rfl, (blk_cell h.nbox 3).trans rfl, (blk_cell h.nbox 4).trans rfl, (blk_cell h.nbox 5).trans rfl, h⟩
theorem blk_put3 {w : World} {g : Nat} {t : TypeId} {x0 x1 x2 : Value} (h : w.heap[g]? = some (.cells #[x0, x1, x2] t (0, 0))) (y0 y1 y2 : Value) :
  (((w.setCell ⟨g, 0, none⟩ y0).setCell ⟨g, 1, none⟩ y1).setCell ⟨g, 2, none⟩ y2).heap[g]? = some (.cells #[y0, y1, y2] t (0, 0)) :=
 blk_set (cs := #[y0, y1, x2]) (blk_set (cs := #[y0, x1, x2]) (blk_set h 0 y0) 1 y1) 2 y2
structure AlT (w : World) (a b d n z : Nat) (ks : List (Nat × Obj)) (W : World) : Prop where
 als : AlS w a b d n W
 size : z ≤ W.heap.size
 more : ∀ p ∈ ks, W.heap[p.1]? = some p.2
 hlt : a < z ∧ b < z ∧ d < z ∧ n < z ∧ w.heap.size ≤ z
theorem AlT.step {w W W' : World} {a b d n z : Nat} {ks : List (Nat × Obj)} (h : AlT w a b d n z ks W) (hb : Below W.heap.size W W') : AlT w a b d n z ks W' :=
 ⟨h.als.step hb, Nat.le_trans h.size hb.size, fun p hp => blk_below (h.more p hp) hb, h.hlt⟩
theorem AlT.put3 {w W : World} {a b d n z g : Nat} {ks : List (Nat × Obj)} (h : AlT w a b d n z ks W) (hz : z ≤ g) (hk : ∀ p ∈ ks, p.1 < z) (y0 y1 y2 : Value) :
  AlT w a b d n z ks (((W.setCell ⟨g, 0, none⟩ y0).setCell ⟨g, 1, none⟩ y1).setCell ⟨g, 2, none⟩ y2) := by
 obtain ⟨h1, h2, h3, h4, h5⟩ := h.hlt
 have hf : ∀ k o, k < g → W.heap[k]? = some o → (((W.setCell ⟨g, 0, none⟩ y0).setCell ⟨g, 1, none⟩ y1).setCell ⟨g, 2, none⟩ y2).heap[k]? = some o := fun k o hk he => heap_far (heap_far (heap_far he (by omega)) (by omega)) (by omega)
 refine ⟨⟨below_put3 h.als.below (by omega) _ _ _, hf _ _ (by omega) h.als.cols, hf _ _ (by omega) h.als.kids, hf _ _ (by omega) h.als.dbox, hf _ _ (by omega) h.als.nbox⟩, by simpa using h.size, fun p hp => hf _ _ (by have := hk p hp; omega) (h.more p hp), h.hlt⟩
set_option maxHeartbeats 16000000 in
set_option maxRecDepth 100000 in
theorem alive_calls (w : World) (hG : GlobE w) :
  Calls Tryd.prog 10 #[] w fun e w' => e = .returned (.bool true) ∧ Below w.heap.size w w' := by
 have HG := Aside0.mk hG
 clear hG
 go_enter Tryd.func10, Tryd.ntmps10
 go_upto_region 2 with (fail)
 obtain ⟨W1, hW1⟩ : ∃ W1, W1 = w.alloc (.cells #[.string ⟨#[97]⟩, .int .i64 1] 58) := ⟨_, rfl⟩
 have hB1 : Below w.heap.size w W1 := by rw [hW1]; exact below_alloc (Below.refl _ _) _
 have hA1 : W1.heap[w.heap.size]? = some (.cells #[.string ⟨#[97]⟩, .int .i64 1] 58 (0, 0)) := by rw [hW1]; exact blk_new w _
 rw [← hW1]
 clear hW1
 have tok1 : True := trivial
 go_upto_region 3 with (first
  | (have _t := tok1; go_at_call 29; refine (one_calls 1 _).mono ?_; rintro e w2 ⟨rfl, hb2⟩; have hA2 := blk_below hA1 hb2; have hB2 := below_step hB1 hb2; clear hb2 tok1)
  | (go_at_call 29; refine (one_calls 0 _).mono ?_; rintro e w3 ⟨rfl, hb3⟩; have hA3 := blk_below hA2 hb3; have hB3 := below_step hB2 hb3; clear hb3))
 obtain ⟨W5, hW5⟩ : ∃ W5, W5 = ((w3.alloc (.cells #[.int .i64 2, .string ⟨#[]⟩, .int .i64 1, .int .i64 1, .string ⟨#[]⟩, .slice none 0 0, .int .i64 2, .string ⟨#[]⟩, .int .i64 1, .int .i64 0, .string ⟨#[]⟩, .slice none 0 0] 26)).alloc (.cells #[.int .i64 7, .string ⟨#[]⟩, .int .i64 0, .int .i64 0, .string ⟨#[]⟩, .slice (some ⟨w3.heap.size, 0, none⟩) 2 2] 26)).alloc (.cells #[.int .i64 2, .string ⟨#[]⟩, .int .i64 2, .int .i64 0, .string ⟨#[]⟩, .slice none 0 0] 26) := ⟨_, rfl⟩
 have hS5 : AlS w w.heap.size w3.heap.size (w3.heap.size + 1) (w3.heap.size + 1 + 1) W5 := by
  rw [hW5]
  exact ⟨below_step hB3 (below_alloc (below_alloc (below_alloc (Below.refl _ _) _) _) _), blk_alloc (blk_alloc (blk_alloc hA3 _) _) _, blk_alloc (blk_alloc (blk_new w3 _) _) _, blk_alloc (blk_new1 w3 _ _) _, blk_new2 w3 _ _ _⟩
 go_upto_region 4 with (fail)
 rw [← hW5]
 clear hW5 hA1 hA2 hA3 hB1 hB2 hB3
 obtain ⟨d0, d1, d2, d3, d4, d5, n0, n1, n2, n3, n4, n5, _⟩ := hS5.cells
 have hS6 := hS5.step (below_alloc (Below.refl W5.heap.size W5) (.cells #[.int .i64 0, .int .i64 0, .string ⟨#[]⟩] 23))
 have hw := worth_at divE g_div _ w_div _ 2 (by decide) _ _ _ (HG.out.below hS6.below) (C_two _ _ _ _ _ _ _ _ (K_leaf _ _ rfl) (K_leaf _ _ rfl) hS6.kids) hS6.cols (blk_new W5 _)
 go_upto_region 5 with (go_at_call 14; refine hw.mono ?_; rintro e w7 ⟨rfl, hb7⟩; have hS7 := hS6.step hb7; clear hb7 hw)
 obtain ⟨W8, hW8⟩ : ∃ W8, W8 = w7.alloc (.cells #[.int .i64 0, .int .i64 0, .string ⟨#[]⟩] 23) := ⟨_, rfl⟩
 have hS8 : AlS w w.heap.size w3.heap.size (w3.heap.size + 1) (w3.heap.size + 1 + 1) W8 := by rw [hW8]; exact hS7.step (below_alloc (Below.refl _ _) _)
 rw [show w7.alloc (.cells #[.int .i64 nullV.f0, .int .i64 nullV.f1, .string nullV.f2] 23) = W8 from hW8.symm]
 clear hW8 hS7 hS6 hS5 d0 d1 d2 d3 d4 d5 n0 n1 n2 n3 n4 n5
 have hT8 : AlT w w.heap.size w3.heap.size (w3.heap.size + 1) (w3.heap.size + 1 + 1) W8.heap.size [] W8 := ⟨hS8, Nat.le_refl _, by simp, blk_lt hS8.cols, blk_lt hS8.kids, blk_lt hS8.dbox, blk_lt hS8.nbox, hS8.below.size⟩
 clear hS8
 have hwif : ∀ (g h : Nat) (X : World), AlS w w.heap.size w3.heap.size (w3.heap.size + 1) (w3.heap.size + 1 + 1) X → X.heap[g]? = some (.cells #[.int .i64 2, .string ⟨#[]⟩, .int .i64 2, .int .i64 0, .string ⟨#[]⟩, .slice none 0 0, .int .i64 7, .string ⟨#[]⟩, .int .i64 0, .int .i64 0, .string ⟨#[]⟩, .slice (some ⟨w3.heap.size, 0, none⟩) 2 2, .int .i64 2, .string ⟨#[]⟩, .int .i64 1, .int .i64 2, .string ⟨#[]⟩, .slice none 0 0] 26 (0, 0)) → X.heap[h]? = some (.cells #[.int .i64 0, .int .i64 0, .string ⟨#[]⟩] 23 (0, 0)) →
   Calls Tryd.prog 14 #[.agg #[.int .i64 18, .string ⟨#[]⟩, .int .i64 0, .int .i64 0, .string ⟨#[]⟩, .slice (some ⟨g, 0, none⟩) 3 3], .slice (some ⟨w.heap.size, 0, none⟩) 1 1, .slice (some ⟨h, 0, none⟩) 1 1] X
    fun e w' => e = .returned (.tuple #[.agg #[.int .i64 1, .int .i64 2, .string ⟨#[]⟩], .int .i64 0]) ∧ Below X.heap.size X w' := fun g h X hX hg hh =>
  worth_at ifE g_if _ w_if _ 3 (by decide) _ _ X (HG.out.below hX.below) (C_three X g _ _ _ _ _ _ _ _ (K_leaf X noE rfl) hX.divK (K_leaf X (oneE 2) rfl) hg) hX.cols hh
 have hwand : ∀ (g h : Nat) (X : World), AlS w w.heap.size w3.heap.size (w3.heap.size + 1) (w3.heap.size + 1 + 1) X → X.heap[g]? = some (.cells #[.int .i64 3, .string ⟨#[98, 111, 111, 108]⟩, .int .i64 0, .int .i64 0, .string ⟨#[]⟩, .slice none 0 0, .int .i64 2, .string ⟨#[]⟩, .int .i64 2, .int .i64 0, .string ⟨#[]⟩, .slice none 0 0] 26 (0, 0)) → X.heap[h]? = some (.cells #[.int .i64 0, .int .i64 0, .string ⟨#[]⟩] 23 (0, 0)) →
   Calls Tryd.prog 14 #[.agg #[.int .i64 14, .string ⟨#[]⟩, .int .i64 0, .int .i64 0, .string ⟨#[]⟩, .slice (some ⟨g, 0, none⟩) 2 2], .slice (some ⟨w.heap.size, 0, none⟩) 1 1, .slice (some ⟨h, 0, none⟩) 1 1] X
    fun e w' => e = .returned (.tuple #[.agg #[.int .i64 2, .int .i64 0, .string ⟨#[]⟩], .int .i64 0]) ∧ Below X.heap.size X w' := fun g h X hX hg hh =>
  worth_at andE g_and _ w_and _ 2 (by decide) _ _ X (HG.out.below hX.below) (C_two X g _ _ _ _ _ _ (K_leaf X nulE rfl) (K_leaf X noE rfl) hg) hX.cols hh
 refine start_ (n := 15) (S := (AlT w w.heap.size w3.heap.size (w3.heap.size + 1) (w3.heap.size + 1 + 1) W8.heap.size [])) (ds := []) #[false, false, false, false, false, false, false, false, false, false, false, false, false, false, false] (by kernel_rfl) rfl rfl (AlT.step hT8 (below_drew1 (Below.refl _ _))) (fun hHeld => ?_)
 generalize W8.drew = wd at hHeld ⊢
 refine take_ (i := 0) (N := some 27) (v := ?_) (a' := ?_) #[true, false, false, false, false, false, false, false, false, false, false, false, false, false, false] rfl rfl (by kernel_rfl) (fun _ _ _ h => h) (Or.inl ⟨by rfl, ?_⟩) hHeld ?_ ?_
 rotate_left
 ·intro w' hs0
  obtain ⟨d0, d1, d2, d3, d4, d5, n0, n1, n2, n3, n4, n5, _⟩ := hs0.als.cells
  go_simp
  with_reducible rfl
 rotate_left
 ·simp only [Act.put, zA, zB, zC]
  rfl
 refine take_ (i := 1) (N := some 28) (v := ?_) (a' := ?_) #[true, true, false, false, false, false, false, false, false, false, false, false, false, false, false] rfl rfl (by kernel_rfl) (fun _ _ _ h => h) (Or.inl ⟨by rfl, ?_⟩) hHeld ?_ ?_
 rotate_left
 ·intro w' hs0
  obtain ⟨d0, d1, d2, d3, d4, d5, n0, n1, n2, n3, n4, n5, _⟩ := hs0.als.cells
  go_simp
  with_reducible rfl
 rotate_left
 ·simp only [Act.put, zA, zB, zC]
  rfl
 refine pure_ (i := 5) (N := some 32) (v := ?_) (a' := ?_) #[true, true, false, false, false, true, false, false, false, false, false, false, false, false, false] rfl rfl (by kernel_rfl) (fun _ _ _ h => h) (Or.inl ⟨by rfl, ?_⟩) ?_ ?_
 rotate_left
 ·intro w'
  go_simp
  first | with_reducible rfl | skip
 rotate_left
 ·simp only [Act.put, zA, zB, zC]
  rfl
 refine pure_ (i := 6) (N := some 33) (v := ?_) (a' := ?_) #[true, true, false, false, false, true, true, false, false, false, false, false, false, false, false] rfl rfl (by kernel_rfl) (fun _ _ _ h => h) (Or.inl ⟨by rfl, ?_⟩) ?_ ?_
 rotate_left
 ·intro w'
  go_simp
  first | with_reducible rfl | skip
 rotate_left
 ·simp only [Act.put, zA, zB, zC]
  rfl
 refine join_ (σ := Nat × Nat × Nat) 2 #[true, true, true, true, true, true, true, true, true, true, true, true, true, false, false] (fun s_ => [(29, .agg #[.int .i64 2, .string ⟨#[]⟩, .int .i64 1, .int .i64 2, .string ⟨#[]⟩, .slice none 0 0]), (30, .slice (some ⟨s_.1, 0, none⟩) 3 3), (31, .agg #[.int .i64 18, .string ⟨#[]⟩, .int .i64 0, .int .i64 0, .string ⟨#[]⟩, .slice (some ⟨s_.1, 0, none⟩) 3 3]), (34, .slice (some ⟨s_.2.1, 0, none⟩) 1 1), (35, .tuple #[.agg #[.int .i64 1, .int .i64 2, .string ⟨#[]⟩], .int .i64 0]), (26, .tuple #[.agg #[.int .i64 1, .int .i64 2, .string ⟨#[]⟩], .int .i64 0]), (36, .agg #[.int .i64 1, .int .i64 2, .string ⟨#[]⟩]), (37, .int .i64 0), (6, .pointer (some ⟨s_.2.2, 0, none⟩))]) (fun s_ w' => (AlT w w.heap.size w3.heap.size (w3.heap.size + 1) (w3.heap.size + 1 + 1) W8.heap.size []) w' ∧ w'.heap[s_.2.2]? = some (.cells #[.int .i64 0, .int .i64 0, .string ⟨#[]⟩] 23 (0, 0)) ∧ W8.heap.size ≤ s_.2.2) ?_ ?_
 rotate_left
 ·intro hCont
  have hs0 := hHeld
  have hz0 := hs0.size
  refine three_ (i := 2) (j := 7) (k := 12) (Ni := some 29) (Nj := some 34) (Nk := some 6) #[true, true, true, false, false, true, true, false, false, false, false, false, false, false, false] #[true, true, false, false, false, true, true, true, false, false, false, false, false, false, false] #[true, true, false, false, false, true, true, false, false, false, false, false, true, false, false] rfl rfl rfl rfl rfl rfl (by kernel_rfl) (by decide) (by decide) (by decide) (fun K hK => ?_) (fun K hK => ?_) (fun K hK => ?_)
  ·skip
   refine goes_ Tryd.func29 (by kernel_rfl) rfl #[.int .i64 2] (by rfl) rfl rfl (by (try simp only [List.map_toArray, List.map_cons, List.map_nil]); first | done | rfl) ?_
   refine (one_calls 2 _).mono ?_
   rintro e u1 ⟨rfl, hb1⟩
   have hs1 := AlT.step hs0 hb1
   clear hHeld
   refine ⟨_, rfl, ?_⟩
   have hz1 := hs1.size
   refine hK.out _ _ hs1 (fun hHeld => ?_)
   clear hK K
   refine norm_ (a' := ?_) ?_ ?_
   rotate_left
   ·show Act.put _ (some 29) _ = _
    simp only [Act.put, zA, zB, zC]
    rfl
   refine three_ (i := 3) (j := 7) (k := 12) (Ni := some 30) (Nj := some 34) (Nk := some 6) #[true, true, true, true, false, true, true, false, false, false, false, false, false, false, false] #[true, true, true, false, false, true, true, true, false, false, false, false, false, false, false] #[true, true, true, false, false, true, true, false, false, false, false, false, true, false, false] rfl rfl rfl rfl rfl rfl (by kernel_rfl) (by decide) (by decide) (by decide) (fun K hK => ?_) (fun K hK => ?_) (fun K hK => ?_)
   ·skip
    refine value_ (w1 := u1.alloc (.cells #[.int .i64 2, .string ⟨#[]⟩, .int .i64 2, .int .i64 0, .string ⟨#[]⟩, .slice none 0 0, .int .i64 7, .string ⟨#[]⟩, .int .i64 0, .int .i64 0, .string ⟨#[]⟩, .slice (some ⟨w3.heap.size, 0, none⟩) 2 2, .int .i64 2, .string ⟨#[]⟩, .int .i64 1, .int .i64 2, .string ⟨#[]⟩, .slice none 0 0] 26)) (v := .slice (some ⟨u1.heap.size, 0, none⟩) 3 3) (by rfl) rfl (by go_simp) ?_
    have hb2 : Below u1.heap.size u1 (u1.alloc (.cells #[.int .i64 2, .string ⟨#[]⟩, .int .i64 2, .int .i64 0, .string ⟨#[]⟩, .slice none 0 0, .int .i64 7, .string ⟨#[]⟩, .int .i64 0, .int .i64 0, .string ⟨#[]⟩, .slice (some ⟨w3.heap.size, 0, none⟩) 2 2, .int .i64 2, .string ⟨#[]⟩, .int .i64 1, .int .i64 2, .string ⟨#[]⟩, .slice none 0 0] 26)) := below_alloc (Below.refl _ _) _
    have hn2 := blk_new u1 (.cells #[.int .i64 2, .string ⟨#[]⟩, .int .i64 2, .int .i64 0, .string ⟨#[]⟩, .slice none 0 0, .int .i64 7, .string ⟨#[]⟩, .int .i64 0, .int .i64 0, .string ⟨#[]⟩, .slice (some ⟨w3.heap.size, 0, none⟩) 2 2, .int .i64 2, .string ⟨#[]⟩, .int .i64 1, .int .i64 2, .string ⟨#[]⟩, .slice none 0 0] 26)
    have hs2 := AlT.step hs1 hb2
    generalize u1.alloc (.cells #[.int .i64 2, .string ⟨#[]⟩, .int .i64 2, .int .i64 0, .string ⟨#[]⟩, .slice none 0 0, .int .i64 7, .string ⟨#[]⟩, .int .i64 0, .int .i64 0, .string ⟨#[]⟩, .slice (some ⟨w3.heap.size, 0, none⟩) 2 2, .int .i64 2, .string ⟨#[]⟩, .int .i64 1, .int .i64 2, .string ⟨#[]⟩, .slice none 0 0] 26) = u2 at hb2 hn2 hs2 ⊢
    clear hHeld
    have hz2 := hs2.size
    refine hK.out _ _ hs2 (fun hHeld => ?_)
    clear hK K
    refine norm_ (a' := ?_) ?_ ?_
    rotate_left
    ·show Act.put _ (some 30) _ = _
     simp only [Act.put, zA, zB, zC]
     rfl
    refine pure_ (i := 4) (N := some 31) (v := ?_) (a' := ?_) #[true, true, true, true, true, true, true, false, false, false, false, false, false, false, false] rfl rfl (by kernel_rfl) (fun _ _ _ h => h) (Or.inl ⟨by rfl, ?_⟩) ?_ ?_
    rotate_left
    ·intro w'
     go_simp
     first | with_reducible rfl | skip
    rotate_left
    ·simp only [Act.put, zA, zB, zC]
     rfl
    refine two_ (i := 7) (j := 12) (Ni := some 34) (Nj := some 6) #[true, true, true, true, true, true, true, true, false, false, false, false, false, false, false] #[true, true, true, true, true, true, true, false, false, false, false, false, true, false, false] rfl rfl rfl rfl (by kernel_rfl) (by decide) (by decide) (fun K hK => ?_) (fun K hK => ?_)
    ·skip
     refine value_ (w1 := u2.alloc (.cells #[.int .i64 0, .int .i64 0, .string ⟨#[]⟩] 23)) (v := .slice (some ⟨u2.heap.size, 0, none⟩) 1 1) (by rfl) rfl (by go_simp) ?_
     have hb3 : Below u2.heap.size u2 (u2.alloc (.cells #[.int .i64 0, .int .i64 0, .string ⟨#[]⟩] 23)) := below_alloc (Below.refl _ _) _
     have hn3 := blk_new u2 (.cells #[.int .i64 0, .int .i64 0, .string ⟨#[]⟩] 23)
     have hs3 := AlT.step hs2 hb3
     have hg3 := blk_below hn2 hb3
     generalize u2.alloc (.cells #[.int .i64 0, .int .i64 0, .string ⟨#[]⟩] 23) = u3 at hb3 hn3 hs3 hg3 ⊢
     clear hHeld
     have hz3 := hs3.size
     refine hK.out _ _ hs3 (fun hHeld => ?_)
     clear hK K
     refine norm_ (a' := ?_) ?_ ?_
     rotate_left
     ·show Act.put _ (some 34) _ = _
      simp only [Act.put, zA, zB, zC]
      rfl
     refine two_ (i := 8) (j := 12) (Ni := some 35) (Nj := some 6) #[true, true, true, true, true, true, true, true, true, false, false, false, false, false, false] #[true, true, true, true, true, true, true, true, false, false, false, false, true, false, false] rfl rfl rfl rfl (by kernel_rfl) (by decide) (by decide) (fun K hK => ?_) (fun K hK => ?_)
     ·skip
      refine goes_ Tryd.func14 (by kernel_rfl) rfl #[.agg #[.int .i64 18, .string ⟨#[]⟩, .int .i64 0, .int .i64 0, .string ⟨#[]⟩, .slice (some ⟨u1.heap.size, 0, none⟩) 3 3], .slice (some ⟨w.heap.size, 0, none⟩) 1 1, .slice (some ⟨u2.heap.size, 0, none⟩) 1 1] (by rfl) rfl rfl (by (try simp only [List.map_toArray, List.map_cons, List.map_nil]); first | done | rfl) ?_
      refine (hwif _ _ _ hs3.als hg3 hn3).mono ?_
      rintro e u4 ⟨rfl, hb4⟩
      have hs4 := AlT.step hs3 hb4
      have hg4 := blk_below hg3 hb4
      have hh4 := blk_below hn3 hb4
      clear hHeld
      refine ⟨_, rfl, ?_⟩
      have hz4 := hs4.size
      refine hK.out _ _ hs4 (fun hHeld => ?_)
      clear hK K
      refine norm_ (a' := ?_) ?_ ?_
      rotate_left
      ·show Act.put _ (some 35) _ = _
       simp only [Act.put, zA, zB, zC]
       rfl
      refine pure_ (i := 9) (N := some 26) (v := ?_) (a' := ?_) #[true, true, true, true, true, true, true, true, true, true, false, false, false, false, false] rfl rfl (by kernel_rfl) (fun _ _ _ h => h) (Or.inl ⟨by rfl, ?_⟩) ?_ ?_
      rotate_left
      ·intro w'
       go_simp
       first | with_reducible rfl | skip
      rotate_left
      ·simp only [Act.put, zA, zB, zC]
       rfl
      refine pure_ (i := 10) (N := some 36) (v := ?_) (a' := ?_) #[true, true, true, true, true, true, true, true, true, true, true, false, false, false, false] rfl rfl (by kernel_rfl) (fun _ _ _ h => h) (Or.inl ⟨by rfl, ?_⟩) ?_ ?_
      rotate_left
      ·intro w'
       go_simp
       first | with_reducible rfl | skip
      rotate_left
      ·simp only [Act.put, zA, zB, zC]
       rfl
      refine pure_ (i := 11) (N := some 37) (v := ?_) (a' := ?_) #[true, true, true, true, true, true, true, true, true, true, true, true, false, false, false] rfl rfl (by kernel_rfl) (fun _ _ _ h => h) (Or.inl ⟨by rfl, ?_⟩) ?_ ?_
      rotate_left
      ·intro w'
       go_simp
       first | with_reducible rfl | skip
      rotate_left
      ·simp only [Act.put, zA, zB, zC]
       rfl
      refine one_ (i := 12) (N := some 6) #[true, true, true, true, true, true, true, true, true, true, true, true, true, false, false] rfl rfl (by kernel_rfl) (by decide) (fun K hK => ?_)
      refine value_ (w1 := u4.alloc (.cells #[.int .i64 0, .int .i64 0, .string ⟨#[]⟩] 23)) (v := .pointer (some ⟨u4.heap.size, 0, none⟩)) (by rfl) rfl (by go_simp) ?_
      have hb5 : Below u4.heap.size u4 (u4.alloc (.cells #[.int .i64 0, .int .i64 0, .string ⟨#[]⟩] 23)) := below_alloc (Below.refl _ _) _
      have hn5 := blk_new u4 (.cells #[.int .i64 0, .int .i64 0, .string ⟨#[]⟩] 23)
      have hs5 := AlT.step hs4 hb5
      have hg5 := blk_below hg4 hb5
      have hh5 := blk_below hh4 hb5
      generalize u4.alloc (.cells #[.int .i64 0, .int .i64 0, .string ⟨#[]⟩] 23) = u5 at hb5 hn5 hs5 hg5 hh5 ⊢
      clear hHeld
      have hz5 := hs5.size
      refine hK.out _ _ hs5 (fun hHeld => ?_)
      clear hK K
      refine norm_ (a' := ?_) ?_ ?_
      rotate_left
      ·show Act.put _ (some 6) _ = _
       simp only [Act.put, zA, zB, zC]
       rfl
      exact norm_ (by simp only [putAll, Act.put, zA, zB, zC]) (hCont (u1.heap.size, u2.heap.size, u4.heap.size) _ ⟨hs5, hn5, by omega⟩)
     ·skip
      refine value_ (w1 := u3.alloc (.cells #[.int .i64 0, .int .i64 0, .string ⟨#[]⟩] 23)) (v := .pointer (some ⟨u3.heap.size, 0, none⟩)) (by rfl) rfl (by go_simp) ?_
      have hb6 : Below u3.heap.size u3 (u3.alloc (.cells #[.int .i64 0, .int .i64 0, .string ⟨#[]⟩] 23)) := below_alloc (Below.refl _ _) _
      have hn6 := blk_new u3 (.cells #[.int .i64 0, .int .i64 0, .string ⟨#[]⟩] 23)
      have hs6 := AlT.step hs3 hb6
      have hg6 := blk_below hg3 hb6
      have hh6 := blk_below hn3 hb6
      generalize u3.alloc (.cells #[.int .i64 0, .int .i64 0, .string ⟨#[]⟩] 23) = u6 at hb6 hn6 hs6 hg6 hh6 ⊢
      clear hHeld
      have hz6 := hs6.size
      refine hK.out _ _ hs6 (fun hHeld => ?_)
      clear hK K
      refine norm_ (a' := ?_) ?_ ?_
      rotate_left
      ·show Act.put _ (some 6) _ = _
       simp only [Act.put, zA, zB, zC]
       rfl
      refine one_ (i := 8) (N := some 35) #[true, true, true, true, true, true, true, true, true, false, false, false, true, false, false] rfl rfl (by kernel_rfl) (by decide) (fun K hK => ?_)
      refine goes_ Tryd.func14 (by kernel_rfl) rfl #[.agg #[.int .i64 18, .string ⟨#[]⟩, .int .i64 0, .int .i64 0, .string ⟨#[]⟩, .slice (some ⟨u1.heap.size, 0, none⟩) 3 3], .slice (some ⟨w.heap.size, 0, none⟩) 1 1, .slice (some ⟨u2.heap.size, 0, none⟩) 1 1] (by rfl) rfl rfl (by (try simp only [List.map_toArray, List.map_cons, List.map_nil]); first | done | rfl) ?_
      refine (hwif _ _ _ hs6.als hg6 hh6).mono ?_
      rintro e u7 ⟨rfl, hb7⟩
      have hs7 := AlT.step hs6 hb7
      have hg7 := blk_below hg6 hb7
      have hh7 := blk_below hh6 hb7
      have hk7 := blk_below hn6 hb7
      clear hHeld
      refine ⟨_, rfl, ?_⟩
      have hz7 := hs7.size
      refine hK.out _ _ hs7 (fun hHeld => ?_)
      clear hK K
      refine norm_ (a' := ?_) ?_ ?_
      rotate_left
      ·show Act.put _ (some 35) _ = _
       simp only [Act.put, zA, zB, zC]
       rfl
      refine pure_ (i := 9) (N := some 26) (v := ?_) (a' := ?_) #[true, true, true, true, true, true, true, true, true, true, false, false, true, false, false] rfl rfl (by kernel_rfl) (fun _ _ _ h => h) (Or.inl ⟨by rfl, ?_⟩) ?_ ?_
      rotate_left
      ·intro w'
       go_simp
       first | with_reducible rfl | skip
      rotate_left
      ·simp only [Act.put, zA, zB, zC]
       rfl
      refine pure_ (i := 10) (N := some 36) (v := ?_) (a' := ?_) #[true, true, true, true, true, true, true, true, true, true, true, false, true, false, false] rfl rfl (by kernel_rfl) (fun _ _ _ h => h) (Or.inl ⟨by rfl, ?_⟩) ?_ ?_
      rotate_left
      ·intro w'
       go_simp
       first | with_reducible rfl | skip
      rotate_left
      ·simp only [Act.put, zA, zB, zC]
       rfl
      refine pure_ (i := 11) (N := some 37) (v := ?_) (a' := ?_) #[true, true, true, true, true, true, true, true, true, true, true, true, true, false, false] rfl rfl (by kernel_rfl) (fun _ _ _ h => h) (Or.inl ⟨by rfl, ?_⟩) ?_ ?_
      rotate_left
      ·intro w'
       go_simp
       first | with_reducible rfl | skip
      rotate_left
      ·simp only [Act.put, zA, zB, zC]
       rfl
      exact norm_ (by simp only [putAll, Act.put, zA, zB, zC]) (hCont (u1.heap.size, u2.heap.size, u3.heap.size) _ ⟨hs7, hk7, by omega⟩)
    ·skip
     refine value_ (w1 := u2.alloc (.cells #[.int .i64 0, .int .i64 0, .string ⟨#[]⟩] 23)) (v := .pointer (some ⟨u2.heap.size, 0, none⟩)) (by rfl) rfl (by go_simp) ?_
     have hb8 : Below u2.heap.size u2 (u2.alloc (.cells #[.int .i64 0, .int .i64 0, .string ⟨#[]⟩] 23)) := below_alloc (Below.refl _ _) _
     have hn8 := blk_new u2 (.cells #[.int .i64 0, .int .i64 0, .string ⟨#[]⟩] 23)
     have hs8 := AlT.step hs2 hb8
     have hg8 := blk_below hn2 hb8
     generalize u2.alloc (.cells #[.int .i64 0, .int .i64 0, .string ⟨#[]⟩] 23) = u8 at hb8 hn8 hs8 hg8 ⊢
     clear hHeld
     have hz8 := hs8.size
     refine hK.out _ _ hs8 (fun hHeld => ?_)
     clear hK K
     refine norm_ (a' := ?_) ?_ ?_
     rotate_left
     ·show Act.put _ (some 6) _ = _
      simp only [Act.put, zA, zB, zC]
      rfl
     refine one_ (i := 7) (N := some 34) #[true, true, true, true, true, true, true, true, false, false, false, false, true, false, false] rfl rfl (by kernel_rfl) (by decide) (fun K hK => ?_)
     refine value_ (w1 := u8.alloc (.cells #[.int .i64 0, .int .i64 0, .string ⟨#[]⟩] 23)) (v := .slice (some ⟨u8.heap.size, 0, none⟩) 1 1) (by rfl) rfl (by go_simp) ?_
     have hb9 : Below u8.heap.size u8 (u8.alloc (.cells #[.int .i64 0, .int .i64 0, .string ⟨#[]⟩] 23)) := below_alloc (Below.refl _ _) _
     have hn9 := blk_new u8 (.cells #[.int .i64 0, .int .i64 0, .string ⟨#[]⟩] 23)
     have hs9 := AlT.step hs8 hb9
     have hg9 := blk_below hg8 hb9
     have hk9 := blk_below hn8 hb9
     generalize u8.alloc (.cells #[.int .i64 0, .int .i64 0, .string ⟨#[]⟩] 23) = u9 at hb9 hn9 hs9 hg9 hk9 ⊢
     clear hHeld
     have hz9 := hs9.size
     refine hK.out _ _ hs9 (fun hHeld => ?_)
     clear hK K
     refine norm_ (a' := ?_) ?_ ?_
     rotate_left
     ·show Act.put _ (some 34) _ = _
      simp only [Act.put, zA, zB, zC]
      rfl
     refine one_ (i := 8) (N := some 35) #[true, true, true, true, true, true, true, true, true, false, false, false, true, false, false] rfl rfl (by kernel_rfl) (by decide) (fun K hK => ?_)
     refine goes_ Tryd.func14 (by kernel_rfl) rfl #[.agg #[.int .i64 18, .string ⟨#[]⟩, .int .i64 0, .int .i64 0, .string ⟨#[]⟩, .slice (some ⟨u1.heap.size, 0, none⟩) 3 3], .slice (some ⟨w.heap.size, 0, none⟩) 1 1, .slice (some ⟨u8.heap.size, 0, none⟩) 1 1] (by rfl) rfl rfl (by (try simp only [List.map_toArray, List.map_cons, List.map_nil]); first | done | rfl) ?_
     refine (hwif _ _ _ hs9.als hg9 hn9).mono ?_
     rintro e u10 ⟨rfl, hb10⟩
     have hs10 := AlT.step hs9 hb10
     have hg10 := blk_below hg9 hb10
     have hh10 := blk_below hn9 hb10
     have hk10 := blk_below hk9 hb10
     clear hHeld
     refine ⟨_, rfl, ?_⟩
     have hz10 := hs10.size
     refine hK.out _ _ hs10 (fun hHeld => ?_)
     clear hK K
     refine norm_ (a' := ?_) ?_ ?_
     rotate_left
     ·show Act.put _ (some 35) _ = _
      simp only [Act.put, zA, zB, zC]
      rfl
     refine pure_ (i := 9) (N := some 26) (v := ?_) (a' := ?_) #[true, true, true, true, true, true, true, true, true, true, false, false, true, false, false] rfl rfl (by kernel_rfl) (fun _ _ _ h => h) (Or.inl ⟨by rfl, ?_⟩) ?_ ?_
     rotate_left
     ·intro w'
      go_simp
      first | with_reducible rfl | skip
     rotate_left
     ·simp only [Act.put, zA, zB, zC]
      rfl
     refine pure_ (i := 10) (N := some 36) (v := ?_) (a' := ?_) #[true, true, true, true, true, true, true, true, true, true, true, false, true, false, false] rfl rfl (by kernel_rfl) (fun _ _ _ h => h) (Or.inl ⟨by rfl, ?_⟩) ?_ ?_
     rotate_left
     ·intro w'
      go_simp
      first | with_reducible rfl | skip
     rotate_left
     ·simp only [Act.put, zA, zB, zC]
      rfl
     refine pure_ (i := 11) (N := some 37) (v := ?_) (a' := ?_) #[true, true, true, true, true, true, true, true, true, true, true, true, true, false, false] rfl rfl (by kernel_rfl) (fun _ _ _ h => h) (Or.inl ⟨by rfl, ?_⟩) ?_ ?_
     rotate_left
     ·intro w'
      go_simp
      first | with_reducible rfl | skip
     rotate_left
     ·simp only [Act.put, zA, zB, zC]
      rfl
     exact norm_ (by simp only [putAll, Act.put, zA, zB, zC]) (hCont (u1.heap.size, u8.heap.size, u2.heap.size) _ ⟨hs10, hk10, by omega⟩)
   ·skip
    refine value_ (w1 := u1.alloc (.cells #[.int .i64 0, .int .i64 0, .string ⟨#[]⟩] 23)) (v := .slice (some ⟨u1.heap.size, 0, none⟩) 1 1) (by rfl) rfl (by go_simp) ?_
    have hb11 : Below u1.heap.size u1 (u1.alloc (.cells #[.int .i64 0, .int .i64 0, .string ⟨#[]⟩] 23)) := below_alloc (Below.refl _ _) _
    have hn11 := blk_new u1 (.cells #[.int .i64 0, .int .i64 0, .string ⟨#[]⟩] 23)
    have hs11 := AlT.step hs1 hb11
    generalize u1.alloc (.cells #[.int .i64 0, .int .i64 0, .string ⟨#[]⟩] 23) = u11 at hb11 hn11 hs11 ⊢
    clear hHeld
    have hz11 := hs11.size
    refine hK.out _ _ hs11 (fun hHeld => ?_)
    clear hK K
    refine norm_ (a' := ?_) ?_ ?_
    rotate_left
    ·show Act.put _ (some 34) _ = _
     simp only [Act.put, zA, zB, zC]
     rfl
    refine two_ (i := 3) (j := 12) (Ni := some 30) (Nj := some 6) #[true, true, true, true, false, true, true, true, false, false, false, false, false, false, false] #[true, true, true, false, false, true, true, true, false, false, false, false, true, false, false] rfl rfl rfl rfl (by kernel_rfl) (by decide) (by decide) (fun K hK => ?_) (fun K hK => ?_)
    ·skip
     refine value_ (w1 := u11.alloc (.cells #[.int .i64 2, .string ⟨#[]⟩, .int .i64 2, .int .i64 0, .string ⟨#[]⟩, .slice none 0 0, .int .i64 7, .string ⟨#[]⟩, .int .i64 0, .int .i64 0, .string ⟨#[]⟩, .slice (some ⟨w3.heap.size, 0, none⟩) 2 2, .int .i64 2, .string ⟨#[]⟩, .int .i64 1, .int .i64 2, .string ⟨#[]⟩, .slice none 0 0] 26)) (v := .slice (some ⟨u11.heap.size, 0, none⟩) 3 3) (by rfl) rfl (by go_simp) ?_
     have hb12 : Below u11.heap.size u11 (u11.alloc (.cells #[.int .i64 2, .string ⟨#[]⟩, .int .i64 2, .int .i64 0, .string ⟨#[]⟩, .slice none 0 0, .int .i64 7, .string ⟨#[]⟩, .int .i64 0, .int .i64 0, .string ⟨#[]⟩, .slice (some ⟨w3.heap.size, 0, none⟩) 2 2, .int .i64 2, .string ⟨#[]⟩, .int .i64 1, .int .i64 2, .string ⟨#[]⟩, .slice none 0 0] 26)) := below_alloc (Below.refl _ _) _
     have hn12 := blk_new u11 (.cells #[.int .i64 2, .string ⟨#[]⟩, .int .i64 2, .int .i64 0, .string ⟨#[]⟩, .slice none 0 0, .int .i64 7, .string ⟨#[]⟩, .int .i64 0, .int .i64 0, .string ⟨#[]⟩, .slice (some ⟨w3.heap.size, 0, none⟩) 2 2, .int .i64 2, .string ⟨#[]⟩, .int .i64 1, .int .i64 2, .string ⟨#[]⟩, .slice none 0 0] 26)
     have hs12 := AlT.step hs11 hb12
     have hh12 := blk_below hn11 hb12
     generalize u11.alloc (.cells #[.int .i64 2, .string ⟨#[]⟩, .int .i64 2, .int .i64 0, .string ⟨#[]⟩, .slice none 0 0, .int .i64 7, .string ⟨#[]⟩, .int .i64 0, .int .i64 0, .string ⟨#[]⟩, .slice (some ⟨w3.heap.size, 0, none⟩) 2 2, .int .i64 2, .string ⟨#[]⟩, .int .i64 1, .int .i64 2, .string ⟨#[]⟩, .slice none 0 0] 26) = u12 at hb12 hn12 hs12 hh12 ⊢
     clear hHeld
     have hz12 := hs12.size
     refine hK.out _ _ hs12 (fun hHeld => ?_)
     clear hK K
     refine norm_ (a' := ?_) ?_ ?_
     rotate_left
     ·show Act.put _ (some 30) _ = _
      simp only [Act.put, zA, zB, zC]
      rfl
     refine pure_ (i := 4) (N := some 31) (v := ?_) (a' := ?_) #[true, true, true, true, true, true, true, true, false, false, false, false, false, false, false] rfl rfl (by kernel_rfl) (fun _ _ _ h => h) (Or.inl ⟨by rfl, ?_⟩) ?_ ?_
     rotate_left
     ·intro w'
      go_simp
      first | with_reducible rfl | skip
     rotate_left
     ·simp only [Act.put, zA, zB, zC]
      rfl
     refine two_ (i := 8) (j := 12) (Ni := some 35) (Nj := some 6) #[true, true, true, true, true, true, true, true, true, false, false, false, false, false, false] #[true, true, true, true, true, true, true, true, false, false, false, false, true, false, false] rfl rfl rfl rfl (by kernel_rfl) (by decide) (by decide) (fun K hK => ?_) (fun K hK => ?_)
     ·skip
      refine goes_ Tryd.func14 (by kernel_rfl) rfl #[.agg #[.int .i64 18, .string ⟨#[]⟩, .int .i64 0, .int .i64 0, .string ⟨#[]⟩, .slice (some ⟨u11.heap.size, 0, none⟩) 3 3], .slice (some ⟨w.heap.size, 0, none⟩) 1 1, .slice (some ⟨u1.heap.size, 0, none⟩) 1 1] (by rfl) rfl rfl (by (try simp only [List.map_toArray, List.map_cons, List.map_nil]); first | done | rfl) ?_
      refine (hwif _ _ _ hs12.als hn12 hh12).mono ?_
      rintro e u13 ⟨rfl, hb13⟩
      have hs13 := AlT.step hs12 hb13
      have hg13 := blk_below hn12 hb13
      have hh13 := blk_below hh12 hb13
      clear hHeld
      refine ⟨_, rfl, ?_⟩
      have hz13 := hs13.size
      refine hK.out _ _ hs13 (fun hHeld => ?_)
      clear hK K
      refine norm_ (a' := ?_) ?_ ?_
      rotate_left
      ·show Act.put _ (some 35) _ = _
       simp only [Act.put, zA, zB, zC]
       rfl
      refine pure_ (i := 9) (N := some 26) (v := ?_) (a' := ?_) #[true, true, true, true, true, true, true, true, true, true, false, false, false, false, false] rfl rfl (by kernel_rfl) (fun _ _ _ h => h) (Or.inl ⟨by rfl, ?_⟩) ?_ ?_
      rotate_left
      ·intro w'
       go_simp
       first | with_reducible rfl | skip
      rotate_left
      ·simp only [Act.put, zA, zB, zC]
       rfl
      refine pure_ (i := 10) (N := some 36) (v := ?_) (a' := ?_) #[true, true, true, true, true, true, true, true, true, true, true, false, false, false, false] rfl rfl (by kernel_rfl) (fun _ _ _ h => h) (Or.inl ⟨by rfl, ?_⟩) ?_ ?_
      rotate_left
      ·intro w'
       go_simp
       first | with_reducible rfl | skip
      rotate_left
      ·simp only [Act.put, zA, zB, zC]
       rfl
      refine pure_ (i := 11) (N := some 37) (v := ?_) (a' := ?_) #[true, true, true, true, true, true, true, true, true, true, true, true, false, false, false] rfl rfl (by kernel_rfl) (fun _ _ _ h => h) (Or.inl ⟨by rfl, ?_⟩) ?_ ?_
      rotate_left
      ·intro w'
       go_simp
       first | with_reducible rfl | skip
      rotate_left
      ·simp only [Act.put, zA, zB, zC]
       rfl
      refine one_ (i := 12) (N := some 6) #[true, true, true, true, true, true, true, true, true, true, true, true, true, false, false] rfl rfl (by kernel_rfl) (by decide) (fun K hK => ?_)
      refine value_ (w1 := u13.alloc (.cells #[.int .i64 0, .int .i64 0, .string ⟨#[]⟩] 23)) (v := .pointer (some ⟨u13.heap.size, 0, none⟩)) (by rfl) rfl (by go_simp) ?_
      have hb14 : Below u13.heap.size u13 (u13.alloc (.cells #[.int .i64 0, .int .i64 0, .string ⟨#[]⟩] 23)) := below_alloc (Below.refl _ _) _
      have hn14 := blk_new u13 (.cells #[.int .i64 0, .int .i64 0, .string ⟨#[]⟩] 23)
      have hs14 := AlT.step hs13 hb14
      have hg14 := blk_below hg13 hb14
      have hh14 := blk_below hh13 hb14
      generalize u13.alloc (.cells #[.int .i64 0, .int .i64 0, .string ⟨#[]⟩] 23) = u14 at hb14 hn14 hs14 hg14 hh14 ⊢
      clear hHeld
      have hz14 := hs14.size
      refine hK.out _ _ hs14 (fun hHeld => ?_)
      clear hK K
      refine norm_ (a' := ?_) ?_ ?_
      rotate_left
      ·show Act.put _ (some 6) _ = _
       simp only [Act.put, zA, zB, zC]
       rfl
      exact norm_ (by simp only [putAll, Act.put, zA, zB, zC]) (hCont (u11.heap.size, u1.heap.size, u13.heap.size) _ ⟨hs14, hn14, by omega⟩)
     ·skip
      refine value_ (w1 := u12.alloc (.cells #[.int .i64 0, .int .i64 0, .string ⟨#[]⟩] 23)) (v := .pointer (some ⟨u12.heap.size, 0, none⟩)) (by rfl) rfl (by go_simp) ?_
      have hb15 : Below u12.heap.size u12 (u12.alloc (.cells #[.int .i64 0, .int .i64 0, .string ⟨#[]⟩] 23)) := below_alloc (Below.refl _ _) _
      have hn15 := blk_new u12 (.cells #[.int .i64 0, .int .i64 0, .string ⟨#[]⟩] 23)
      have hs15 := AlT.step hs12 hb15
      have hg15 := blk_below hn12 hb15
      have hh15 := blk_below hh12 hb15
      generalize u12.alloc (.cells #[.int .i64 0, .int .i64 0, .string ⟨#[]⟩] 23) = u15 at hb15 hn15 hs15 hg15 hh15 ⊢
      clear hHeld
      have hz15 := hs15.size
      refine hK.out _ _ hs15 (fun hHeld => ?_)
      clear hK K
      refine norm_ (a' := ?_) ?_ ?_
      rotate_left
      ·show Act.put _ (some 6) _ = _
       simp only [Act.put, zA, zB, zC]
       rfl
      refine one_ (i := 8) (N := some 35) #[true, true, true, true, true, true, true, true, true, false, false, false, true, false, false] rfl rfl (by kernel_rfl) (by decide) (fun K hK => ?_)
      refine goes_ Tryd.func14 (by kernel_rfl) rfl #[.agg #[.int .i64 18, .string ⟨#[]⟩, .int .i64 0, .int .i64 0, .string ⟨#[]⟩, .slice (some ⟨u11.heap.size, 0, none⟩) 3 3], .slice (some ⟨w.heap.size, 0, none⟩) 1 1, .slice (some ⟨u1.heap.size, 0, none⟩) 1 1] (by rfl) rfl rfl (by (try simp only [List.map_toArray, List.map_cons, List.map_nil]); first | done | rfl) ?_
      refine (hwif _ _ _ hs15.als hg15 hh15).mono ?_
      rintro e u16 ⟨rfl, hb16⟩
      have hs16 := AlT.step hs15 hb16
      have hg16 := blk_below hg15 hb16
      have hh16 := blk_below hh15 hb16
      have hk16 := blk_below hn15 hb16
      clear hHeld
      refine ⟨_, rfl, ?_⟩
      have hz16 := hs16.size
      refine hK.out _ _ hs16 (fun hHeld => ?_)
      clear hK K
      refine norm_ (a' := ?_) ?_ ?_
      rotate_left
      ·show Act.put _ (some 35) _ = _
       simp only [Act.put, zA, zB, zC]
       rfl
      refine pure_ (i := 9) (N := some 26) (v := ?_) (a' := ?_) #[true, true, true, true, true, true, true, true, true, true, false, false, true, false, false] rfl rfl (by kernel_rfl) (fun _ _ _ h => h) (Or.inl ⟨by rfl, ?_⟩) ?_ ?_
      rotate_left
      ·intro w'
       go_simp
       first | with_reducible rfl | skip
      rotate_left
      ·simp only [Act.put, zA, zB, zC]
       rfl
      refine pure_ (i := 10) (N := some 36) (v := ?_) (a' := ?_) #[true, true, true, true, true, true, true, true, true, true, true, false, true, false, false] rfl rfl (by kernel_rfl) (fun _ _ _ h => h) (Or.inl ⟨by rfl, ?_⟩) ?_ ?_
      rotate_left
      ·intro w'
       go_simp
       first | with_reducible rfl | skip
      rotate_left
      ·simp only [Act.put, zA, zB, zC]
       rfl
      refine pure_ (i := 11) (N := some 37) (v := ?_) (a' := ?_) #[true, true, true, true, true, true, true, true, true, true, true, true, true, false, false] rfl rfl (by kernel_rfl) (fun _ _ _ h => h) (Or.inl ⟨by rfl, ?_⟩) ?_ ?_
      rotate_left
      ·intro w'
       go_simp
       first | with_reducible rfl | skip
      rotate_left
      ·simp only [Act.put, zA, zB, zC]
       rfl
      exact norm_ (by simp only [putAll, Act.put, zA, zB, zC]) (hCont (u11.heap.size, u1.heap.size, u12.heap.size) _ ⟨hs16, hk16, by omega⟩)
    ·skip
     refine value_ (w1 := u11.alloc (.cells #[.int .i64 0, .int .i64 0, .string ⟨#[]⟩] 23)) (v := .pointer (some ⟨u11.heap.size, 0, none⟩)) (by rfl) rfl (by go_simp) ?_
     have hb17 : Below u11.heap.size u11 (u11.alloc (.cells #[.int .i64 0, .int .i64 0, .string ⟨#[]⟩] 23)) := below_alloc (Below.refl _ _) _
     have hn17 := blk_new u11 (.cells #[.int .i64 0, .int .i64 0, .string ⟨#[]⟩] 23)
     have hs17 := AlT.step hs11 hb17
     have hh17 := blk_below hn11 hb17
     generalize u11.alloc (.cells #[.int .i64 0, .int .i64 0, .string ⟨#[]⟩] 23) = u17 at hb17 hn17 hs17 hh17 ⊢
     clear hHeld
     have hz17 := hs17.size
     refine hK.out _ _ hs17 (fun hHeld => ?_)
     clear hK K
     refine norm_ (a' := ?_) ?_ ?_
     rotate_left
     ·show Act.put _ (some 6) _ = _
      simp only [Act.put, zA, zB, zC]
      rfl
     refine one_ (i := 3) (N := some 30) #[true, true, true, true, false, true, true, true, false, false, false, false, true, false, false] rfl rfl (by kernel_rfl) (by decide) (fun K hK => ?_)
     refine value_ (w1 := u17.alloc (.cells #[.int .i64 2, .string ⟨#[]⟩, .int .i64 2, .int .i64 0, .string ⟨#[]⟩, .slice none 0 0, .int .i64 7, .string ⟨#[]⟩, .int .i64 0, .int .i64 0, .string ⟨#[]⟩, .slice (some ⟨w3.heap.size, 0, none⟩) 2 2, .int .i64 2, .string ⟨#[]⟩, .int .i64 1, .int .i64 2, .string ⟨#[]⟩, .slice none 0 0] 26)) (v := .slice (some ⟨u17.heap.size, 0, none⟩) 3 3) (by rfl) rfl (by go_simp) ?_
     have hb18 : Below u17.heap.size u17 (u17.alloc (.cells #[.int .i64 2, .string ⟨#[]⟩, .int .i64 2, .int .i64 0, .string ⟨#[]⟩, .slice none 0 0, .int .i64 7, .string ⟨#[]⟩, .int .i64 0, .int .i64 0, .string ⟨#[]⟩, .slice (some ⟨w3.heap.size, 0, none⟩) 2 2, .int .i64 2, .string ⟨#[]⟩, .int .i64 1, .int .i64 2, .string ⟨#[]⟩, .slice none 0 0] 26)) := below_alloc (Below.refl _ _) _
     have hn18 := blk_new u17 (.cells #[.int .i64 2, .string ⟨#[]⟩, .int .i64 2, .int .i64 0, .string ⟨#[]⟩, .slice none 0 0, .int .i64 7, .string ⟨#[]⟩, .int .i64 0, .int .i64 0, .string ⟨#[]⟩, .slice (some ⟨w3.heap.size, 0, none⟩) 2 2, .int .i64 2, .string ⟨#[]⟩, .int .i64 1, .int .i64 2, .string ⟨#[]⟩, .slice none 0 0] 26)
     have hs18 := AlT.step hs17 hb18
     have hh18 := blk_below hh17 hb18
     have hk18 := blk_below hn17 hb18
     generalize u17.alloc (.cells #[.int .i64 2, .string ⟨#[]⟩, .int .i64 2, .int .i64 0, .string ⟨#[]⟩, .slice none 0 0, .int .i64 7, .string ⟨#[]⟩, .int .i64 0, .int .i64 0, .string ⟨#[]⟩, .slice (some ⟨w3.heap.size, 0, none⟩) 2 2, .int .i64 2, .string ⟨#[]⟩, .int .i64 1, .int .i64 2, .string ⟨#[]⟩, .slice none 0 0] 26) = u18 at hb18 hn18 hs18 hh18 hk18 ⊢
     clear hHeld
     have hz18 := hs18.size
     refine hK.out _ _ hs18 (fun hHeld => ?_)
     clear hK K
     refine norm_ (a' := ?_) ?_ ?_
     rotate_left
     ·show Act.put _ (some 30) _ = _
      simp only [Act.put, zA, zB, zC]
      rfl
     refine pure_ (i := 4) (N := some 31) (v := ?_) (a' := ?_) #[true, true, true, true, true, true, true, true, false, false, false, false, true, false, false] rfl rfl (by kernel_rfl) (fun _ _ _ h => h) (Or.inl ⟨by rfl, ?_⟩) ?_ ?_
     rotate_left
     ·intro w'
      go_simp
      first | with_reducible rfl | skip
     rotate_left
     ·simp only [Act.put, zA, zB, zC]
      rfl
     refine one_ (i := 8) (N := some 35) #[true, true, true, true, true, true, true, true, true, false, false, false, true, false, false] rfl rfl (by kernel_rfl) (by decide) (fun K hK => ?_)
     refine goes_ Tryd.func14 (by kernel_rfl) rfl #[.agg #[.int .i64 18, .string ⟨#[]⟩, .int .i64 0, .int .i64 0, .string ⟨#[]⟩, .slice (some ⟨u17.heap.size, 0, none⟩) 3 3], .slice (some ⟨w.heap.size, 0, none⟩) 1 1, .slice (some ⟨u1.heap.size, 0, none⟩) 1 1] (by rfl) rfl rfl (by (try simp only [List.map_toArray, List.map_cons, List.map_nil]); first | done | rfl) ?_
     refine (hwif _ _ _ hs18.als hn18 hh18).mono ?_
     rintro e u19 ⟨rfl, hb19⟩
     have hs19 := AlT.step hs18 hb19
     have hg19 := blk_below hn18 hb19
     have hh19 := blk_below hh18 hb19
     have hk19 := blk_below hk18 hb19
     clear hHeld
     refine ⟨_, rfl, ?_⟩
     have hz19 := hs19.size
     refine hK.out _ _ hs19 (fun hHeld => ?_)
     clear hK K
     refine norm_ (a' := ?_) ?_ ?_
     rotate_left
     ·show Act.put _ (some 35) _ = _
      simp only [Act.put, zA, zB, zC]
      rfl
     refine pure_ (i := 9) (N := some 26) (v := ?_) (a' := ?_) #[true, true, true, true, true, true, true, true, true, true, false, false, true, false, false] rfl rfl (by kernel_rfl) (fun _ _ _ h => h) (Or.inl ⟨by rfl, ?_⟩) ?_ ?_
     rotate_left
     ·intro w'
      go_simp
      first | with_reducible rfl | skip
     rotate_left
     ·simp only [Act.put, zA, zB, zC]
      rfl
     refine pure_ (i := 10) (N := some 36) (v := ?_) (a' := ?_) #[true, true, true, true, true, true, true, true, true, true, true, false, true, false, false] rfl rfl (by kernel_rfl) (fun _ _ _ h => h) (Or.inl ⟨by rfl, ?_⟩) ?_ ?_
     rotate_left
     ·intro w'
      go_simp
      first | with_reducible rfl | skip
     rotate_left
     ·simp only [Act.put, zA, zB, zC]
      rfl
     refine pure_ (i := 11) (N := some 37) (v := ?_) (a' := ?_) #[true, true, true, true, true, true, true, true, true, true, true, true, true, false, false] rfl rfl (by kernel_rfl) (fun _ _ _ h => h) (Or.inl ⟨by rfl, ?_⟩) ?_ ?_
     rotate_left
     ·intro w'
      go_simp
      first | with_reducible rfl | skip
     rotate_left
     ·simp only [Act.put, zA, zB, zC]
      rfl
     exact norm_ (by simp only [putAll, Act.put, zA, zB, zC]) (hCont (u17.heap.size, u1.heap.size, u11.heap.size) _ ⟨hs19, hk19, by omega⟩)
   ·skip
    refine value_ (w1 := u1.alloc (.cells #[.int .i64 0, .int .i64 0, .string ⟨#[]⟩] 23)) (v := .pointer (some ⟨u1.heap.size, 0, none⟩)) (by rfl) rfl (by go_simp) ?_
    have hb20 : Below u1.heap.size u1 (u1.alloc (.cells #[.int .i64 0, .int .i64 0, .string ⟨#[]⟩] 23)) := below_alloc (Below.refl _ _) _
    have hn20 := blk_new u1 (.cells #[.int .i64 0, .int .i64 0, .string ⟨#[]⟩] 23)
    have hs20 := AlT.step hs1 hb20
    generalize u1.alloc (.cells #[.int .i64 0, .int .i64 0, .string ⟨#[]⟩] 23) = u20 at hb20 hn20 hs20 ⊢
    clear hHeld
    have hz20 := hs20.size
    refine hK.out _ _ hs20 (fun hHeld => ?_)
    clear hK K
    refine norm_ (a' := ?_) ?_ ?_
    rotate_left
    ·show Act.put _ (some 6) _ = _
     simp only [Act.put, zA, zB, zC]
     rfl
    refine two_ (i := 3) (j := 7) (Ni := some 30) (Nj := some 34) #[true, true, true, true, false, true, true, false, false, false, false, false, true, false, false] #[true, true, true, false, false, true, true, true, false, false, false, false, true, false, false] rfl rfl rfl rfl (by kernel_rfl) (by decide) (by decide) (fun K hK => ?_) (fun K hK => ?_)
    ·skip
     refine value_ (w1 := u20.alloc (.cells #[.int .i64 2, .string ⟨#[]⟩, .int .i64 2, .int .i64 0, .string ⟨#[]⟩, .slice none 0 0, .int .i64 7, .string ⟨#[]⟩, .int .i64 0, .int .i64 0, .string ⟨#[]⟩, .slice (some ⟨w3.heap.size, 0, none⟩) 2 2, .int .i64 2, .string ⟨#[]⟩, .int .i64 1, .int .i64 2, .string ⟨#[]⟩, .slice none 0 0] 26)) (v := .slice (some ⟨u20.heap.size, 0, none⟩) 3 3) (by rfl) rfl (by go_simp) ?_
     have hb21 : Below u20.heap.size u20 (u20.alloc (.cells #[.int .i64 2, .string ⟨#[]⟩, .int .i64 2, .int .i64 0, .string ⟨#[]⟩, .slice none 0 0, .int .i64 7, .string ⟨#[]⟩, .int .i64 0, .int .i64 0, .string ⟨#[]⟩, .slice (some ⟨w3.heap.size, 0, none⟩) 2 2, .int .i64 2, .string ⟨#[]⟩, .int .i64 1, .int .i64 2, .string ⟨#[]⟩, .slice none 0 0] 26)) := below_alloc (Below.refl _ _) _
     have hn21 := blk_new u20 (.cells #[.int .i64 2, .string ⟨#[]⟩, .int .i64 2, .int .i64 0, .string ⟨#[]⟩, .slice none 0 0, .int .i64 7, .string ⟨#[]⟩, .int .i64 0, .int .i64 0, .string ⟨#[]⟩, .slice (some ⟨w3.heap.size, 0, none⟩) 2 2, .int .i64 2, .string ⟨#[]⟩, .int .i64 1, .int .i64 2, .string ⟨#[]⟩, .slice none 0 0] 26)
     have hs21 := AlT.step hs20 hb21
     have hk21 := blk_below hn20 hb21
     generalize u20.alloc (.cells #[.int .i64 2, .string ⟨#[]⟩, .int .i64 2, .int .i64 0, .string ⟨#[]⟩, .slice none 0 0, .int .i64 7, .string ⟨#[]⟩, .int .i64 0, .int .i64 0, .string ⟨#[]⟩, .slice (some ⟨w3.heap.size, 0, none⟩) 2 2, .int .i64 2, .string ⟨#[]⟩, .int .i64 1, .int .i64 2, .string ⟨#[]⟩, .slice none 0 0] 26) = u21 at hb21 hn21 hs21 hk21 ⊢
     clear hHeld
     have hz21 := hs21.size
     refine hK.out _ _ hs21 (fun hHeld => ?_)
     clear hK K
     refine norm_ (a' := ?_) ?_ ?_
     rotate_left
     ·show Act.put _ (some 30) _ = _
      simp only [Act.put, zA, zB, zC]
      rfl
     refine pure_ (i := 4) (N := some 31) (v := ?_) (a' := ?_) #[true, true, true, true, true, true, true, false, false, false, false, false, true, false, false] rfl rfl (by kernel_rfl) (fun _ _ _ h => h) (Or.inl ⟨by rfl, ?_⟩) ?_ ?_
     rotate_left
     ·intro w'
      go_simp
      first | with_reducible rfl | skip
     rotate_left
     ·simp only [Act.put, zA, zB, zC]
      rfl
     refine one_ (i := 7) (N := some 34) #[true, true, true, true, true, true, true, true, false, false, false, false, true, false, false] rfl rfl (by kernel_rfl) (by decide) (fun K hK => ?_)
     refine value_ (w1 := u21.alloc (.cells #[.int .i64 0, .int .i64 0, .string ⟨#[]⟩] 23)) (v := .slice (some ⟨u21.heap.size, 0, none⟩) 1 1) (by rfl) rfl (by go_simp) ?_
     have hb22 : Below u21.heap.size u21 (u21.alloc (.cells #[.int .i64 0, .int .i64 0, .string ⟨#[]⟩] 23)) := below_alloc (Below.refl _ _) _
     have hn22 := blk_new u21 (.cells #[.int .i64 0, .int .i64 0, .string ⟨#[]⟩] 23)
     have hs22 := AlT.step hs21 hb22
     have hg22 := blk_below hn21 hb22
     have hk22 := blk_below hk21 hb22
     generalize u21.alloc (.cells #[.int .i64 0, .int .i64 0, .string ⟨#[]⟩] 23) = u22 at hb22 hn22 hs22 hg22 hk22 ⊢
     clear hHeld
     have hz22 := hs22.size
     refine hK.out _ _ hs22 (fun hHeld => ?_)
     clear hK K
     refine norm_ (a' := ?_) ?_ ?_
     rotate_left
     ·show Act.put _ (some 34) _ = _
      simp only [Act.put, zA, zB, zC]
      rfl
     refine one_ (i := 8) (N := some 35) #[true, true, true, true, true, true, true, true, true, false, false, false, true, false, false] rfl rfl (by kernel_rfl) (by decide) (fun K hK => ?_)
     refine goes_ Tryd.func14 (by kernel_rfl) rfl #[.agg #[.int .i64 18, .string ⟨#[]⟩, .int .i64 0, .int .i64 0, .string ⟨#[]⟩, .slice (some ⟨u20.heap.size, 0, none⟩) 3 3], .slice (some ⟨w.heap.size, 0, none⟩) 1 1, .slice (some ⟨u21.heap.size, 0, none⟩) 1 1] (by rfl) rfl rfl (by (try simp only [List.map_toArray, List.map_cons, List.map_nil]); first | done | rfl) ?_
     refine (hwif _ _ _ hs22.als hg22 hn22).mono ?_
     rintro e u23 ⟨rfl, hb23⟩
     have hs23 := AlT.step hs22 hb23
     have hg23 := blk_below hg22 hb23
     have hh23 := blk_below hn22 hb23
     have hk23 := blk_below hk22 hb23
     clear hHeld
     refine ⟨_, rfl, ?_⟩
     have hz23 := hs23.size
     refine hK.out _ _ hs23 (fun hHeld => ?_)
     clear hK K
     refine norm_ (a' := ?_) ?_ ?_
     rotate_left
     ·show Act.put _ (some 35) _ = _
      simp only [Act.put, zA, zB, zC]
      rfl
     refine pure_ (i := 9) (N := some 26) (v := ?_) (a' := ?_) #[true, true, true, true, true, true, true, true, true, true, false, false, true, false, false] rfl rfl (by kernel_rfl) (fun _ _ _ h => h) (Or.inl ⟨by rfl, ?_⟩) ?_ ?_
     rotate_left
     ·intro w'
      go_simp
      first | with_reducible rfl | skip
     rotate_left
     ·simp only [Act.put, zA, zB, zC]
      rfl
     refine pure_ (i := 10) (N := some 36) (v := ?_) (a' := ?_) #[true, true, true, true, true, true, true, true, true, true, true, false, true, false, false] rfl rfl (by kernel_rfl) (fun _ _ _ h => h) (Or.inl ⟨by rfl, ?_⟩) ?_ ?_
     rotate_left
     ·intro w'
      go_simp
      first | with_reducible rfl | skip
     rotate_left
     ·simp only [Act.put, zA, zB, zC]
      rfl
     refine pure_ (i := 11) (N := some 37) (v := ?_) (a' := ?_) #[true, true, true, true, true, true, true, true, true, true, true, true, true, false, false] rfl rfl (by kernel_rfl) (fun _ _ _ h => h) (Or.inl ⟨by rfl, ?_⟩) ?_ ?_
     rotate_left
     ·intro w'
      go_simp
      first | with_reducible rfl | skip
     rotate_left
     ·simp only [Act.put, zA, zB, zC]
      rfl
     exact norm_ (by simp only [putAll, Act.put, zA, zB, zC]) (hCont (u20.heap.size, u21.heap.size, u1.heap.size) _ ⟨hs23, hk23, by omega⟩)
    ·skip
     refine value_ (w1 := u20.alloc (.cells #[.int .i64 0, .int .i64 0, .string ⟨#[]⟩] 23)) (v := .slice (some ⟨u20.heap.size, 0, none⟩) 1 1) (by rfl) rfl (by go_simp) ?_
     have hb24 : Below u20.heap.size u20 (u20.alloc (.cells #[.int .i64 0, .int .i64 0, .string ⟨#[]⟩] 23)) := below_alloc (Below.refl _ _) _
     have hn24 := blk_new u20 (.cells #[.int .i64 0, .int .i64 0, .string ⟨#[]⟩] 23)
     have hs24 := AlT.step hs20 hb24
     have hk24 := blk_below hn20 hb24
     generalize u20.alloc (.cells #[.int .i64 0, .int .i64 0, .string ⟨#[]⟩] 23) = u24 at hb24 hn24 hs24 hk24 ⊢
     clear hHeld
     have hz24 := hs24.size
     refine hK.out _ _ hs24 (fun hHeld => ?_)
     clear hK K
     refine norm_ (a' := ?_) ?_ ?_
     rotate_left
     ·show Act.put _ (some 34) _ = _
      simp only [Act.put, zA, zB, zC]
      rfl
     refine one_ (i := 3) (N := some 30) #[true, true, true, true, false, true, true, true, false, false, false, false, true, false, false] rfl rfl (by kernel_rfl) (by decide) (fun K hK => ?_)
     refine value_ (w1 := u24.alloc (.cells #[.int .i64 2, .string ⟨#[]⟩, .int .i64 2, .int .i64 0, .string ⟨#[]⟩, .slice none 0 0, .int .i64 7, .string ⟨#[]⟩, .int .i64 0, .int .i64 0, .string ⟨#[]⟩, .slice (some ⟨w3.heap.size, 0, none⟩) 2 2, .int .i64 2, .string ⟨#[]⟩, .int .i64 1, .int .i64 2, .string ⟨#[]⟩, .slice none 0 0] 26)) (v := .slice (some ⟨u24.heap.size, 0, none⟩) 3 3) (by rfl) rfl (by go_simp) ?_
     have hb25 : Below u24.heap.size u24 (u24.alloc (.cells #[.int .i64 2, .string ⟨#[]⟩, .int .i64 2, .int .i64 0, .string ⟨#[]⟩, .slice none 0 0, .int .i64 7, .string ⟨#[]⟩, .int .i64 0, .int .i64 0, .string ⟨#[]⟩, .slice (some ⟨w3.heap.size, 0, none⟩) 2 2, .int .i64 2, .string ⟨#[]⟩, .int .i64 1, .int .i64 2, .string ⟨#[]⟩, .slice none 0 0] 26)) := below_alloc (Below.refl _ _) _
     have hn25 := blk_new u24 (.cells #[.int .i64 2, .string ⟨#[]⟩, .int .i64 2, .int .i64 0, .string ⟨#[]⟩, .slice none 0 0, .int .i64 7, .string ⟨#[]⟩, .int .i64 0, .int .i64 0, .string ⟨#[]⟩, .slice (some ⟨w3.heap.size, 0, none⟩) 2 2, .int .i64 2, .string ⟨#[]⟩, .int .i64 1, .int .i64 2, .string ⟨#[]⟩, .slice none 0 0] 26)
     have hs25 := AlT.step hs24 hb25
     have hh25 := blk_below hn24 hb25
     have hk25 := blk_below hk24 hb25
     generalize u24.alloc (.cells #[.int .i64 2, .string ⟨#[]⟩, .int .i64 2, .int .i64 0, .string ⟨#[]⟩, .slice none 0 0, .int .i64 7, .string ⟨#[]⟩, .int .i64 0, .int .i64 0, .string ⟨#[]⟩, .slice (some ⟨w3.heap.size, 0, none⟩) 2 2, .int .i64 2, .string ⟨#[]⟩, .int .i64 1, .int .i64 2, .string ⟨#[]⟩, .slice none 0 0] 26) = u25 at hb25 hn25 hs25 hh25 hk25 ⊢
     clear hHeld
     have hz25 := hs25.size
     refine hK.out _ _ hs25 (fun hHeld => ?_)
     clear hK K
     refine norm_ (a' := ?_) ?_ ?_
     rotate_left
     ·show Act.put _ (some 30) _ = _
      simp only [Act.put, zA, zB, zC]
      rfl
     refine pure_ (i := 4) (N := some 31) (v := ?_) (a' := ?_) #[true, true, true, true, true, true, true, true, false, false, false, false, true, false, false] rfl rfl (by kernel_rfl) (fun _ _ _ h => h) (Or.inl ⟨by rfl, ?_⟩) ?_ ?_
     rotate_left
     ·intro w'
      go_simp
      first | with_reducible rfl | skip
     rotate_left
     ·simp only [Act.put, zA, zB, zC]
      rfl
     refine one_ (i := 8) (N := some 35) #[true, true, true, true, true, true, true, true, true, false, false, false, true, false, false] rfl rfl (by kernel_rfl) (by decide) (fun K hK => ?_)
     refine goes_ Tryd.func14 (by kernel_rfl) rfl #[.agg #[.int .i64 18, .string ⟨#[]⟩, .int .i64 0, .int .i64 0, .string ⟨#[]⟩, .slice (some ⟨u24.heap.size, 0, none⟩) 3 3], .slice (some ⟨w.heap.size, 0, none⟩) 1 1, .slice (some ⟨u20.heap.size, 0, none⟩) 1 1] (by rfl) rfl rfl (by (try simp only [List.map_toArray, List.map_cons, List.map_nil]); first | done | rfl) ?_
     refine (hwif _ _ _ hs25.als hn25 hh25).mono ?_
     rintro e u26 ⟨rfl, hb26⟩
     have hs26 := AlT.step hs25 hb26
     have hg26 := blk_below hn25 hb26
     have hh26 := blk_below hh25 hb26
     have hk26 := blk_below hk25 hb26
     clear hHeld
     refine ⟨_, rfl, ?_⟩
     have hz26 := hs26.size
     refine hK.out _ _ hs26 (fun hHeld => ?_)
     clear hK K
     refine norm_ (a' := ?_) ?_ ?_
     rotate_left
     ·show Act.put _ (some 35) _ = _
      simp only [Act.put, zA, zB, zC]
      rfl
     refine pure_ (i := 9) (N := some 26) (v := ?_) (a' := ?_) #[true, true, true, true, true, true, true, true, true, true, false, false, true, false, false] rfl rfl (by kernel_rfl) (fun _ _ _ h => h) (Or.inl ⟨by rfl, ?_⟩) ?_ ?_
     rotate_left
     ·intro w'
      go_simp
      first | with_reducible rfl | skip
     rotate_left
     ·simp only [Act.put, zA, zB, zC]
      rfl
     refine pure_ (i := 10) (N := some 36) (v := ?_) (a' := ?_) #[true, true, true, true, true, true, true, true, true, true, true, false, true, false, false] rfl rfl (by kernel_rfl) (fun _ _ _ h => h) (Or.inl ⟨by rfl, ?_⟩) ?_ ?_
     rotate_left
     ·intro w'
      go_simp
      first | with_reducible rfl | skip
     rotate_left
     ·simp only [Act.put, zA, zB, zC]
      rfl
     refine pure_ (i := 11) (N := some 37) (v := ?_) (a' := ?_) #[true, true, true, true, true, true, true, true, true, true, true, true, true, false, false] rfl rfl (by kernel_rfl) (fun _ _ _ h => h) (Or.inl ⟨by rfl, ?_⟩) ?_ ?_
     rotate_left
     ·intro w'
      go_simp
      first | with_reducible rfl | skip
     rotate_left
     ·simp only [Act.put, zA, zB, zC]
      rfl
     exact norm_ (by simp only [putAll, Act.put, zA, zB, zC]) (hCont (u24.heap.size, u20.heap.size, u1.heap.size) _ ⟨hs26, hk26, by omega⟩)
  ·skip
   refine value_ (w1 := wd.alloc (.cells #[.int .i64 0, .int .i64 0, .string ⟨#[]⟩] 23)) (v := .slice (some ⟨wd.heap.size, 0, none⟩) 1 1) (by rfl) rfl (by go_simp) ?_
   have hb27 : Below wd.heap.size wd (wd.alloc (.cells #[.int .i64 0, .int .i64 0, .string ⟨#[]⟩] 23)) := below_alloc (Below.refl _ _) _
   have hn27 := blk_new wd (.cells #[.int .i64 0, .int .i64 0, .string ⟨#[]⟩] 23)
   have hs27 := AlT.step hs0 hb27
   generalize wd.alloc (.cells #[.int .i64 0, .int .i64 0, .string ⟨#[]⟩] 23) = u27 at hb27 hn27 hs27 ⊢
   clear hHeld
   have hz27 := hs27.size
   refine hK.out _ _ hs27 (fun hHeld => ?_)
   clear hK K
   refine norm_ (a' := ?_) ?_ ?_
   rotate_left
   ·show Act.put _ (some 34) _ = _
    simp only [Act.put, zA, zB, zC]
    rfl
   refine two_ (i := 2) (j := 12) (Ni := some 29) (Nj := some 6) #[true, true, true, false, false, true, true, true, false, false, false, false, false, false, false] #[true, true, false, false, false, true, true, true, false, false, false, false, true, false, false] rfl rfl rfl rfl (by kernel_rfl) (by decide) (by decide) (fun K hK => ?_) (fun K hK => ?_)
   ·skip
    refine goes_ Tryd.func29 (by kernel_rfl) rfl #[.int .i64 2] (by rfl) rfl rfl (by (try simp only [List.map_toArray, List.map_cons, List.map_nil]); first | done | rfl) ?_
    refine (one_calls 2 _).mono ?_
    rintro e u28 ⟨rfl, hb28⟩
    have hs28 := AlT.step hs27 hb28
    have hh28 := blk_below hn27 hb28
    clear hHeld
    refine ⟨_, rfl, ?_⟩
    have hz28 := hs28.size
    refine hK.out _ _ hs28 (fun hHeld => ?_)
    clear hK K
    refine norm_ (a' := ?_) ?_ ?_
    rotate_left
    ·show Act.put _ (some 29) _ = _
     simp only [Act.put, zA, zB, zC]
     rfl
    refine two_ (i := 3) (j := 12) (Ni := some 30) (Nj := some 6) #[true, true, true, true, false, true, true, true, false, false, false, false, false, false, false] #[true, true, true, false, false, true, true, true, false, false, false, false, true, false, false] rfl rfl rfl rfl (by kernel_rfl) (by decide) (by decide) (fun K hK => ?_) (fun K hK => ?_)
    ·skip
     refine value_ (w1 := u28.alloc (.cells #[.int .i64 2, .string ⟨#[]⟩, .int .i64 2, .int .i64 0, .string ⟨#[]⟩, .slice none 0 0, .int .i64 7, .string ⟨#[]⟩, .int .i64 0, .int .i64 0, .string ⟨#[]⟩, .slice (some ⟨w3.heap.size, 0, none⟩) 2 2, .int .i64 2, .string ⟨#[]⟩, .int .i64 1, .int .i64 2, .string ⟨#[]⟩, .slice none 0 0] 26)) (v := .slice (some ⟨u28.heap.size, 0, none⟩) 3 3) (by rfl) rfl (by go_simp) ?_
     have hb29 : Below u28.heap.size u28 (u28.alloc (.cells #[.int .i64 2, .string ⟨#[]⟩, .int .i64 2, .int .i64 0, .string ⟨#[]⟩, .slice none 0 0, .int .i64 7, .string ⟨#[]⟩, .int .i64 0, .int .i64 0, .string ⟨#[]⟩, .slice (some ⟨w3.heap.size, 0, none⟩) 2 2, .int .i64 2, .string ⟨#[]⟩, .int .i64 1, .int .i64 2, .string ⟨#[]⟩, .slice none 0 0] 26)) := below_alloc (Below.refl _ _) _
     have hn29 := blk_new u28 (.cells #[.int .i64 2, .string ⟨#[]⟩, .int .i64 2, .int .i64 0, .string ⟨#[]⟩, .slice none 0 0, .int .i64 7, .string ⟨#[]⟩, .int .i64 0, .int .i64 0, .string ⟨#[]⟩, .slice (some ⟨w3.heap.size, 0, none⟩) 2 2, .int .i64 2, .string ⟨#[]⟩, .int .i64 1, .int .i64 2, .string ⟨#[]⟩, .slice none 0 0] 26)
     have hs29 := AlT.step hs28 hb29
     have hh29 := blk_below hh28 hb29
     generalize u28.alloc (.cells #[.int .i64 2, .string ⟨#[]⟩, .int .i64 2, .int .i64 0, .string ⟨#[]⟩, .slice none 0 0, .int .i64 7, .string ⟨#[]⟩, .int .i64 0, .int .i64 0, .string ⟨#[]⟩, .slice (some ⟨w3.heap.size, 0, none⟩) 2 2, .int .i64 2, .string ⟨#[]⟩, .int .i64 1, .int .i64 2, .string ⟨#[]⟩, .slice none 0 0] 26) = u29 at hb29 hn29 hs29 hh29 ⊢
     clear hHeld
     have hz29 := hs29.size
     refine hK.out _ _ hs29 (fun hHeld => ?_)
     clear hK K
     refine norm_ (a' := ?_) ?_ ?_
     rotate_left
     ·show Act.put _ (some 30) _ = _
      simp only [Act.put, zA, zB, zC]
      rfl
     refine pure_ (i := 4) (N := some 31) (v := ?_) (a' := ?_) #[true, true, true, true, true, true, true, true, false, false, false, false, false, false, false] rfl rfl (by kernel_rfl) (fun _ _ _ h => h) (Or.inl ⟨by rfl, ?_⟩) ?_ ?_
     rotate_left
     ·intro w'
      go_simp
      first | with_reducible rfl | skip
     rotate_left
     ·simp only [Act.put, zA, zB, zC]
      rfl
     refine two_ (i := 8) (j := 12) (Ni := some 35) (Nj := some 6) #[true, true, true, true, true, true, true, true, true, false, false, false, false, false, false] #[true, true, true, true, true, true, true, true, false, false, false, false, true, false, false] rfl rfl rfl rfl (by kernel_rfl) (by decide) (by decide) (fun K hK => ?_) (fun K hK => ?_)
     ·skip
      refine goes_ Tryd.func14 (by kernel_rfl) rfl #[.agg #[.int .i64 18, .string ⟨#[]⟩, .int .i64 0, .int .i64 0, .string ⟨#[]⟩, .slice (some ⟨u28.heap.size, 0, none⟩) 3 3], .slice (some ⟨w.heap.size, 0, none⟩) 1 1, .slice (some ⟨wd.heap.size, 0, none⟩) 1 1] (by rfl) rfl rfl (by (try simp only [List.map_toArray, List.map_cons, List.map_nil]); first | done | rfl) ?_
      refine (hwif _ _ _ hs29.als hn29 hh29).mono ?_
      rintro e u30 ⟨rfl, hb30⟩
      have hs30 := AlT.step hs29 hb30
      have hg30 := blk_below hn29 hb30
      have hh30 := blk_below hh29 hb30
      clear hHeld
      refine ⟨_, rfl, ?_⟩
      have hz30 := hs30.size
      refine hK.out _ _ hs30 (fun hHeld => ?_)
      clear hK K
      refine norm_ (a' := ?_) ?_ ?_
      rotate_left
      ·show Act.put _ (some 35) _ = _
       simp only [Act.put, zA, zB, zC]
       rfl
      refine pure_ (i := 9) (N := some 26) (v := ?_) (a' := ?_) #[true, true, true, true, true, true, true, true, true, true, false, false, false, false, false] rfl rfl (by kernel_rfl) (fun _ _ _ h => h) (Or.inl ⟨by rfl, ?_⟩) ?_ ?_
      rotate_left
      ·intro w'
       go_simp
       first | with_reducible rfl | skip
      rotate_left
      ·simp only [Act.put, zA, zB, zC]
       rfl
      refine pure_ (i := 10) (N := some 36) (v := ?_) (a' := ?_) #[true, true, true, true, true, true, true, true, true, true, true, false, false, false, false] rfl rfl (by kernel_rfl) (fun _ _ _ h => h) (Or.inl ⟨by rfl, ?_⟩) ?_ ?_
      rotate_left
      ·intro w'
       go_simp
       first | with_reducible rfl | skip
      rotate_left
      ·simp only [Act.put, zA, zB, zC]
       rfl
      refine pure_ (i := 11) (N := some 37) (v := ?_) (a' := ?_) #[true, true, true, true, true, true, true, true, true, true, true, true, false, false, false] rfl rfl (by kernel_rfl) (fun _ _ _ h => h) (Or.inl ⟨by rfl, ?_⟩) ?_ ?_
      rotate_left
      ·intro w'
       go_simp
       first | with_reducible rfl | skip
      rotate_left
      ·simp only [Act.put, zA, zB, zC]
       rfl
      refine one_ (i := 12) (N := some 6) #[true, true, true, true, true, true, true, true, true, true, true, true, true, false, false] rfl rfl (by kernel_rfl) (by decide) (fun K hK => ?_)
      refine value_ (w1 := u30.alloc (.cells #[.int .i64 0, .int .i64 0, .string ⟨#[]⟩] 23)) (v := .pointer (some ⟨u30.heap.size, 0, none⟩)) (by rfl) rfl (by go_simp) ?_
      have hb31 : Below u30.heap.size u30 (u30.alloc (.cells #[.int .i64 0, .int .i64 0, .string ⟨#[]⟩] 23)) := below_alloc (Below.refl _ _) _
      have hn31 := blk_new u30 (.cells #[.int .i64 0, .int .i64 0, .string ⟨#[]⟩] 23)
      have hs31 := AlT.step hs30 hb31
      have hg31 := blk_below hg30 hb31
      have hh31 := blk_below hh30 hb31
      generalize u30.alloc (.cells #[.int .i64 0, .int .i64 0, .string ⟨#[]⟩] 23) = u31 at hb31 hn31 hs31 hg31 hh31 ⊢
      clear hHeld
      have hz31 := hs31.size
      refine hK.out _ _ hs31 (fun hHeld => ?_)
      clear hK K
      refine norm_ (a' := ?_) ?_ ?_
      rotate_left
      ·show Act.put _ (some 6) _ = _
       simp only [Act.put, zA, zB, zC]
       rfl
      exact norm_ (by simp only [putAll, Act.put, zA, zB, zC]) (hCont (u28.heap.size, wd.heap.size, u30.heap.size) _ ⟨hs31, hn31, by omega⟩)
     ·skip
      refine value_ (w1 := u29.alloc (.cells #[.int .i64 0, .int .i64 0, .string ⟨#[]⟩] 23)) (v := .pointer (some ⟨u29.heap.size, 0, none⟩)) (by rfl) rfl (by go_simp) ?_
      have hb32 : Below u29.heap.size u29 (u29.alloc (.cells #[.int .i64 0, .int .i64 0, .string ⟨#[]⟩] 23)) := below_alloc (Below.refl _ _) _
      have hn32 := blk_new u29 (.cells #[.int .i64 0, .int .i64 0, .string ⟨#[]⟩] 23)
      have hs32 := AlT.step hs29 hb32
      have hg32 := blk_below hn29 hb32
      have hh32 := blk_below hh29 hb32
      generalize u29.alloc (.cells #[.int .i64 0, .int .i64 0, .string ⟨#[]⟩] 23) = u32 at hb32 hn32 hs32 hg32 hh32 ⊢
      clear hHeld
      have hz32 := hs32.size
      refine hK.out _ _ hs32 (fun hHeld => ?_)
      clear hK K
      refine norm_ (a' := ?_) ?_ ?_
      rotate_left
      ·show Act.put _ (some 6) _ = _
       simp only [Act.put, zA, zB, zC]
       rfl
      refine one_ (i := 8) (N := some 35) #[true, true, true, true, true, true, true, true, true, false, false, false, true, false, false] rfl rfl (by kernel_rfl) (by decide) (fun K hK => ?_)
      refine goes_ Tryd.func14 (by kernel_rfl) rfl #[.agg #[.int .i64 18, .string ⟨#[]⟩, .int .i64 0, .int .i64 0, .string ⟨#[]⟩, .slice (some ⟨u28.heap.size, 0, none⟩) 3 3], .slice (some ⟨w.heap.size, 0, none⟩) 1 1, .slice (some ⟨wd.heap.size, 0, none⟩) 1 1] (by rfl) rfl rfl (by (try simp only [List.map_toArray, List.map_cons, List.map_nil]); first | done | rfl) ?_
      refine (hwif _ _ _ hs32.als hg32 hh32).mono ?_
      rintro e u33 ⟨rfl, hb33⟩
      have hs33 := AlT.step hs32 hb33
      have hg33 := blk_below hg32 hb33
      have hh33 := blk_below hh32 hb33
      have hk33 := blk_below hn32 hb33
      clear hHeld
      refine ⟨_, rfl, ?_⟩
      have hz33 := hs33.size
      refine hK.out _ _ hs33 (fun hHeld => ?_)
      clear hK K
      refine norm_ (a' := ?_) ?_ ?_
      rotate_left
      ·show Act.put _ (some 35) _ = _
       simp only [Act.put, zA, zB, zC]
       rfl
      refine pure_ (i := 9) (N := some 26) (v := ?_) (a' := ?_) #[true, true, true, true, true, true, true, true, true, true, false, false, true, false, false] rfl rfl (by kernel_rfl) (fun _ _ _ h => h) (Or.inl ⟨by rfl, ?_⟩) ?_ ?_
      rotate_left
      ·intro w'
       go_simp
       first | with_reducible rfl | skip
      rotate_left
      ·simp only [Act.put, zA, zB, zC]
       rfl
      refine pure_ (i := 10) (N := some 36) (v := ?_) (a' := ?_) #[true, true, true, true, true, true, true, true, true, true, true, false, true, false, false] rfl rfl (by kernel_rfl) (fun _ _ _ h => h) (Or.inl ⟨by rfl, ?_⟩) ?_ ?_
      rotate_left
      ·intro w'
       go_simp
       first | with_reducible rfl | skip
      rotate_left
      ·simp only [Act.put, zA, zB, zC]
       rfl
      refine pure_ (i := 11) (N := some 37) (v := ?_) (a' := ?_) #[true, true, true, true, true, true, true, true, true, true, true, true, true, false, false] rfl rfl (by kernel_rfl) (fun _ _ _ h => h) (Or.inl ⟨by rfl, ?_⟩) ?_ ?_
      rotate_left
      ·intro w'
       go_simp
       first | with_reducible rfl | skip
      rotate_left
      ·simp only [Act.put, zA, zB, zC]
       rfl
      exact norm_ (by simp only [putAll, Act.put, zA, zB, zC]) (hCont (u28.heap.size, wd.heap.size, u29.heap.size) _ ⟨hs33, hk33, by omega⟩)
    ·skip
     refine value_ (w1 := u28.alloc (.cells #[.int .i64 0, .int .i64 0, .string ⟨#[]⟩] 23)) (v := .pointer (some ⟨u28.heap.size, 0, none⟩)) (by rfl) rfl (by go_simp) ?_
     have hb34 : Below u28.heap.size u28 (u28.alloc (.cells #[.int .i64 0, .int .i64 0, .string ⟨#[]⟩] 23)) := below_alloc (Below.refl _ _) _
     have hn34 := blk_new u28 (.cells #[.int .i64 0, .int .i64 0, .string ⟨#[]⟩] 23)
     have hs34 := AlT.step hs28 hb34
     have hh34 := blk_below hh28 hb34
     generalize u28.alloc (.cells #[.int .i64 0, .int .i64 0, .string ⟨#[]⟩] 23) = u34 at hb34 hn34 hs34 hh34 ⊢
     clear hHeld
     have hz34 := hs34.size
     refine hK.out _ _ hs34 (fun hHeld => ?_)
     clear hK K
     refine norm_ (a' := ?_) ?_ ?_
     rotate_left
     ·show Act.put _ (some 6) _ = _
      simp only [Act.put, zA, zB, zC]
      rfl
     refine one_ (i := 3) (N := some 30) #[true, true, true, true, false, true, true, true, false, false, false, false, true, false, false] rfl rfl (by kernel_rfl) (by decide) (fun K hK => ?_)
     refine value_ (w1 := u34.alloc (.cells #[.int .i64 2, .string ⟨#[]⟩, .int .i64 2, .int .i64 0, .string ⟨#[]⟩, .slice none 0 0, .int .i64 7, .string ⟨#[]⟩, .int .i64 0, .int .i64 0, .string ⟨#[]⟩, .slice (some ⟨w3.heap.size, 0, none⟩) 2 2, .int .i64 2, .string ⟨#[]⟩, .int .i64 1, .int .i64 2, .string ⟨#[]⟩, .slice none 0 0] 26)) (v := .slice (some ⟨u34.heap.size, 0, none⟩) 3 3) (by rfl) rfl (by go_simp) ?_
     have hb35 : Below u34.heap.size u34 (u34.alloc (.cells #[.int .i64 2, .string ⟨#[]⟩, .int .i64 2, .int .i64 0, .string ⟨#[]⟩, .slice none 0 0, .int .i64 7, .string ⟨#[]⟩, .int .i64 0, .int .i64 0, .string ⟨#[]⟩, .slice (some ⟨w3.heap.size, 0, none⟩) 2 2, .int .i64 2, .string ⟨#[]⟩, .int .i64 1, .int .i64 2, .string ⟨#[]⟩, .slice none 0 0] 26)) := below_alloc (Below.refl _ _) _
     have hn35 := blk_new u34 (.cells #[.int .i64 2, .string ⟨#[]⟩, .int .i64 2, .int .i64 0, .string ⟨#[]⟩, .slice none 0 0, .int .i64 7, .string ⟨#[]⟩, .int .i64 0, .int .i64 0, .string ⟨#[]⟩, .slice (some ⟨w3.heap.size, 0, none⟩) 2 2, .int .i64 2, .string ⟨#[]⟩, .int .i64 1, .int .i64 2, .string ⟨#[]⟩, .slice none 0 0] 26)
     have hs35 := AlT.step hs34 hb35
     have hh35 := blk_below hh34 hb35
     have hk35 := blk_below hn34 hb35
     generalize u34.alloc (.cells #[.int .i64 2, .string ⟨#[]⟩, .int .i64 2, .int .i64 0, .string ⟨#[]⟩, .slice none 0 0, .int .i64 7, .string ⟨#[]⟩, .int .i64 0, .int .i64 0, .string ⟨#[]⟩, .slice (some ⟨w3.heap.size, 0, none⟩) 2 2, .int .i64 2, .string ⟨#[]⟩, .int .i64 1, .int .i64 2, .string ⟨#[]⟩, .slice none 0 0] 26) = u35 at hb35 hn35 hs35 hh35 hk35 ⊢
     clear hHeld
     have hz35 := hs35.size
     refine hK.out _ _ hs35 (fun hHeld => ?_)
     clear hK K
     refine norm_ (a' := ?_) ?_ ?_
     rotate_left
     ·show Act.put _ (some 30) _ = _
      simp only [Act.put, zA, zB, zC]
      rfl
     refine pure_ (i := 4) (N := some 31) (v := ?_) (a' := ?_) #[true, true, true, true, true, true, true, true, false, false, false, false, true, false, false] rfl rfl (by kernel_rfl) (fun _ _ _ h => h) (Or.inl ⟨by rfl, ?_⟩) ?_ ?_
     rotate_left
     ·intro w'
      go_simp
      first | with_reducible rfl | skip
     rotate_left
     ·simp only [Act.put, zA, zB, zC]
      rfl
     refine one_ (i := 8) (N := some 35) #[true, true, true, true, true, true, true, true, true, false, false, false, true, false, false] rfl rfl (by kernel_rfl) (by decide) (fun K hK => ?_)
     refine goes_ Tryd.func14 (by kernel_rfl) rfl #[.agg #[.int .i64 18, .string ⟨#[]⟩, .int .i64 0, .int .i64 0, .string ⟨#[]⟩, .slice (some ⟨u34.heap.size, 0, none⟩) 3 3], .slice (some ⟨w.heap.size, 0, none⟩) 1 1, .slice (some ⟨wd.heap.size, 0, none⟩) 1 1] (by rfl) rfl rfl (by (try simp only [List.map_toArray, List.map_cons, List.map_nil]); first | done | rfl) ?_
     refine (hwif _ _ _ hs35.als hn35 hh35).mono ?_
     rintro e u36 ⟨rfl, hb36⟩
     have hs36 := AlT.step hs35 hb36
     have hg36 := blk_below hn35 hb36
     have hh36 := blk_below hh35 hb36
     have hk36 := blk_below hk35 hb36
     clear hHeld
     refine ⟨_, rfl, ?_⟩
     have hz36 := hs36.size
     refine hK.out _ _ hs36 (fun hHeld => ?_)
     clear hK K
     refine norm_ (a' := ?_) ?_ ?_
     rotate_left
     ·show Act.put _ (some 35) _ = _
      simp only [Act.put, zA, zB, zC]
      rfl
     refine pure_ (i := 9) (N := some 26) (v := ?_) (a' := ?_) #[true, true, true, true, true, true, true, true, true, true, false, false, true, false, false] rfl rfl (by kernel_rfl) (fun _ _ _ h => h) (Or.inl ⟨by rfl, ?_⟩) ?_ ?_
     rotate_left
     ·intro w'
      go_simp
      first | with_reducible rfl | skip
     rotate_left
     ·simp only [Act.put, zA, zB, zC]
      rfl
     refine pure_ (i := 10) (N := some 36) (v := ?_) (a' := ?_) #[true, true, true, true, true, true, true, true, true, true, true, false, true, false, false] rfl rfl (by kernel_rfl) (fun _ _ _ h => h) (Or.inl ⟨by rfl, ?_⟩) ?_ ?_
     rotate_left
     ·intro w'
      go_simp
      first | with_reducible rfl | skip
     rotate_left
     ·simp only [Act.put, zA, zB, zC]
      rfl
     refine pure_ (i := 11) (N := some 37) (v := ?_) (a' := ?_) #[true, true, true, true, true, true, true, true, true, true, true, true, true, false, false] rfl rfl (by kernel_rfl) (fun _ _ _ h => h) (Or.inl ⟨by rfl, ?_⟩) ?_ ?_
     rotate_left
     ·intro w'
      go_simp
      first | with_reducible rfl | skip
     rotate_left
     ·simp only [Act.put, zA, zB, zC]
      rfl
     exact norm_ (by simp only [putAll, Act.put, zA, zB, zC]) (hCont (u34.heap.size, wd.heap.size, u28.heap.size) _ ⟨hs36, hk36, by omega⟩)
   ·skip
    refine value_ (w1 := u27.alloc (.cells #[.int .i64 0, .int .i64 0, .string ⟨#[]⟩] 23)) (v := .pointer (some ⟨u27.heap.size, 0, none⟩)) (by rfl) rfl (by go_simp) ?_
    have hb37 : Below u27.heap.size u27 (u27.alloc (.cells #[.int .i64 0, .int .i64 0, .string ⟨#[]⟩] 23)) := below_alloc (Below.refl _ _) _
    have hn37 := blk_new u27 (.cells #[.int .i64 0, .int .i64 0, .string ⟨#[]⟩] 23)
    have hs37 := AlT.step hs27 hb37
    have hh37 := blk_below hn27 hb37
    generalize u27.alloc (.cells #[.int .i64 0, .int .i64 0, .string ⟨#[]⟩] 23) = u37 at hb37 hn37 hs37 hh37 ⊢
    clear hHeld
    have hz37 := hs37.size
    refine hK.out _ _ hs37 (fun hHeld => ?_)
    clear hK K
    refine norm_ (a' := ?_) ?_ ?_
    rotate_left
    ·show Act.put _ (some 6) _ = _
     simp only [Act.put, zA, zB, zC]
     rfl
    refine one_ (i := 2) (N := some 29) #[true, true, true, false, false, true, true, true, false, false, false, false, true, false, false] rfl rfl (by kernel_rfl) (by decide) (fun K hK => ?_)
    refine goes_ Tryd.func29 (by kernel_rfl) rfl #[.int .i64 2] (by rfl) rfl rfl (by (try simp only [List.map_toArray, List.map_cons, List.map_nil]); first | done | rfl) ?_
    refine (one_calls 2 _).mono ?_
    rintro e u38 ⟨rfl, hb38⟩
    have hs38 := AlT.step hs37 hb38
    have hh38 := blk_below hh37 hb38
    have hk38 := blk_below hn37 hb38
    clear hHeld
    refine ⟨_, rfl, ?_⟩
    have hz38 := hs38.size
    refine hK.out _ _ hs38 (fun hHeld => ?_)
    clear hK K
    refine norm_ (a' := ?_) ?_ ?_
    rotate_left
    ·show Act.put _ (some 29) _ = _
     simp only [Act.put, zA, zB, zC]
     rfl
    refine one_ (i := 3) (N := some 30) #[true, true, true, true, false, true, true, true, false, false, false, false, true, false, false] rfl rfl (by kernel_rfl) (by decide) (fun K hK => ?_)
    refine value_ (w1 := u38.alloc (.cells #[.int .i64 2, .string ⟨#[]⟩, .int .i64 2, .int .i64 0, .string ⟨#[]⟩, .slice none 0 0, .int .i64 7, .string ⟨#[]⟩, .int .i64 0, .int .i64 0, .string ⟨#[]⟩, .slice (some ⟨w3.heap.size, 0, none⟩) 2 2, .int .i64 2, .string ⟨#[]⟩, .int .i64 1, .int .i64 2, .string ⟨#[]⟩, .slice none 0 0] 26)) (v := .slice (some ⟨u38.heap.size, 0, none⟩) 3 3) (by rfl) rfl (by go_simp) ?_
    have hb39 : Below u38.heap.size u38 (u38.alloc (.cells #[.int .i64 2, .string ⟨#[]⟩, .int .i64 2, .int .i64 0, .string ⟨#[]⟩, .slice none 0 0, .int .i64 7, .string ⟨#[]⟩, .int .i64 0, .int .i64 0, .string ⟨#[]⟩, .slice (some ⟨w3.heap.size, 0, none⟩) 2 2, .int .i64 2, .string ⟨#[]⟩, .int .i64 1, .int .i64 2, .string ⟨#[]⟩, .slice none 0 0] 26)) := below_alloc (Below.refl _ _) _
    have hn39 := blk_new u38 (.cells #[.int .i64 2, .string ⟨#[]⟩, .int .i64 2, .int .i64 0, .string ⟨#[]⟩, .slice none 0 0, .int .i64 7, .string ⟨#[]⟩, .int .i64 0, .int .i64 0, .string ⟨#[]⟩, .slice (some ⟨w3.heap.size, 0, none⟩) 2 2, .int .i64 2, .string ⟨#[]⟩, .int .i64 1, .int .i64 2, .string ⟨#[]⟩, .slice none 0 0] 26)
    have hs39 := AlT.step hs38 hb39
    have hh39 := blk_below hh38 hb39
    have hk39 := blk_below hk38 hb39
    generalize u38.alloc (.cells #[.int .i64 2, .string ⟨#[]⟩, .int .i64 2, .int .i64 0, .string ⟨#[]⟩, .slice none 0 0, .int .i64 7, .string ⟨#[]⟩, .int .i64 0, .int .i64 0, .string ⟨#[]⟩, .slice (some ⟨w3.heap.size, 0, none⟩) 2 2, .int .i64 2, .string ⟨#[]⟩, .int .i64 1, .int .i64 2, .string ⟨#[]⟩, .slice none 0 0] 26) = u39 at hb39 hn39 hs39 hh39 hk39 ⊢
    clear hHeld
    have hz39 := hs39.size
    refine hK.out _ _ hs39 (fun hHeld => ?_)
    clear hK K
    refine norm_ (a' := ?_) ?_ ?_
    rotate_left
    ·show Act.put _ (some 30) _ = _
     simp only [Act.put, zA, zB, zC]
     rfl
    refine pure_ (i := 4) (N := some 31) (v := ?_) (a' := ?_) #[true, true, true, true, true, true, true, true, false, false, false, false, true, false, false] rfl rfl (by kernel_rfl) (fun _ _ _ h => h) (Or.inl ⟨by rfl, ?_⟩) ?_ ?_
    rotate_left
    ·intro w'
     go_simp
     first | with_reducible rfl | skip
    rotate_left
    ·simp only [Act.put, zA, zB, zC]
     rfl
    refine one_ (i := 8) (N := some 35) #[true, true, true, true, true, true, true, true, true, false, false, false, true, false, false] rfl rfl (by kernel_rfl) (by decide) (fun K hK => ?_)
    refine goes_ Tryd.func14 (by kernel_rfl) rfl #[.agg #[.int .i64 18, .string ⟨#[]⟩, .int .i64 0, .int .i64 0, .string ⟨#[]⟩, .slice (some ⟨u38.heap.size, 0, none⟩) 3 3], .slice (some ⟨w.heap.size, 0, none⟩) 1 1, .slice (some ⟨wd.heap.size, 0, none⟩) 1 1] (by rfl) rfl rfl (by (try simp only [List.map_toArray, List.map_cons, List.map_nil]); first | done | rfl) ?_
    refine (hwif _ _ _ hs39.als hn39 hh39).mono ?_
    rintro e u40 ⟨rfl, hb40⟩
    have hs40 := AlT.step hs39 hb40
    have hg40 := blk_below hn39 hb40
    have hh40 := blk_below hh39 hb40
    have hk40 := blk_below hk39 hb40
    clear hHeld
    refine ⟨_, rfl, ?_⟩
    have hz40 := hs40.size
    refine hK.out _ _ hs40 (fun hHeld => ?_)
    clear hK K
    refine norm_ (a' := ?_) ?_ ?_
    rotate_left
    ·show Act.put _ (some 35) _ = _
     simp only [Act.put, zA, zB, zC]
     rfl
    refine pure_ (i := 9) (N := some 26) (v := ?_) (a' := ?_) #[true, true, true, true, true, true, true, true, true, true, false, false, true, false, false] rfl rfl (by kernel_rfl) (fun _ _ _ h => h) (Or.inl ⟨by rfl, ?_⟩) ?_ ?_
    rotate_left
    ·intro w'
     go_simp
     first | with_reducible rfl | skip
    rotate_left
    ·simp only [Act.put, zA, zB, zC]
     rfl
    refine pure_ (i := 10) (N := some 36) (v := ?_) (a' := ?_) #[true, true, true, true, true, true, true, true, true, true, true, false, true, false, false] rfl rfl (by kernel_rfl) (fun _ _ _ h => h) (Or.inl ⟨by rfl, ?_⟩) ?_ ?_
    rotate_left
    ·intro w'
     go_simp
     first | with_reducible rfl | skip
    rotate_left
    ·simp only [Act.put, zA, zB, zC]
     rfl
    refine pure_ (i := 11) (N := some 37) (v := ?_) (a' := ?_) #[true, true, true, true, true, true, true, true, true, true, true, true, true, false, false] rfl rfl (by kernel_rfl) (fun _ _ _ h => h) (Or.inl ⟨by rfl, ?_⟩) ?_ ?_
    rotate_left
    ·intro w'
     go_simp
     first | with_reducible rfl | skip
    rotate_left
    ·simp only [Act.put, zA, zB, zC]
     rfl
    exact norm_ (by simp only [putAll, Act.put, zA, zB, zC]) (hCont (u38.heap.size, wd.heap.size, u27.heap.size) _ ⟨hs40, hk40, by omega⟩)
  ·skip
   refine value_ (w1 := wd.alloc (.cells #[.int .i64 0, .int .i64 0, .string ⟨#[]⟩] 23)) (v := .pointer (some ⟨wd.heap.size, 0, none⟩)) (by rfl) rfl (by go_simp) ?_
   have hb41 : Below wd.heap.size wd (wd.alloc (.cells #[.int .i64 0, .int .i64 0, .string ⟨#[]⟩] 23)) := below_alloc (Below.refl _ _) _
   have hn41 := blk_new wd (.cells #[.int .i64 0, .int .i64 0, .string ⟨#[]⟩] 23)
   have hs41 := AlT.step hs0 hb41
   generalize wd.alloc (.cells #[.int .i64 0, .int .i64 0, .string ⟨#[]⟩] 23) = u41 at hb41 hn41 hs41 ⊢
   clear hHeld
   have hz41 := hs41.size
   refine hK.out _ _ hs41 (fun hHeld => ?_)
   clear hK K
   refine norm_ (a' := ?_) ?_ ?_
   rotate_left
   ·show Act.put _ (some 6) _ = _
    simp only [Act.put, zA, zB, zC]
    rfl
   refine two_ (i := 2) (j := 7) (Ni := some 29) (Nj := some 34) #[true, true, true, false, false, true, true, false, false, false, false, false, true, false, false] #[true, true, false, false, false, true, true, true, false, false, false, false, true, false, false] rfl rfl rfl rfl (by kernel_rfl) (by decide) (by decide) (fun K hK => ?_) (fun K hK => ?_)
   ·skip
    refine goes_ Tryd.func29 (by kernel_rfl) rfl #[.int .i64 2] (by rfl) rfl rfl (by (try simp only [List.map_toArray, List.map_cons, List.map_nil]); first | done | rfl) ?_
    refine (one_calls 2 _).mono ?_
    rintro e u42 ⟨rfl, hb42⟩
    have hs42 := AlT.step hs41 hb42
    have hk42 := blk_below hn41 hb42
    clear hHeld
    refine ⟨_, rfl, ?_⟩
    have hz42 := hs42.size
    refine hK.out _ _ hs42 (fun hHeld => ?_)
    clear hK K
    refine norm_ (a' := ?_) ?_ ?_
    rotate_left
    ·show Act.put _ (some 29) _ = _
     simp only [Act.put, zA, zB, zC]
     rfl
    refine two_ (i := 3) (j := 7) (Ni := some 30) (Nj := some 34) #[true, true, true, true, false, true, true, false, false, false, false, false, true, false, false] #[true, true, true, false, false, true, true, true, false, false, false, false, true, false, false] rfl rfl rfl rfl (by kernel_rfl) (by decide) (by decide) (fun K hK => ?_) (fun K hK => ?_)
    ·skip
     refine value_ (w1 := u42.alloc (.cells #[.int .i64 2, .string ⟨#[]⟩, .int .i64 2, .int .i64 0, .string ⟨#[]⟩, .slice none 0 0, .int .i64 7, .string ⟨#[]⟩, .int .i64 0, .int .i64 0, .string ⟨#[]⟩, .slice (some ⟨w3.heap.size, 0, none⟩) 2 2, .int .i64 2, .string ⟨#[]⟩, .int .i64 1, .int .i64 2, .string ⟨#[]⟩, .slice none 0 0] 26)) (v := .slice (some ⟨u42.heap.size, 0, none⟩) 3 3) (by rfl) rfl (by go_simp) ?_
     have hb43 : Below u42.heap.size u42 (u42.alloc (.cells #[.int .i64 2, .string ⟨#[]⟩, .int .i64 2, .int .i64 0, .string ⟨#[]⟩, .slice none 0 0, .int .i64 7, .string ⟨#[]⟩, .int .i64 0, .int .i64 0, .string ⟨#[]⟩, .slice (some ⟨w3.heap.size, 0, none⟩) 2 2, .int .i64 2, .string ⟨#[]⟩, .int .i64 1, .int .i64 2, .string ⟨#[]⟩, .slice none 0 0] 26)) := below_alloc (Below.refl _ _) _
     have hn43 := blk_new u42 (.cells #[.int .i64 2, .string ⟨#[]⟩, .int .i64 2, .int .i64 0, .string ⟨#[]⟩, .slice none 0 0, .int .i64 7, .string ⟨#[]⟩, .int .i64 0, .int .i64 0, .string ⟨#[]⟩, .slice (some ⟨w3.heap.size, 0, none⟩) 2 2, .int .i64 2, .string ⟨#[]⟩, .int .i64 1, .int .i64 2, .string ⟨#[]⟩, .slice none 0 0] 26)
     have hs43 := AlT.step hs42 hb43
     have hk43 := blk_below hk42 hb43
     generalize u42.alloc (.cells #[.int .i64 2, .string ⟨#[]⟩, .int .i64 2, .int .i64 0, .string ⟨#[]⟩, .slice none 0 0, .int .i64 7, .string ⟨#[]⟩, .int .i64 0, .int .i64 0, .string ⟨#[]⟩, .slice (some ⟨w3.heap.size, 0, none⟩) 2 2, .int .i64 2, .string ⟨#[]⟩, .int .i64 1, .int .i64 2, .string ⟨#[]⟩, .slice none 0 0] 26) = u43 at hb43 hn43 hs43 hk43 ⊢
     clear hHeld
     have hz43 := hs43.size
     refine hK.out _ _ hs43 (fun hHeld => ?_)
     clear hK K
     refine norm_ (a' := ?_) ?_ ?_
     rotate_left
     ·show Act.put _ (some 30) _ = _
      simp only [Act.put, zA, zB, zC]
      rfl
     refine pure_ (i := 4) (N := some 31) (v := ?_) (a' := ?_) #[true, true, true, true, true, true, true, false, false, false, false, false, true, false, false] rfl rfl (by kernel_rfl) (fun _ _ _ h => h) (Or.inl ⟨by rfl, ?_⟩) ?_ ?_
     rotate_left
     ·intro w'
      go_simp
      first | with_reducible rfl | skip
     rotate_left
     ·simp only [Act.put, zA, zB, zC]
      rfl
     refine one_ (i := 7) (N := some 34) #[true, true, true, true, true, true, true, true, false, false, false, false, true, false, false] rfl rfl (by kernel_rfl) (by decide) (fun K hK => ?_)
     refine value_ (w1 := u43.alloc (.cells #[.int .i64 0, .int .i64 0, .string ⟨#[]⟩] 23)) (v := .slice (some ⟨u43.heap.size, 0, none⟩) 1 1) (by rfl) rfl (by go_simp) ?_
     have hb44 : Below u43.heap.size u43 (u43.alloc (.cells #[.int .i64 0, .int .i64 0, .string ⟨#[]⟩] 23)) := below_alloc (Below.refl _ _) _
     have hn44 := blk_new u43 (.cells #[.int .i64 0, .int .i64 0, .string ⟨#[]⟩] 23)
     have hs44 := AlT.step hs43 hb44
     have hg44 := blk_below hn43 hb44
     have hk44 := blk_below hk43 hb44
     generalize u43.alloc (.cells #[.int .i64 0, .int .i64 0, .string ⟨#[]⟩] 23) = u44 at hb44 hn44 hs44 hg44 hk44 ⊢
     clear hHeld
     have hz44 := hs44.size
     refine hK.out _ _ hs44 (fun hHeld => ?_)
     clear hK K
     refine norm_ (a' := ?_) ?_ ?_
     rotate_left
     ·show Act.put _ (some 34) _ = _
      simp only [Act.put, zA, zB, zC]
      rfl
     refine one_ (i := 8) (N := some 35) #[true, true, true, true, true, true, true, true, true, false, false, false, true, false, false] rfl rfl (by kernel_rfl) (by decide) (fun K hK => ?_)
     refine goes_ Tryd.func14 (by kernel_rfl) rfl #[.agg #[.int .i64 18, .string ⟨#[]⟩, .int .i64 0, .int .i64 0, .string ⟨#[]⟩, .slice (some ⟨u42.heap.size, 0, none⟩) 3 3], .slice (some ⟨w.heap.size, 0, none⟩) 1 1, .slice (some ⟨u43.heap.size, 0, none⟩) 1 1] (by rfl) rfl rfl (by (try simp only [List.map_toArray, List.map_cons, List.map_nil]); first | done | rfl) ?_
     refine (hwif _ _ _ hs44.als hg44 hn44).mono ?_
     rintro e u45 ⟨rfl, hb45⟩
     have hs45 := AlT.step hs44 hb45
     have hg45 := blk_below hg44 hb45
     have hh45 := blk_below hn44 hb45
     have hk45 := blk_below hk44 hb45
     clear hHeld
     refine ⟨_, rfl, ?_⟩
     have hz45 := hs45.size
     refine hK.out _ _ hs45 (fun hHeld => ?_)
     clear hK K
     refine norm_ (a' := ?_) ?_ ?_
     rotate_left
     ·show Act.put _ (some 35) _ = _
      simp only [Act.put, zA, zB, zC]
      rfl
     refine pure_ (i := 9) (N := some 26) (v := ?_) (a' := ?_) #[true, true, true, true, true, true, true, true, true, true, false, false, true, false, false] rfl rfl (by kernel_rfl) (fun _ _ _ h => h) (Or.inl ⟨by rfl, ?_⟩) ?_ ?_
     rotate_left
     ·intro w'
      go_simp
      first | with_reducible rfl | skip
     rotate_left
     ·simp only [Act.put, zA, zB, zC]
      rfl
     refine pure_ (i := 10) (N := some 36) (v := ?_) (a' := ?_) #[true, true, true, true, true, true, true, true, true, true, true, false, true, false, false] rfl rfl (by kernel_rfl) (fun _ _ _ h => h) (Or.inl ⟨by rfl, ?_⟩) ?_ ?_
     rotate_left
     ·intro w'
      go_simp
      first | with_reducible rfl | skip
     rotate_left
     ·simp only [Act.put, zA, zB, zC]
      rfl
     refine pure_ (i := 11) (N := some 37) (v := ?_) (a' := ?_) #[true, true, true, true, true, true, true, true, true, true, true, true, true, false, false] rfl rfl (by kernel_rfl) (fun _ _ _ h => h) (Or.inl ⟨by rfl, ?_⟩) ?_ ?_
     rotate_left
     ·intro w'
      go_simp
      first | with_reducible rfl | skip
     rotate_left
     ·simp only [Act.put, zA, zB, zC]
      rfl
     exact norm_ (by simp only [putAll, Act.put, zA, zB, zC]) (hCont (u42.heap.size, u43.heap.size, wd.heap.size) _ ⟨hs45, hk45, by omega⟩)
    ·skip
     refine value_ (w1 := u42.alloc (.cells #[.int .i64 0, .int .i64 0, .string ⟨#[]⟩] 23)) (v := .slice (some ⟨u42.heap.size, 0, none⟩) 1 1) (by rfl) rfl (by go_simp) ?_
     have hb46 : Below u42.heap.size u42 (u42.alloc (.cells #[.int .i64 0, .int .i64 0, .string ⟨#[]⟩] 23)) := below_alloc (Below.refl _ _) _
     have hn46 := blk_new u42 (.cells #[.int .i64 0, .int .i64 0, .string ⟨#[]⟩] 23)
     have hs46 := AlT.step hs42 hb46
     have hk46 := blk_below hk42 hb46
     generalize u42.alloc (.cells #[.int .i64 0, .int .i64 0, .string ⟨#[]⟩] 23) = u46 at hb46 hn46 hs46 hk46 ⊢
     clear hHeld
     have hz46 := hs46.size
     refine hK.out _ _ hs46 (fun hHeld => ?_)
     clear hK K
     refine norm_ (a' := ?_) ?_ ?_
     rotate_left
     ·show Act.put _ (some 34) _ = _
      simp only [Act.put, zA, zB, zC]
      rfl
     refine one_ (i := 3) (N := some 30) #[true, true, true, true, false, true, true, true, false, false, false, false, true, false, false] rfl rfl (by kernel_rfl) (by decide) (fun K hK => ?_)
     refine value_ (w1 := u46.alloc (.cells #[.int .i64 2, .string ⟨#[]⟩, .int .i64 2, .int .i64 0, .string ⟨#[]⟩, .slice none 0 0, .int .i64 7, .string ⟨#[]⟩, .int .i64 0, .int .i64 0, .string ⟨#[]⟩, .slice (some ⟨w3.heap.size, 0, none⟩) 2 2, .int .i64 2, .string ⟨#[]⟩, .int .i64 1, .int .i64 2, .string ⟨#[]⟩, .slice none 0 0] 26)) (v := .slice (some ⟨u46.heap.size, 0, none⟩) 3 3) (by rfl) rfl (by go_simp) ?_
     have hb47 : Below u46.heap.size u46 (u46.alloc (.cells #[.int .i64 2, .string ⟨#[]⟩, .int .i64 2, .int .i64 0, .string ⟨#[]⟩, .slice none 0 0, .int .i64 7, .string ⟨#[]⟩, .int .i64 0, .int .i64 0, .string ⟨#[]⟩, .slice (some ⟨w3.heap.size, 0, none⟩) 2 2, .int .i64 2, .string ⟨#[]⟩, .int .i64 1, .int .i64 2, .string ⟨#[]⟩, .slice none 0 0] 26)) := below_alloc (Below.refl _ _) _
     have hn47 := blk_new u46 (.cells #[.int .i64 2, .string ⟨#[]⟩, .int .i64 2, .int .i64 0, .string ⟨#[]⟩, .slice none 0 0, .int .i64 7, .string ⟨#[]⟩, .int .i64 0, .int .i64 0, .string ⟨#[]⟩, .slice (some ⟨w3.heap.size, 0, none⟩) 2 2, .int .i64 2, .string ⟨#[]⟩, .int .i64 1, .int .i64 2, .string ⟨#[]⟩, .slice none 0 0] 26)
     have hs47 := AlT.step hs46 hb47
     have hh47 := blk_below hn46 hb47
     have hk47 := blk_below hk46 hb47
     generalize u46.alloc (.cells #[.int .i64 2, .string ⟨#[]⟩, .int .i64 2, .int .i64 0, .string ⟨#[]⟩, .slice none 0 0, .int .i64 7, .string ⟨#[]⟩, .int .i64 0, .int .i64 0, .string ⟨#[]⟩, .slice (some ⟨w3.heap.size, 0, none⟩) 2 2, .int .i64 2, .string ⟨#[]⟩, .int .i64 1, .int .i64 2, .string ⟨#[]⟩, .slice none 0 0] 26) = u47 at hb47 hn47 hs47 hh47 hk47 ⊢
     clear hHeld
     have hz47 := hs47.size
     refine hK.out _ _ hs47 (fun hHeld => ?_)
     clear hK K
     refine norm_ (a' := ?_) ?_ ?_
     rotate_left
     ·show Act.put _ (some 30) _ = _
      simp only [Act.put, zA, zB, zC]
      rfl
     refine pure_ (i := 4) (N := some 31) (v := ?_) (a' := ?_) #[true, true, true, true, true, true, true, true, false, false, false, false, true, false, false] rfl rfl (by kernel_rfl) (fun _ _ _ h => h) (Or.inl ⟨by rfl, ?_⟩) ?_ ?_
     rotate_left
     ·intro w'
      go_simp
      first | with_reducible rfl | skip
     rotate_left
     ·simp only [Act.put, zA, zB, zC]
      rfl
     refine one_ (i := 8) (N := some 35) #[true, true, true, true, true, true, true, true, true, false, false, false, true, false, false] rfl rfl (by kernel_rfl) (by decide) (fun K hK => ?_)
     refine goes_ Tryd.func14 (by kernel_rfl) rfl #[.agg #[.int .i64 18, .string ⟨#[]⟩, .int .i64 0, .int .i64 0, .string ⟨#[]⟩, .slice (some ⟨u46.heap.size, 0, none⟩) 3 3], .slice (some ⟨w.heap.size, 0, none⟩) 1 1, .slice (some ⟨u42.heap.size, 0, none⟩) 1 1] (by rfl) rfl rfl (by (try simp only [List.map_toArray, List.map_cons, List.map_nil]); first | done | rfl) ?_
     refine (hwif _ _ _ hs47.als hn47 hh47).mono ?_
     rintro e u48 ⟨rfl, hb48⟩
     have hs48 := AlT.step hs47 hb48
     have hg48 := blk_below hn47 hb48
     have hh48 := blk_below hh47 hb48
     have hk48 := blk_below hk47 hb48
     clear hHeld
     refine ⟨_, rfl, ?_⟩
     have hz48 := hs48.size
     refine hK.out _ _ hs48 (fun hHeld => ?_)
     clear hK K
     refine norm_ (a' := ?_) ?_ ?_
     rotate_left
     ·show Act.put _ (some 35) _ = _
      simp only [Act.put, zA, zB, zC]
      rfl
     refine pure_ (i := 9) (N := some 26) (v := ?_) (a' := ?_) #[true, true, true, true, true, true, true, true, true, true, false, false, true, false, false] rfl rfl (by kernel_rfl) (fun _ _ _ h => h) (Or.inl ⟨by rfl, ?_⟩) ?_ ?_
     rotate_left
     ·intro w'
      go_simp
      first | with_reducible rfl | skip
     rotate_left
     ·simp only [Act.put, zA, zB, zC]
      rfl
     refine pure_ (i := 10) (N := some 36) (v := ?_) (a' := ?_) #[true, true, true, true, true, true, true, true, true, true, true, false, true, false, false] rfl rfl (by kernel_rfl) (fun _ _ _ h => h) (Or.inl ⟨by rfl, ?_⟩) ?_ ?_
     rotate_left
     ·intro w'
      go_simp
      first | with_reducible rfl | skip
     rotate_left
     ·simp only [Act.put, zA, zB, zC]
      rfl
     refine pure_ (i := 11) (N := some 37) (v := ?_) (a' := ?_) #[true, true, true, true, true, true, true, true, true, true, true, true, true, false, false] rfl rfl (by kernel_rfl) (fun _ _ _ h => h) (Or.inl ⟨by rfl, ?_⟩) ?_ ?_
     rotate_left
     ·intro w'
      go_simp
      first | with_reducible rfl | skip
     rotate_left
     ·simp only [Act.put, zA, zB, zC]
      rfl
     exact norm_ (by simp only [putAll, Act.put, zA, zB, zC]) (hCont (u46.heap.size, u42.heap.size, wd.heap.size) _ ⟨hs48, hk48, by omega⟩)
   ·skip
    refine value_ (w1 := u41.alloc (.cells #[.int .i64 0, .int .i64 0, .string ⟨#[]⟩] 23)) (v := .slice (some ⟨u41.heap.size, 0, none⟩) 1 1) (by rfl) rfl (by go_simp) ?_
    have hb49 : Below u41.heap.size u41 (u41.alloc (.cells #[.int .i64 0, .int .i64 0, .string ⟨#[]⟩] 23)) := below_alloc (Below.refl _ _) _
    have hn49 := blk_new u41 (.cells #[.int .i64 0, .int .i64 0, .string ⟨#[]⟩] 23)
    have hs49 := AlT.step hs41 hb49
    have hk49 := blk_below hn41 hb49
    generalize u41.alloc (.cells #[.int .i64 0, .int .i64 0, .string ⟨#[]⟩] 23) = u49 at hb49 hn49 hs49 hk49 ⊢
    clear hHeld
    have hz49 := hs49.size
    refine hK.out _ _ hs49 (fun hHeld => ?_)
    clear hK K
    refine norm_ (a' := ?_) ?_ ?_
    rotate_left
    ·show Act.put _ (some 34) _ = _
     simp only [Act.put, zA, zB, zC]
     rfl
    refine one_ (i := 2) (N := some 29) #[true, true, true, false, false, true, true, true, false, false, false, false, true, false, false] rfl rfl (by kernel_rfl) (by decide) (fun K hK => ?_)
    refine goes_ Tryd.func29 (by kernel_rfl) rfl #[.int .i64 2] (by rfl) rfl rfl (by (try simp only [List.map_toArray, List.map_cons, List.map_nil]); first | done | rfl) ?_
    refine (one_calls 2 _).mono ?_
    rintro e u50 ⟨rfl, hb50⟩
    have hs50 := AlT.step hs49 hb50
    have hh50 := blk_below hn49 hb50
    have hk50 := blk_below hk49 hb50
    clear hHeld
    refine ⟨_, rfl, ?_⟩
    have hz50 := hs50.size
    refine hK.out _ _ hs50 (fun hHeld => ?_)
    clear hK K
    refine norm_ (a' := ?_) ?_ ?_
    rotate_left
    ·show Act.put _ (some 29) _ = _
     simp only [Act.put, zA, zB, zC]
     rfl
    refine one_ (i := 3) (N := some 30) #[true, true, true, true, false, true, true, true, false, false, false, false, true, false, false] rfl rfl (by kernel_rfl) (by decide) (fun K hK => ?_)
    refine value_ (w1 := u50.alloc (.cells #[.int .i64 2, .string ⟨#[]⟩, .int .i64 2, .int .i64 0, .string ⟨#[]⟩, .slice none 0 0, .int .i64 7, .string ⟨#[]⟩, .int .i64 0, .int .i64 0, .string ⟨#[]⟩, .slice (some ⟨w3.heap.size, 0, none⟩) 2 2, .int .i64 2, .string ⟨#[]⟩, .int .i64 1, .int .i64 2, .string ⟨#[]⟩, .slice none 0 0] 26)) (v := .slice (some ⟨u50.heap.size, 0, none⟩) 3 3) (by rfl) rfl (by go_simp) ?_
    have hb51 : Below u50.heap.size u50 (u50.alloc (.cells #[.int .i64 2, .string ⟨#[]⟩, .int .i64 2, .int .i64 0, .string ⟨#[]⟩, .slice none 0 0, .int .i64 7, .string ⟨#[]⟩, .int .i64 0, .int .i64 0, .string ⟨#[]⟩, .slice (some ⟨w3.heap.size, 0, none⟩) 2 2, .int .i64 2, .string ⟨#[]⟩, .int .i64 1, .int .i64 2, .string ⟨#[]⟩, .slice none 0 0] 26)) := below_alloc (Below.refl _ _) _
    have hn51 := blk_new u50 (.cells #[.int .i64 2, .string ⟨#[]⟩, .int .i64 2, .int .i64 0, .string ⟨#[]⟩, .slice none 0 0, .int .i64 7, .string ⟨#[]⟩, .int .i64 0, .int .i64 0, .string ⟨#[]⟩, .slice (some ⟨w3.heap.size, 0, none⟩) 2 2, .int .i64 2, .string ⟨#[]⟩, .int .i64 1, .int .i64 2, .string ⟨#[]⟩, .slice none 0 0] 26)
    have hs51 := AlT.step hs50 hb51
    have hh51 := blk_below hh50 hb51
    have hk51 := blk_below hk50 hb51
    generalize u50.alloc (.cells #[.int .i64 2, .string ⟨#[]⟩, .int .i64 2, .int .i64 0, .string ⟨#[]⟩, .slice none 0 0, .int .i64 7, .string ⟨#[]⟩, .int .i64 0, .int .i64 0, .string ⟨#[]⟩, .slice (some ⟨w3.heap.size, 0, none⟩) 2 2, .int .i64 2, .string ⟨#[]⟩, .int .i64 1, .int .i64 2, .string ⟨#[]⟩, .slice none 0 0] 26) = u51 at hb51 hn51 hs51 hh51 hk51 ⊢
    clear hHeld
    have hz51 := hs51.size
    refine hK.out _ _ hs51 (fun hHeld => ?_)
    clear hK K
    refine norm_ (a' := ?_) ?_ ?_
    rotate_left
    ·show Act.put _ (some 30) _ = _
     simp only [Act.put, zA, zB, zC]
     rfl
    refine pure_ (i := 4) (N := some 31) (v := ?_) (a' := ?_) #[true, true, true, true, true, true, true, true, false, false, false, false, true, false, false] rfl rfl (by kernel_rfl) (fun _ _ _ h => h) (Or.inl ⟨by rfl, ?_⟩) ?_ ?_
    rotate_left
    ·intro w'
     go_simp
     first | with_reducible rfl | skip
    rotate_left
    ·simp only [Act.put, zA, zB, zC]
     rfl
    refine one_ (i := 8) (N := some 35) #[true, true, true, true, true, true, true, true, true, false, false, false, true, false, false] rfl rfl (by kernel_rfl) (by decide) (fun K hK => ?_)
    refine goes_ Tryd.func14 (by kernel_rfl) rfl #[.agg #[.int .i64 18, .string ⟨#[]⟩, .int .i64 0, .int .i64 0, .string ⟨#[]⟩, .slice (some ⟨u50.heap.size, 0, none⟩) 3 3], .slice (some ⟨w.heap.size, 0, none⟩) 1 1, .slice (some ⟨u41.heap.size, 0, none⟩) 1 1] (by rfl) rfl rfl (by (try simp only [List.map_toArray, List.map_cons, List.map_nil]); first | done | rfl) ?_
    refine (hwif _ _ _ hs51.als hn51 hh51).mono ?_
    rintro e u52 ⟨rfl, hb52⟩
    have hs52 := AlT.step hs51 hb52
    have hg52 := blk_below hn51 hb52
    have hh52 := blk_below hh51 hb52
    have hk52 := blk_below hk51 hb52
    clear hHeld
    refine ⟨_, rfl, ?_⟩
    have hz52 := hs52.size
    refine hK.out _ _ hs52 (fun hHeld => ?_)
    clear hK K
    refine norm_ (a' := ?_) ?_ ?_
    rotate_left
    ·show Act.put _ (some 35) _ = _
     simp only [Act.put, zA, zB, zC]
     rfl
    refine pure_ (i := 9) (N := some 26) (v := ?_) (a' := ?_) #[true, true, true, true, true, true, true, true, true, true, false, false, true, false, false] rfl rfl (by kernel_rfl) (fun _ _ _ h => h) (Or.inl ⟨by rfl, ?_⟩) ?_ ?_
    rotate_left
    ·intro w'
     go_simp
     first | with_reducible rfl | skip
    rotate_left
    ·simp only [Act.put, zA, zB, zC]
     rfl
    refine pure_ (i := 10) (N := some 36) (v := ?_) (a' := ?_) #[true, true, true, true, true, true, true, true, true, true, true, false, true, false, false] rfl rfl (by kernel_rfl) (fun _ _ _ h => h) (Or.inl ⟨by rfl, ?_⟩) ?_ ?_
    rotate_left
    ·intro w'
     go_simp
     first | with_reducible rfl | skip
    rotate_left
    ·simp only [Act.put, zA, zB, zC]
     rfl
    refine pure_ (i := 11) (N := some 37) (v := ?_) (a' := ?_) #[true, true, true, true, true, true, true, true, true, true, true, true, true, false, false] rfl rfl (by kernel_rfl) (fun _ _ _ h => h) (Or.inl ⟨by rfl, ?_⟩) ?_ ?_
    rotate_left
    ·intro w'
     go_simp
     first | with_reducible rfl | skip
    rotate_left
    ·simp only [Act.put, zA, zB, zC]
     rfl
    exact norm_ (by simp only [putAll, Act.put, zA, zB, zC]) (hCont (u50.heap.size, u41.heap.size, wd.heap.size) _ ⟨hs52, hk52, by omega⟩)
 rintro ⟨g_, h_, k5⟩ we ⟨hS9, hk9, hz9⟩
 have hS9 : (AlT w w.heap.size w3.heap.size (w3.heap.size + 1) (w3.heap.size + 1 + 1) W8.heap.size []) we := hS9
 have hk9 : we.heap[k5]? = some (.cells #[.int .i64 0, .int .i64 0, .string ⟨#[]⟩] 23 (0, 0)) := hk9
 have hz9 : W8.heap.size ≤ k5 := hz9
 refine norm_ (a' := ?_) ?_ ?_
 rotate_left
 ·simp only [putAll, Act.put, zA, zB, zC]
  rfl
 refine one_ (i := 13) (N := none) #[true, true, true, true, true, true, true, true, true, true, true, true, true, true, false] rfl rfl (by kernel_rfl) (by decide) (fun K hK => ?_)
 obtain ⟨x0, x1, x2, y0, y1, y2⟩ := box3 hk9
 have hlt9 := blk_lt hk9
 refine skip_ (w1 := ((we.setCell ⟨k5, 0, none⟩ (.int .i64 1)).setCell ⟨k5, 1, none⟩ (.int .i64 2)).setCell ⟨k5, 2, none⟩ (.string ⟨#[]⟩)) (by rfl) rfl (by go_simp) ?_
 clear x0 x1 x2 y0 y1 y2
 have hk8 := blk_put3 hk9 (.int .i64 1) (.int .i64 2) (.string ⟨#[]⟩)
 have hS8 := AlT.put3 hS9 hz9 (by simp) (.int .i64 1) (.int .i64 2) (.string ⟨#[]⟩)
 generalize ((we.setCell ⟨k5, 0, none⟩ (.int .i64 1)).setCell ⟨k5, 1, none⟩ (.int .i64 2)).setCell ⟨k5, 2, none⟩ (.string ⟨#[]⟩) = w6 at hk8 hS8 ⊢
 refine hK.out _ _ hS8 (fun hHeld => ?_)
 clear hK K
 refine pure_ (i := 14) (N := some 7) (v := ?_) (a' := ?_) #[true, true, true, true, true, true, true, true, true, true, true, true, true, true, true] rfl rfl (by kernel_rfl) (fun _ _ _ h => h) (Or.inl ⟨by rfl, ?_⟩) ?_ ?_
 rotate_left
 ·intro w'
  go_simp
  first | with_reducible rfl | skip
 rotate_left
 ·simp only [Act.put, zA, zB, zC]
  rfl
 refine done_ (by kernel_rfl) ?_
 go_upto_region 6 with (fail)
 have hlt6 := blk_lt hk8
 have hT6 : AlT w w.heap.size w3.heap.size (w3.heap.size + 1) (w3.heap.size + 1 + 1) w6.heap.size [(k5, .cells #[.int .i64 1, .int .i64 2, .string ⟨#[]⟩] 23 (0, 0))] w6 := ⟨hS8.als, Nat.le_refl _, by simpa using hk8, blk_lt hS8.als.cols, blk_lt hS8.als.kids, blk_lt hS8.als.dbox, blk_lt hS8.als.nbox, hS8.als.below.size⟩
 clear hS8 hk8 hS9 hk9 hz9 hlt9 hHeld hT8 hwif
 obtain ⟨d0, d1, d2, d3, d4, d5, n0, n1, n2, n3, n4, n5, _⟩ := hT6.als.cells
 have hT7 := AlT.step (AlT.step hT6 (below_alloc (Below.refl w6.heap.size w6) (.cells #[.int .i64 3, .string ⟨#[98, 111, 111, 108]⟩, .int .i64 0, .int .i64 0, .string ⟨#[]⟩, .slice none 0 0, .int .i64 2, .string ⟨#[]⟩, .int .i64 2, .int .i64 0, .string ⟨#[]⟩, .slice none 0 0] 26))) (below_alloc (Below.refl _ _) (.cells #[.int .i64 0, .int .i64 0, .string ⟨#[]⟩] 23))
 have hw := hwand w6.heap.size (w6.heap.size + 1) _ hT7.als (blk_alloc (blk_new w6 _) _) (blk_new1 w6 _ _)
 clear hwand
 go_upto_region 7 with (go_at_call 14; refine hw.mono ?_; rintro e w9 ⟨rfl, hb9⟩; have hT9 := AlT.step hT7 hb9; clear hb9 hw hT7 hT6 d0 d1 d2 d3 d4 d5 n0 n1 n2 n3 n4 n5 hlt6)
 have hS8 := AlT.step hT9 (below_alloc (Below.refl w9.heap.size w9) (.cells #[.int .i64 2, .int .i64 0, .string ⟨#[]⟩] 23))
 have hk6 := hS8.more _ List.mem_cons_self
 have hk8 := blk_new w9 (.cells #[.int .i64 2, .int .i64 0, .string ⟨#[]⟩] 23)
 have c1 := (blk_cell hk6 1).trans rfl
 have c2 := (blk_cell hk8 0).trans rfl
 have c3 := (blk_cell hk8 1).trans rfl
 have hB9 := hS8.als.below
 clear hk6 hk8 hS8 hT9
 generalize hW9 : w9.alloc (.cells #[.int .i64 2, .int .i64 0, .string ⟨#[]⟩] 23) = W9 at c1 c2 c3 hB9 ⊢
 go_wp2
 first | exact ⟨rfl, hB9⟩ | (go_ret2; exact ⟨rfl, hB9⟩) | (go_ret; exact ⟨rfl, hB9⟩)
end Go.Proofs.YtopolnbffmljaaaDoor.Q
namespace Go.Proofs.YtopolnbffmljaaaDoor.Q
theorem bigV_l0 (l : List Va) (hl : l.length ≤ 140737488355328) : ∀ n i : Nat, i + n = l.length → ∃ b, Ev (fun k => headgateref03_Big.l0 k l i) b
 | 0, i, h => ⟨false, Ev.const fun k => by
  simp only [headgateref03_Big.l0]
  rw [if_neg (by omega)]⟩
 | n + 1, i, h => by
  obtain ⟨b, ih⟩ := bigV_l0 l hl n (i + 1) (by omega)
  by_cases he : ((rd_T23 l (i : Int)).f2.size : Int) > 600
  ·exact ⟨true, Ev.const fun k => by
    simp only [headgateref03_Big.l0]
    rw [if_pos (by omega), if_pos (by omega), if_pos he]⟩
  ·refine ⟨b, Ev.step ih fun k => ?_⟩
   simp only [headgateref03_Big.l0]
   rw [if_pos (by omega), if_pos (by omega), if_neg he, w64n i (by omega)]
theorem bigV_ev (l : List Va) (hl : l.length ≤ 140737488355328) : ∃ b, Ev (fun k => headgateref03_Big.f k l) b ∧ (b = false → l.length ≤ 40) := by
 by_cases h : (l.length : Int) > 40
 ·exact ⟨true, Ev.const' fun k => by unfold headgateref03_Big.f; rw [if_pos h], fun e => by cases e⟩
 ·obtain ⟨b, h1⟩ := bigV_l0 l hl l.length 0 (by omega)
  exact ⟨b, h1.same fun k => by unfold headgateref03_Big.f; rw [if_neg h]; rfl, fun e => by omega⟩
theorem far_ev (x : Ex) (hwf : wfE x) (l : List Co) (hl : l.length ≤ 140737488355328) (row : List Va) (hr : row.length ≤ 140737488355328) :
  ∃ b, Ev (fun k => headgatelaw13_far.f k x.f0 x.f1 x.f2.f0 x.f2.f1 x.f2.f2 x.f3 l row) b ∧
   (b = false → (goodE x = true ∧ sizE x 0 0 = ((totE x : Int), (depE x : Int))) ∧ (l.length ≤ 40 ∧ ∀ c ∈ l, c.f0.size ≤ 200) ∧ row.length ≤ 40) := by
 obtain ⟨b1, e1, g1⟩ := huge_ev x hwf
 obtain ⟨b2, e2, g2⟩ := big_ev l hl
 obtain ⟨b3, e3, g3⟩ := bigV_ev row hr
 refine ⟨b1 || (b2 || b3), ?_, fun h => ?_⟩
 ·refine Ev.bind (h := fun k t => if t = true then some true else ((headgateref12_Big.f k l).bind fun t => (if t = true then (some true) else ((headgateref03_Big.f k row).bind fun t => (some t))))) e1 ?_ (fun k => rfl)
  cases b1
  ·refine Ev.bind (h := fun k t => if t = true then some true else ((headgateref03_Big.f k row).bind fun t => (some t))) e2 ?_ (fun k => rfl)
   cases b2
   ·refine Ev.same e3 (fun k => ?_)
    show (if _ then _ else _) = _
    rw [if_neg (by decide)]
    cases headgateref03_Big.f k row <;> rfl
   ·exact Ev.const' fun k => rfl
  ·exact Ev.const' fun k => rfl
 ·rw [Bool.or_eq_false_iff, Bool.or_eq_false_iff] at h
  exact ⟨g1 h.1, g2 h.2.1, g3 h.2.2⟩
structure BoxE (x : Ex) (A : Option Addr) (c : Nat) (w W : World) : Prop where
 below : Below w.heap.size w W
 box : W.heap[w.heap.size]? = some (.cells #[.int .i64 x.f0, .string x.f1, .int .i64 x.f2.f0, .int .i64 x.f2.f1, .string x.f2.f2, .slice A x.f3.length c] 26 (0, 0))
theorem BoxE.new (x : Ex) (A : Option Addr) (c : Nat) (w : World) : BoxE x A c w (w.alloc (.cells #[.int .i64 x.f0, .string x.f1, .int .i64 x.f2.f0, .int .i64 x.f2.f1, .string x.f2.f2, .slice A x.f3.length c] 26)) :=
 ⟨below_alloc (Below.refl _ _) _, blk_new w _⟩
theorem BoxE.step {x : Ex} {A : Option Addr} {c : Nat} {w W W' : World} (h : BoxE x A c w W) (hb : Below W.heap.size W W') : BoxE x A c w W' := ⟨below_step h.below hb, blk_below h.box hb⟩
theorem BoxE.cells {x : Ex} {A : Option Addr} {c : Nat} {w W : World} (h : BoxE x A c w W) : W.cell? ⟨w.heap.size, 0, none⟩ = some (.int .i64 x.f0) ∧ W.cell? ⟨w.heap.size, 1, none⟩ = some (.string x.f1) ∧ W.cell? ⟨w.heap.size, 2, none⟩ = some (.int .i64 x.f2.f0) ∧ W.cell? ⟨w.heap.size, 3, none⟩ = some (.int .i64 x.f2.f1) ∧ W.cell? ⟨w.heap.size, 4, none⟩ = some (.string x.f2.f2) ∧ W.cell? ⟨w.heap.size, 5, none⟩ = some (.slice A x.f3.length c) :=
 ⟨(blk_cell h.box 0).trans rfl, (blk_cell h.box 1).trans rfl, (blk_cell h.box 2).trans rfl, (blk_cell h.box 3).trans rfl, (blk_cell h.box 4).trans rfl, (blk_cell h.box 5).trans rfl⟩
theorem C_nil23 (w : World) : Kd.C k23 w none ([] : List Va).length [] := ⟨rfl, by decide, fun h => absurd h (by decide)⟩
end Go.Proofs.YtopolnbffmljaaaDoor.Q
namespace Go.Proofs.YtopolnbffmljaaaDoor.Q
set_option maxHeartbeats 8000000 in
set_option maxRecDepth 100000 in
theorem no_calls (q : Ex) (A : Option Addr) (c : Nat) (w : World) :
  Calls Tryd.prog 16 #[.agg #[.int .i64 q.f0, .string q.f1, .int .i64 q.f2.f0, .int .i64 q.f2.f1, .string q.f2.f2, .slice A q.f3.length c]] w
   fun e w' => ∃ g, w.heap.size ≤ g ∧ e = .returned (.agg #[.int .i64 16, .string ⟨#[]⟩, .int .i64 0, .int .i64 0, .string ⟨#[]⟩, .slice (some ⟨g, 0, none⟩) 1 1]) ∧ Below w.heap.size w w' ∧ w'.heap[g]? = some (.cells (exC q A c).toArray 26 (0, 0)) := by
 have hu := Tryd.underlying26
 have HQ := Aside0.mk (BoxE.new q A c w)
 obtain ⟨m0, m1, m2, m3, m4, m5⟩ := HQ.out.cells
 go_enter Tryd.func16, Tryd.ntmps16
 go_wp2
 refine bodyPost_ret (results_single rfl (.cell _ _ _ _ _ rfl (blk_alloc (blk_new1 w _ _) _) hu rfl (by kernel_rfl) .nil)) rfl ⟨_, by omega, rfl, below_alloc (below_alloc (below_alloc (Below.refl _ _) _) _) _, blk_new2 w _ _ _⟩
structure Kept (w : World) (ks : List (Nat × Obj)) (W : World) : Prop where
 below : Below w.heap.size w W
 more : ∀ p ∈ ks, W.heap[p.1]? = some p.2
theorem Kept.step {w W W' : World} {ks : List (Nat × Obj)} (h : Kept w ks W) (hb : Below W.heap.size W W') : Kept w ks W' := ⟨below_step h.below hb, fun p hp => blk_below (h.more p hp) hb⟩
theorem Kept.add {w W : World} {ks : List (Nat × Obj)} (h : Kept w ks W) {g : Nat} {o : Obj} (ho : W.heap[g]? = some o) : Kept w ((g, o) :: ks) W :=
 ⟨h.below, fun p hp => by
  rcases List.mem_cons.1 hp with rfl | hp
  ·exact ho
  ·exact h.more p hp⟩
theorem Kept.get {w W : World} {ks : List (Nat × Obj)} (h : Kept w ks W) {g : Nat} {o : Obj} (hm : (g, o) ∈ ks) : W.heap[g]? = some o := h.more _ hm
theorem box6 {W : World} {g : Nat} {t : TypeId} {x0 x1 x2 x3 x4 x5 : Value} (h : W.heap[g]? = some (.cells #[x0, x1, x2, x3, x4, x5] t (0, 0))) : W.cell? ⟨g, 0, none⟩ = some x0 ∧ W.cell? ⟨g, 1, none⟩ = some x1 ∧ W.cell? ⟨g, 2, none⟩ = some x2 ∧ W.cell? ⟨g, 3, none⟩ = some x3 ∧ W.cell? ⟨g, 4, none⟩ = some x4 ∧ W.cell? ⟨g, 5, none⟩ = some x5 :=
 ⟨(blk_cell h 0).trans rfl, (blk_cell h 1).trans rfl, (blk_cell h 2).trans rfl, (blk_cell h 3).trans rfl, (blk_cell h 4).trans rfl, (blk_cell h 5).trans rfl⟩
theorem C_one' (W : World) (g : Nat) (q : Ex) (A : Option Addr) (c : Nat) (hl : q.f3.length ≤ c) (hC : Kd.C k26 W A q.f3.length q.f3) (hb : W.heap[g]? = some (.cells (exC q A c).toArray 26 (0, 0))) : Kd.C k26 W (some ⟨g, 0, none⟩) [q].length [q] :=
 C_one W g _ _ q _ (K_node W q A c hl hC) hb
theorem room6 {W : World} {g : Nat} {t : TypeId} {x0 x1 x2 x3 x4 x5 : Value} (h : W.heap[g]? = some (.cells #[x0, x1, x2, x3, x4, x5] t (0, 0))) : W.frozen? ⟨g, 0, none⟩ = false ∧ W.frozen? ⟨g, 1, none⟩ = false ∧ W.frozen? ⟨g, 2, none⟩ = false ∧ W.frozen? ⟨g, 3, none⟩ = false ∧ W.frozen? ⟨g, 4, none⟩ = false ∧ W.frozen? ⟨g, 5, none⟩ = false :=
 ⟨blk_frozen h 0, blk_frozen h 1, blk_frozen h 2, blk_frozen h 3, blk_frozen h 4, blk_frozen h 5⟩
def put6 (W : World) (g : Nat) (y0 y1 y2 y3 y4 y5 : Value) : World := (((((W.setCell ⟨g, 0, none⟩ y0).setCell ⟨g, 1, none⟩ y1).setCell ⟨g, 2, none⟩ y2).setCell ⟨g, 3, none⟩ y3).setCell ⟨g, 4, none⟩ y4).setCell ⟨g, 5, none⟩ y5
theorem put6_at {W : World} {g : Nat} {t : TypeId} {x0 x1 x2 x3 x4 x5 : Value} (h : W.heap[g]? = some (.cells #[x0, x1, x2, x3, x4, x5] t (0, 0))) (y0 y1 y2 y3 y4 y5 : Value) :
  (put6 W g y0 y1 y2 y3 y4 y5).heap[g]? = some (.cells #[y0, y1, y2, y3, y4, y5] t (0, 0)) :=
 blk_set (cs := #[y0, y1, y2, y3, y4, x5]) (blk_set (cs := #[y0, y1, y2, y3, x4, x5]) (blk_set (cs := #[y0, y1, y2, x3, x4, x5]) (blk_set (cs := #[y0, y1, x2, x3, x4, x5]) (blk_set (cs := #[y0, x1, x2, x3, x4, x5]) (blk_set h 0 y0) 1 y1) 2 y2) 3 y3) 4 y4) 5 y5
theorem put6_far {W : World} {g h : Nat} {o : Option Obj} (he : W.heap[h]? = o) (hne : h ≠ g) (y0 y1 y2 y3 y4 y5 : Value) : (put6 W g y0 y1 y2 y3 y4 y5).heap[h]? = o :=
 heap_far (heap_far (heap_far (heap_far (heap_far (heap_far he hne) hne) hne) hne) hne) hne
theorem Kept.put6 {w W : World} {ks : List (Nat × Obj)} (h : Kept w ks W) {g : Nat} (hg : w.heap.size ≤ g) (hk : ∀ p ∈ ks, p.1 ≠ g) (y0 y1 y2 y3 y4 y5 : Value) : Kept w ks (put6 W g y0 y1 y2 y3 y4 y5) :=
 ⟨below_set (below_set (below_set (below_put3 h.below hg _ _ _) hg) hg) hg, fun p hp => put6_far (h.more p hp) (hk p hp) _ _ _ _ _ _⟩
end Go.Proofs.YtopolnbffmljaaaDoor.Q
namespace Go.Proofs.YtopolnbffmljaaaDoor.Q
def bx (q : Ex) (A : Option Addr) (c : Nat) : Obj := .cells #[.int .i64 q.f0, .string q.f1, .int .i64 q.f2.f0, .int .i64 q.f2.f1, .string q.f2.f2, .slice A q.f3.length c] 26 (0, 0)
structure TS (a : Ex) (A : Option Addr) (c : Nat) (b : Ex) (A' : Option Addr) (c' : Nat) (w : World) (gx g5 k gr : Nat) (W : World) : Prop where
 below : Below w.heap.size w W
 boxa : W.heap[w.heap.size]? = some (bx a A c)
 boxb : W.heap[w.heap.size + 1]? = some (bx b A' c')
 boxx : W.heap[gx]? = some (.cells #[.int .i64 16, .string ⟨#[]⟩, .int .i64 0, .int .i64 0, .string ⟨#[]⟩, .slice (some ⟨g5, 0, none⟩) 1 1] 26 (0, 0))
 boxy : W.heap[k]? = some (.cells #[.int .i64 15, .string ⟨#[]⟩, .int .i64 0, .int .i64 0, .string ⟨#[]⟩, .slice (some ⟨gr, 0, none⟩) 2 2] 26 (0, 0))
 kx : Kd.C k26 W (some ⟨g5, 0, none⟩) [bothE 14 a b].length [bothE 14 a b]
 ky : Kd.C k26 W (some ⟨gr, 0, none⟩) [notE a, notE b].length [notE a, notE b]
theorem TS.step {a : Ex} {A : Option Addr} {c : Nat} {b : Ex} {A' : Option Addr} {c' : Nat} {w : World} {gx g5 k gr : Nat} {W W' : World} (h : TS a A c b A' c' w gx g5 k gr W) (hb : Below W.heap.size W W') : TS a A c b A' c' w gx g5 k gr W' :=
 ⟨below_step h.below hb, blk_below h.boxa hb, blk_below h.boxb hb, blk_below h.boxx hb, blk_below h.boxy hb, Kd.C_below h.kx hb, Kd.C_below h.ky hb⟩
theorem good_not {q : Ex} (h : goodE q = true) : goodE (notE q) = true :=
 (goodE_iff _).2 ⟨show (⟨#[]⟩ : ByteArray).size ≤ 1000 by decide, show (⟨#[]⟩ : ByteArray).size ≤ 1000 by decide, show in64 0 by unfold in64; exact ⟨by decide, by decide⟩, fun k hk => by
  obtain rfl := List.mem_singleton.1 hk
  exact h⟩
theorem good_both {p q : Ex} (op : Int) (h : goodE p = true) (g : goodE q = true) : goodE (bothE op p q) = true :=
 (goodE_iff _).2 ⟨show (⟨#[]⟩ : ByteArray).size ≤ 1000 by decide, show (⟨#[]⟩ : ByteArray).size ≤ 1000 by decide, show in64 0 by unfold in64; exact ⟨by decide, by decide⟩, fun k hk => by
  rcases List.mem_cons.1 hk with rfl | hk
  ·exact h
  ·obtain rfl := List.mem_singleton.1 hk
   exact g⟩
attribute [local go_sem high] eqV
set_option maxHeartbeats 16000000 in
set_option maxRecDepth 100000 in
theorem turns_walk (a : Ex) (hwa : wfE a) (A : Option Addr) (c : Nat) (hla : a.f3.length ≤ c) (b : Ex) (hwb : wfE b) (A' : Option Addr) (c' : Nat) (hlb : b.f3.length ≤ c') (B : Option Addr) (c2 : Nat) (l : List Co) (hL : l.length ≤ 140737488355328) (hc2 : l.length ≤ c2)
  (D : Option Addr) (c3 : Nat) (row : List Va) (hRl : row.length ≤ 140737488355328) (hrow : ∀ y ∈ row, in64 y.f1) (hc3 : row.length ≤ c3)
  (w : World) (hG : GlobE w) (hCa : Kd.C k26 w A a.f3.length a.f3) (hCb : Kd.C k26 w A' b.f3.length b.f3) (hD : Kd.C k58 w B l.length l) (hRw : Kd.C k23 w D row.length row) :
  Calls Tryd.prog 6 #[.agg #[.int .i64 a.f0, .string a.f1, .int .i64 a.f2.f0, .int .i64 a.f2.f1, .string a.f2.f2, .slice A a.f3.length c], .agg #[.int .i64 b.f0, .string b.f1, .int .i64 b.f2.f0, .int .i64 b.f2.f1, .string b.f2.f2, .slice A' b.f3.length c'], .slice B l.length c2, .slice D row.length c3] w fun e w' => e = .returned (.bool true) ∧ Below w.heap.size w w' := by
 obtain ⟨f1, hbe1, hb1⟩ := far_ev a hwa l hL row hRl
 obtain ⟨K1, hK1⟩ := hbe1.get
 obtain ⟨f2, hbe2, hb2⟩ := far_ev b hwb l hL [] (by decide)
 obtain ⟨K2, hK2⟩ := hbe2.get
 have HAl := Aside0.mk (fun W (hW : Below w.heap.size w W) => alive_calls W (hG.below hW))
 have HF1 := Aside0.mk (fun W (hW : Below w.heap.size w W) => headgatelaw13_far.calls K1 a.f0 a.f1 a.f2.f0 a.f2.f1 a.f2.f2 A c a.f3 B c2 l D c3 row f1 W (Kd.C_below hCa hW) hla (Kd.C_below hD hW) hc2 (Kd.C_below hRw hW) hc3 hK1)
 have HF2 := Aside0.mk (fun W (hW : Below w.heap.size w W) => headgatelaw13_far.calls K2 b.f0 b.f1 b.f2.f0 b.f2.f1 b.f2.f2 A' c' b.f3 B c2 l none 0 [] f2 W (Kd.C_below hCb hW) hlb (Kd.C_below hD hW) hc2 (C_nil23 W) (Nat.le_refl _) hK2)
 obtain ⟨W0, hW0⟩ : ∃ W0, W0 = (w.alloc (.cells #[.int .i64 a.f0, .string a.f1, .int .i64 a.f2.f0, .int .i64 a.f2.f1, .string a.f2.f2, .slice A a.f3.length c] 26)).alloc (.cells #[.int .i64 b.f0, .string b.f1, .int .i64 b.f2.f0, .int .i64 b.f2.f1, .string b.f2.f2, .slice A' b.f3.length c'] 26) := ⟨_, rfl⟩
 have hT0 : Kept w [(w.heap.size, bx a A c), (w.heap.size + 1, bx b A' c')] W0 := by
  rw [hW0]
  exact ⟨below_alloc (below_alloc (Below.refl _ _) _) _, fun p hp => by
   simp only [List.mem_cons, List.not_mem_nil, or_false] at hp
   rcases hp with rfl | rfl
   ·exact blk_alloc (blk_new w _) _
   ·exact blk_new1 w _ _⟩
 clear hbe1 hbe2 hK1 hK2
 cases f1 with
 | true =>
  clear hb1 hb2 HF2 hG hCa hCb hD hRw
  go_enter Tryd.func6, Tryd.ntmps6
  go_upto_region 1 with (fail)
  rw [← hW0]
  clear hW0
  obtain ⟨a0, a1, a2, a3, a4, a5⟩ := box6 (hT0.get (g := w.heap.size) (o := bx a A c) (by simp))
  go_wp2_with (first
   | (go_at_call 10; refine (HAl.out _ hT0.below).mono ?_; rintro e w1 ⟨rfl, hb1⟩; have hT1 := hT0.step hb1; clear hb1 a0 a1 a2 a3 a4 a5; obtain ⟨a0, a1, a2, a3, a4, a5⟩ := box6 (hT1.get (g := w.heap.size) (o := bx a A c) (by simp)))
   | (go_at_call 11; refine (HF1.out _ hT1.below).mono ?_; rintro e w2 ⟨rfl, hb2⟩; have hT2 := hT1.step hb2; clear hb2))
  first | exact ⟨rfl, hT2.below⟩ | (go_ret; exact ⟨rfl, hT2.below⟩)
 | false =>
  cases f2 with
  | true =>
   clear hb1 hb2 hG hCa hCb hD hRw
   go_enter Tryd.func6, Tryd.ntmps6
   go_upto_region 1 with (fail)
   rw [← hW0]
   clear hW0
   obtain ⟨a0, a1, a2, a3, a4, a5⟩ := box6 (hT0.get (g := w.heap.size) (o := bx a A c) (by simp))
   go_wp2_with (first
    | (go_at_call 10; refine (HAl.out _ hT0.below).mono ?_; rintro e w1 ⟨rfl, hb1⟩; have hT1 := hT0.step hb1; clear hb1 a0 a1 a2 a3 a4 a5; obtain ⟨a0, a1, a2, a3, a4, a5⟩ := box6 (hT1.get (g := w.heap.size) (o := bx a A c) (by simp)))
    | (go_at_call 11; refine (HF1.out _ hT1.below).mono ?_; rintro e w2 ⟨rfl, hb2⟩; have hT2 := hT1.step hb2; clear hb2 a0 a1 a2 a3 a4 a5 HF1 hT1; obtain ⟨b0, b1, b2, b3, b4, b5⟩ := box6 (hT2.get (g := w.heap.size + 1) (o := bx b A' c') (by simp)))
    | (go_at_call 11; refine (HF2.out _ hT2.below).mono ?_; rintro e w3 ⟨rfl, hb3⟩; have hT3 := hT2.step hb3; clear hb3 hT2))
   first | exact ⟨rfl, hT3.below⟩ | (go_ret; exact ⟨rfl, hT3.below⟩)
  | false =>
   obtain ⟨⟨hga, hsa⟩, ⟨_, hns⟩, _⟩ := hb1 rfl
   obtain ⟨⟨hgb, hsb⟩, _, _⟩ := hb2 rfl
   have hns2 : ∀ c ∈ l, c.f0.size ≤ 140737488355328 := fun c hc => Nat.le_trans (hns c hc) (by decide)
   have HKa := Aside0.mk (fun W (hW : Below w.heap.size w W) => Kind_calls a hga A c hla B c2 l hL hns2 hc2 W (hG.below hW) (Kd.C_below hCa hW) (Kd.C_below hD hW))
   have HKb := Aside0.mk (fun W (hW : Below w.heap.size w W) => Kind_calls b hgb A' c' hlb B c2 l hL hns2 hc2 W (hG.below hW) (Kd.C_below hCb hW) (Kd.C_below hD hW))
   have HEa := Aside0.mk (fun W (hW : Below w.heap.size w W) => K_node W a A c hla (Kd.C_below hCa hW))
   have HEb := Aside0.mk (fun W (hW : Below w.heap.size w W) => K_node W b A' c' hlb (Kd.C_below hCb hW))
   clear hb1 hb2 hsa hsb hns
   go_enter Tryd.func6, Tryd.ntmps6
   go_upto_region 1 with (fail)
   rw [← hW0]
   clear hW0
   obtain ⟨a0, a1, a2, a3, a4, a5⟩ := box6 (hT0.get (g := w.heap.size) (o := bx a A c) (by simp))
   go_upto_region 6 with (first
    | (go_at_call 10; refine (HAl.out _ hT0.below).mono ?_; rintro e w1 ⟨rfl, hb1⟩; have hT1 := hT0.step hb1; clear hb1 a0 a1 a2 a3 a4 a5; obtain ⟨a0, a1, a2, a3, a4, a5⟩ := box6 (hT1.get (g := w.heap.size) (o := bx a A c) (by simp)))
    | (go_at_call 11; refine (HF1.out _ hT1.below).mono ?_; rintro e w2 ⟨rfl, hb2⟩; have hT2 := hT1.step hb2; clear hb2 a0 a1 a2 a3 a4 a5 HF1 hT1; obtain ⟨b0, b1, b2, b3, b4, b5⟩ := box6 (hT2.get (g := w.heap.size + 1) (o := bx b A' c') (by simp)))
    | (go_at_call 11; refine (HF2.out _ hT2.below).mono ?_; rintro e w3 ⟨rfl, hb3⟩; have hT3 := hT2.step hb3; clear hb3 hT2))
   clear b0 b1 b2 b3 b4 b5 hT0 HAl HF2
   obtain ⟨a0, a1, a2, a3, a4, a5⟩ := box6 (hT3.get (g := w.heap.size) (o := bx a A c) (by simp))
   obtain ⟨b0, b1, b2, b3, b4, b5⟩ := box6 (hT3.get (g := w.heap.size + 1) (o := bx b A' c') (by simp))
   have hb4 : Below w3.heap.size w3 (w3.alloc (.cells #[.int .i64 a.f0, .string a.f1, .int .i64 a.f2.f0, .int .i64 a.f2.f1, .string a.f2.f2, .slice A a.f3.length c, .int .i64 b.f0, .string b.f1, .int .i64 b.f2.f0, .int .i64 b.f2.f1, .string b.f2.f2, .slice A' b.f3.length c'] 26)) := below_alloc (Below.refl _ _) _
   have hT4 := (hT3.step hb4).add (blk_new w3 (.cells #[.int .i64 a.f0, .string a.f1, .int .i64 a.f2.f0, .int .i64 a.f2.f1, .string a.f2.f2, .slice A a.f3.length c, .int .i64 b.f0, .string b.f1, .int .i64 b.f2.f0, .int .i64 b.f2.f1, .string b.f2.f2, .slice A' b.f3.length c'] 26))
   go_upto_region 7 with (go_at_call 16; refine (no_calls (bothE 14 a b) (some ⟨w3.heap.size, 0, none⟩) 2 _).mono ?_; rintro e w5 ⟨g5, _, rfl, hb5, hk5⟩; have hT5 := (hT4.step hb5).add hk5; clear hb5 hk5 hT4 a0 a1 a2 a3 a4 a5 b0 b1 b2 b3 b4 b5)
   have hT6 := (hT5.step (below_alloc (Below.refl w5.heap.size w5) (.cells #[.int .i64 16, .string ⟨#[]⟩, .int .i64 0, .int .i64 0, .string ⟨#[]⟩, .slice (some ⟨g5, 0, none⟩) 1 1] 26))).add (blk_new w5 (.cells #[.int .i64 16, .string ⟨#[]⟩, .int .i64 0, .int .i64 0, .string ⟨#[]⟩, .slice (some ⟨g5, 0, none⟩) 1 1] 26))
   clear hT5 hT3
   obtain ⟨W6, hW6⟩ : ∃ W6, W6 = w5.alloc (.cells #[.int .i64 16, .string ⟨#[]⟩, .int .i64 0, .int .i64 0, .string ⟨#[]⟩, .slice (some ⟨g5, 0, none⟩) 1 1] 26) := ⟨_, rfl⟩
   rw [← hW6] at hT6 ⊢
   have hlt : ∀ p ∈ ([(w5.heap.size, .cells #[.int .i64 16, .string ⟨#[]⟩, .int .i64 0, .int .i64 0, .string ⟨#[]⟩, .slice (some ⟨g5, 0, none⟩) 1 1] 26 (0, 0)), (g5, .cells (exC (bothE 14 a b) (some ⟨w3.heap.size, 0, none⟩) 2).toArray 26 (0, 0)), (w3.heap.size, .cells #[.int .i64 a.f0, .string a.f1, .int .i64 a.f2.f0, .int .i64 a.f2.f1, .string a.f2.f2, .slice A a.f3.length c, .int .i64 b.f0, .string b.f1, .int .i64 b.f2.f0, .int .i64 b.f2.f1, .string b.f2.f2, .slice A' b.f3.length c'] 26 (0, 0)), (w.heap.size, bx a A c), (w.heap.size + 1, bx b A' c')] : List (Nat × Obj)), p.1 < W6.heap.size := fun p hp => blk_lt (hT6.more p hp)
   have hsz : w.heap.size ≤ W6.heap.size := hT6.below.size
   clear hW6
   obtain ⟨KS6, hKS⟩ : ∃ KS6 : List (Nat × Obj), KS6 = ([(w5.heap.size, .cells #[.int .i64 16, .string ⟨#[]⟩, .int .i64 0, .int .i64 0, .string ⟨#[]⟩, .slice (some ⟨g5, 0, none⟩) 1 1] 26 (0, 0)), (g5, .cells (exC (bothE 14 a b) (some ⟨w3.heap.size, 0, none⟩) 2).toArray 26 (0, 0)), (w3.heap.size, .cells #[.int .i64 a.f0, .string a.f1, .int .i64 a.f2.f0, .int .i64 a.f2.f1, .string a.f2.f2, .slice A a.f3.length c, .int .i64 b.f0, .string b.f1, .int .i64 b.f2.f0, .int .i64 b.f2.f1, .string b.f2.f2, .slice A' b.f3.length c'] 26 (0, 0)), (w.heap.size, bx a A c), (w.heap.size + 1, bx b A' c')] : List (Nat × Obj)) := ⟨_, rfl⟩
   rw [← hKS] at hT6 hlt
   have mA : (w.heap.size, bx a A c) ∈ KS6 := by rw [hKS]; simp
   have mB : (w.heap.size + 1, bx b A' c') ∈ KS6 := by rw [hKS]; simp
   have mX : (w5.heap.size, .cells #[.int .i64 16, .string ⟨#[]⟩, .int .i64 0, .int .i64 0, .string ⟨#[]⟩, .slice (some ⟨g5, 0, none⟩) 1 1] 26 (0, 0)) ∈ KS6 := by rw [hKS]; simp
   have m5 : (g5, .cells (exC (bothE 14 a b) (some ⟨w3.heap.size, 0, none⟩) 2).toArray 26 (0, 0)) ∈ KS6 := by rw [hKS]; simp
   have m3 : (w3.heap.size, .cells #[.int .i64 a.f0, .string a.f1, .int .i64 a.f2.f0, .int .i64 a.f2.f1, .string a.f2.f2, .slice A a.f3.length c, .int .i64 b.f0, .string b.f1, .int .i64 b.f2.f0, .int .i64 b.f2.f1, .string b.f2.f2, .slice A' b.f3.length c'] 26 (0, 0)) ∈ KS6 := by rw [hKS]; simp
   clear hKS
   have MA := Aside0.mk mA
   have MB := Aside0.mk mB
   have MX := Aside0.mk mX
   have M5 := Aside0.mk m5
   have M3 := Aside0.mk m3
   clear mA mB mX m5 m3
   refine start_ (n := 10) (S := (Kept w KS6)) (ds := []) #[false, false, false, false, false, false, false, false, false, false] (by kernel_rfl) rfl rfl (Kept.step hT6 (below_drew1 (Below.refl _ _))) (fun hHeld => ?_)
   have hz0 : W6.heap.size ≤ W6.drew.heap.size := Nat.le_refl _
   generalize W6.drew = wd at hHeld hz0 ⊢
   refine pure_ (i := 0) (N := some 39) (v := ?_) (a' := ?_) #[true, false, false, false, false, false, false, false, false, false] rfl rfl (by kernel_rfl) (fun _ _ _ h => h) (Or.inl ⟨by rfl, ?_⟩) ?_ ?_
   rotate_left
   ·intro w'
    go_simp
    first | with_reducible rfl | skip
   rotate_left
   ·simp only [Act.put, zA, zB, zC]
    rfl
   refine take_ (i := 1) (N := some 40) (v := ?_) (a' := ?_) #[true, true, false, false, false, false, false, false, false, false] rfl rfl (by kernel_rfl) (fun _ _ _ h => h) (Or.inl ⟨by rfl, ?_⟩) hHeld ?_ ?_
   rotate_left
   ·intro w' hs0
    obtain ⟨m0, m1, m2, m3, m4, m5⟩ := box6 (Kept.get hs0 (g := w.heap.size) (o := bx a A c) MA.out)
    go_simp
    with_reducible rfl
   rotate_left
   ·simp only [Act.put, zA, zB, zC]
    rfl
   refine pure_ (i := 3) (N := some 42) (v := ?_) (a' := ?_) #[true, true, false, true, false, false, false, false, false, false] rfl rfl (by kernel_rfl) (fun _ _ _ h => h) (Or.inl ⟨by rfl, ?_⟩) ?_ ?_
   rotate_left
   ·intro w'
    go_simp
    first | with_reducible rfl | skip
   rotate_left
   ·simp only [Act.put, zA, zB, zC]
    rfl
   refine take_ (i := 4) (N := some 43) (v := ?_) (a' := ?_) #[true, true, false, true, true, false, false, false, false, false] rfl rfl (by kernel_rfl) (fun _ _ _ h => h) (Or.inl ⟨by rfl, ?_⟩) hHeld ?_ ?_
   rotate_left
   ·intro w' hs0
    obtain ⟨m0, m1, m2, m3, m4, m5⟩ := box6 (Kept.get hs0 (g := w.heap.size + 1) (o := bx b A' c') MB.out)
    go_simp
    with_reducible rfl
   rotate_left
   ·simp only [Act.put, zA, zB, zC]
    rfl
   refine join_ (σ := Nat × Nat × Nat × Nat) 1 #[true, true, true, true, true, true, true, true, true, false] (fun s_ => [(41, .agg #[.int .i64 16, .string ⟨#[]⟩, .int .i64 0, .int .i64 0, .string ⟨#[]⟩, .slice (some ⟨s_.1, 0, none⟩) 1 1]), (44, .agg #[.int .i64 16, .string ⟨#[]⟩, .int .i64 0, .int .i64 0, .string ⟨#[]⟩, .slice (some ⟨s_.2.1, 0, none⟩) 1 1]), (45, .slice (some ⟨s_.2.2.1, 0, none⟩) 2 2), (46, .agg #[.int .i64 15, .string ⟨#[]⟩, .int .i64 0, .int .i64 0, .string ⟨#[]⟩, .slice (some ⟨s_.2.2.1, 0, none⟩) 2 2]), (11, .pointer (some ⟨s_.2.2.2, 0, none⟩))]) (fun s_ w' => (Kept w KS6) w' ∧ w'.heap[s_.1]? = some (.cells (exC a A c).toArray 26 (0, 0)) ∧ w'.heap[s_.2.1]? = some (.cells (exC b A' c').toArray 26 (0, 0)) ∧ w'.heap[s_.2.2.1]? = some (.cells #[.int .i64 16, .string ⟨#[]⟩, .int .i64 0, .int .i64 0, .string ⟨#[]⟩, .slice (some ⟨s_.1, 0, none⟩) 1 1, .int .i64 16, .string ⟨#[]⟩, .int .i64 0, .int .i64 0, .string ⟨#[]⟩, .slice (some ⟨s_.2.1, 0, none⟩) 1 1] 26 (0, 0)) ∧ w'.heap[s_.2.2.2]? = some (.cells #[.int .i64 0, .string ⟨#[]⟩, .int .i64 0, .int .i64 0, .string ⟨#[]⟩, .slice none 0 0] 26 (0, 0)) ∧ W6.heap.size ≤ s_.2.2.2 ∧ (s_.1 ≠ s_.2.2.2 ∧ s_.2.1 ≠ s_.2.2.2 ∧ s_.2.2.1 ≠ s_.2.2.2)) ?_ ?_
   rotate_left
   ·intro hCont
    have hs0 := hHeld
    refine two_ (i := 2) (j := 8) (Ni := some 41) (Nj := some 11) #[true, true, true, true, true, false, false, false, false, false] #[true, true, false, true, true, false, false, false, true, false] rfl rfl rfl rfl (by kernel_rfl) (by decide) (by decide) (fun K hK => ?_) (fun K hK => ?_)
    ·skip
     refine goesT_ Tryd.func16 (by kernel_rfl) rfl #[.agg #[.int .i64 a.f0, .string a.f1, .int .i64 a.f2.f0, .int .i64 a.f2.f1, .string a.f2.f2, .slice A a.f3.length c]] (by rfl) rfl rfl (by rfl) (by (try simp only [List.map_toArray, List.map_cons, List.map_nil]); first | done | rfl) ?_
     refine (no_calls a A c _).mono ?_
     rintro e u1 ⟨gp1, hge1, rfl, hb1, hn1⟩
     have hv1 := blk_lt hn1
     have hs1 := Kept.step hs0 hb1
     have hy1 := hb1.size
     have hz1 : W6.heap.size ≤ u1.heap.size := Nat.le_trans hz0 hb1.size
     have hp1 := hn1
     clear hHeld hn1
     refine ⟨_, rfl, ?_⟩
     refine hK.out _ _ hs1 (fun hHeld => ?_)
     clear hK K
     refine norm_ (a' := ?_) ?_ ?_
     rotate_left
     ·show Act.put _ (some 41) _ = _
      simp only [Act.put, zA, zB, zC]
      rfl
     refine two_ (i := 5) (j := 8) (Ni := some 44) (Nj := some 11) #[true, true, true, true, true, true, false, false, false, false] #[true, true, true, true, true, false, false, false, true, false] rfl rfl rfl rfl (by kernel_rfl) (by decide) (by decide) (fun K hK => ?_) (fun K hK => ?_)
     ·skip
      refine goesT_ Tryd.func16 (by kernel_rfl) rfl #[.agg #[.int .i64 b.f0, .string b.f1, .int .i64 b.f2.f0, .int .i64 b.f2.f1, .string b.f2.f2, .slice A' b.f3.length c']] (by rfl) rfl rfl (by rfl) (by (try simp only [List.map_toArray, List.map_cons, List.map_nil]); first | done | rfl) ?_
      refine (no_calls b A' c' _).mono ?_
      rintro e u2 ⟨gq2, hge2, rfl, hb2, hn2⟩
      have hv2 := blk_lt hn2
      have hs2 := Kept.step hs1 hb2
      have hy2 := hb2.size
      have hz2 : W6.heap.size ≤ u2.heap.size := Nat.le_trans hz1 hb2.size
      have hp2 := blk_below hp1 hb2
      have hq2 := hn2
      clear hHeld hn2
      refine ⟨_, rfl, ?_⟩
      refine hK.out _ _ hs2 (fun hHeld => ?_)
      clear hK K
      refine norm_ (a' := ?_) ?_ ?_
      rotate_left
      ·show Act.put _ (some 44) _ = _
       simp only [Act.put, zA, zB, zC]
       rfl
      refine two_ (i := 6) (j := 8) (Ni := some 45) (Nj := some 11) #[true, true, true, true, true, true, true, false, false, false] #[true, true, true, true, true, true, false, false, true, false] rfl rfl rfl rfl (by kernel_rfl) (by decide) (by decide) (fun K hK => ?_) (fun K hK => ?_)
      ·skip
       refine value_ (w1 := u2.alloc (.cells #[.int .i64 16, .string ⟨#[]⟩, .int .i64 0, .int .i64 0, .string ⟨#[]⟩, .slice (some ⟨gp1, 0, none⟩) 1 1, .int .i64 16, .string ⟨#[]⟩, .int .i64 0, .int .i64 0, .string ⟨#[]⟩, .slice (some ⟨gq2, 0, none⟩) 1 1] 26)) (v := .slice (some ⟨u2.heap.size, 0, none⟩) 2 2) (by rfl) rfl (by go_simp) ?_
       have hb3 : Below u2.heap.size u2 (u2.alloc (.cells #[.int .i64 16, .string ⟨#[]⟩, .int .i64 0, .int .i64 0, .string ⟨#[]⟩, .slice (some ⟨gp1, 0, none⟩) 1 1, .int .i64 16, .string ⟨#[]⟩, .int .i64 0, .int .i64 0, .string ⟨#[]⟩, .slice (some ⟨gq2, 0, none⟩) 1 1] 26)) := below_alloc (Below.refl _ _) _
       have hr3 := blk_new u2 (.cells #[.int .i64 16, .string ⟨#[]⟩, .int .i64 0, .int .i64 0, .string ⟨#[]⟩, .slice (some ⟨gp1, 0, none⟩) 1 1, .int .i64 16, .string ⟨#[]⟩, .int .i64 0, .int .i64 0, .string ⟨#[]⟩, .slice (some ⟨gq2, 0, none⟩) 1 1] 26)
       have hn3 := hr3
       generalize u2.alloc (.cells #[.int .i64 16, .string ⟨#[]⟩, .int .i64 0, .int .i64 0, .string ⟨#[]⟩, .slice (some ⟨gp1, 0, none⟩) 1 1, .int .i64 16, .string ⟨#[]⟩, .int .i64 0, .int .i64 0, .string ⟨#[]⟩, .slice (some ⟨gq2, 0, none⟩) 1 1] 26) = u3 at hb3 hr3 hn3 ⊢
       have hv3 := blk_lt hn3
       have hs3 := Kept.step hs2 hb3
       have hy3 := hb3.size
       have hz3 : W6.heap.size ≤ u3.heap.size := Nat.le_trans hz2 hb3.size
       have hp3 := blk_below hp2 hb3
       have hq3 := blk_below hq2 hb3
       clear hHeld
       refine hK.out _ _ hs3 (fun hHeld => ?_)
       clear hK K
       refine norm_ (a' := ?_) ?_ ?_
       rotate_left
       ·show Act.put _ (some 45) _ = _
        simp only [Act.put, zA, zB, zC]
        rfl
       refine pure_ (i := 7) (N := some 46) (v := ?_) (a' := ?_) #[true, true, true, true, true, true, true, true, false, false] rfl rfl (by kernel_rfl) (fun _ _ _ h => h) (Or.inl ⟨by rfl, ?_⟩) ?_ ?_
       rotate_left
       ·intro w'
        go_simp
        first | with_reducible rfl | skip
       rotate_left
       ·simp only [Act.put, zA, zB, zC]
        rfl
       refine one_ (i := 8) (N := some 11) #[true, true, true, true, true, true, true, true, true, false] rfl rfl (by kernel_rfl) (by decide) (fun K hK => ?_)
       refine value_ (w1 := u3.alloc (.cells #[.int .i64 0, .string ⟨#[]⟩, .int .i64 0, .int .i64 0, .string ⟨#[]⟩, .slice none 0 0] 26)) (v := .pointer (some ⟨u3.heap.size, 0, none⟩)) (by rfl) rfl (by go_simp) ?_
       have hb4 : Below u3.heap.size u3 (u3.alloc (.cells #[.int .i64 0, .string ⟨#[]⟩, .int .i64 0, .int .i64 0, .string ⟨#[]⟩, .slice none 0 0] 26)) := below_alloc (Below.refl _ _) _
       have hk4 := blk_new u3 (.cells #[.int .i64 0, .string ⟨#[]⟩, .int .i64 0, .int .i64 0, .string ⟨#[]⟩, .slice none 0 0] 26)
       have hn4 := hk4
       generalize u3.alloc (.cells #[.int .i64 0, .string ⟨#[]⟩, .int .i64 0, .int .i64 0, .string ⟨#[]⟩, .slice none 0 0] 26) = u4 at hb4 hk4 hn4 ⊢
       have hv4 := blk_lt hn4
       have hs4 := Kept.step hs3 hb4
       have hy4 := hb4.size
       have hz4 : W6.heap.size ≤ u4.heap.size := Nat.le_trans hz3 hb4.size
       have hp4 := blk_below hp3 hb4
       have hq4 := blk_below hq3 hb4
       have hr4 := blk_below hr3 hb4
       clear hHeld
       refine hK.out _ _ hs4 (fun hHeld => ?_)
       clear hK K
       refine norm_ (a' := ?_) ?_ ?_
       rotate_left
       ·show Act.put _ (some 11) _ = _
        simp only [Act.put, zA, zB, zC]
        rfl
       have hl_p := blk_lt hp4
       have hl_q := blk_lt hq4
       have hl_r := blk_lt hr4
       have hl_k := blk_lt hk4
       have hne1 : gp1 ≠ u3.heap.size := by omega
       have hne2 : gq2 ≠ u3.heap.size := by omega
       have hne3 : u2.heap.size ≠ u3.heap.size := by omega
       have hF := hCont (gp1, gq2, u2.heap.size, u3.heap.size) _ ⟨hs4, hp4, hq4, hr4, hk4, hz3, hne1, hne2, hne3⟩
       refine norm_ ?_ hF
       clear hF hCont
       simp only [putAll, Act.put, zA, zB, zC]
      ·skip
       refine value_ (w1 := u2.alloc (.cells #[.int .i64 0, .string ⟨#[]⟩, .int .i64 0, .int .i64 0, .string ⟨#[]⟩, .slice none 0 0] 26)) (v := .pointer (some ⟨u2.heap.size, 0, none⟩)) (by rfl) rfl (by go_simp) ?_
       have hb5 : Below u2.heap.size u2 (u2.alloc (.cells #[.int .i64 0, .string ⟨#[]⟩, .int .i64 0, .int .i64 0, .string ⟨#[]⟩, .slice none 0 0] 26)) := below_alloc (Below.refl _ _) _
       have hk5 := blk_new u2 (.cells #[.int .i64 0, .string ⟨#[]⟩, .int .i64 0, .int .i64 0, .string ⟨#[]⟩, .slice none 0 0] 26)
       have hn5 := hk5
       generalize u2.alloc (.cells #[.int .i64 0, .string ⟨#[]⟩, .int .i64 0, .int .i64 0, .string ⟨#[]⟩, .slice none 0 0] 26) = u5 at hb5 hk5 hn5 ⊢
       have hv5 := blk_lt hn5
       have hs5 := Kept.step hs2 hb5
       have hy5 := hb5.size
       have hz5 : W6.heap.size ≤ u5.heap.size := Nat.le_trans hz2 hb5.size
       have hp5 := blk_below hp2 hb5
       have hq5 := blk_below hq2 hb5
       clear hHeld
       refine hK.out _ _ hs5 (fun hHeld => ?_)
       clear hK K
       refine norm_ (a' := ?_) ?_ ?_
       rotate_left
       ·show Act.put _ (some 11) _ = _
        simp only [Act.put, zA, zB, zC]
        rfl
       refine one_ (i := 6) (N := some 45) #[true, true, true, true, true, true, true, false, true, false] rfl rfl (by kernel_rfl) (by decide) (fun K hK => ?_)
       refine value_ (w1 := u5.alloc (.cells #[.int .i64 16, .string ⟨#[]⟩, .int .i64 0, .int .i64 0, .string ⟨#[]⟩, .slice (some ⟨gp1, 0, none⟩) 1 1, .int .i64 16, .string ⟨#[]⟩, .int .i64 0, .int .i64 0, .string ⟨#[]⟩, .slice (some ⟨gq2, 0, none⟩) 1 1] 26)) (v := .slice (some ⟨u5.heap.size, 0, none⟩) 2 2) (by rfl) rfl (by go_simp) ?_
       have hb6 : Below u5.heap.size u5 (u5.alloc (.cells #[.int .i64 16, .string ⟨#[]⟩, .int .i64 0, .int .i64 0, .string ⟨#[]⟩, .slice (some ⟨gp1, 0, none⟩) 1 1, .int .i64 16, .string ⟨#[]⟩, .int .i64 0, .int .i64 0, .string ⟨#[]⟩, .slice (some ⟨gq2, 0, none⟩) 1 1] 26)) := below_alloc (Below.refl _ _) _
       have hr6 := blk_new u5 (.cells #[.int .i64 16, .string ⟨#[]⟩, .int .i64 0, .int .i64 0, .string ⟨#[]⟩, .slice (some ⟨gp1, 0, none⟩) 1 1, .int .i64 16, .string ⟨#[]⟩, .int .i64 0, .int .i64 0, .string ⟨#[]⟩, .slice (some ⟨gq2, 0, none⟩) 1 1] 26)
       have hn6 := hr6
       generalize u5.alloc (.cells #[.int .i64 16, .string ⟨#[]⟩, .int .i64 0, .int .i64 0, .string ⟨#[]⟩, .slice (some ⟨gp1, 0, none⟩) 1 1, .int .i64 16, .string ⟨#[]⟩, .int .i64 0, .int .i64 0, .string ⟨#[]⟩, .slice (some ⟨gq2, 0, none⟩) 1 1] 26) = u6 at hb6 hr6 hn6 ⊢
       have hv6 := blk_lt hn6
       have hs6 := Kept.step hs5 hb6
       have hy6 := hb6.size
       have hz6 : W6.heap.size ≤ u6.heap.size := Nat.le_trans hz5 hb6.size
       have hp6 := blk_below hp5 hb6
       have hq6 := blk_below hq5 hb6
       have hk6 := blk_below hk5 hb6
       clear hHeld
       refine hK.out _ _ hs6 (fun hHeld => ?_)
       clear hK K
       refine norm_ (a' := ?_) ?_ ?_
       rotate_left
       ·show Act.put _ (some 45) _ = _
        simp only [Act.put, zA, zB, zC]
        rfl
       refine pure_ (i := 7) (N := some 46) (v := ?_) (a' := ?_) #[true, true, true, true, true, true, true, true, true, false] rfl rfl (by kernel_rfl) (fun _ _ _ h => h) (Or.inl ⟨by rfl, ?_⟩) ?_ ?_
       rotate_left
       ·intro w'
        go_simp
        first | with_reducible rfl | skip
       rotate_left
       ·simp only [Act.put, zA, zB, zC]
        rfl
       have hl_p := blk_lt hp6
       have hl_q := blk_lt hq6
       have hl_r := blk_lt hr6
       have hl_k := blk_lt hk6
       have hne1 : gp1 ≠ u2.heap.size := by omega
       have hne2 : gq2 ≠ u2.heap.size := by omega
       have hne3 : u5.heap.size ≠ u2.heap.size := by omega
       have hF := hCont (gp1, gq2, u5.heap.size, u2.heap.size) _ ⟨hs6, hp6, hq6, hr6, hk6, hz2, hne1, hne2, hne3⟩
       refine norm_ ?_ hF
       clear hF hCont
       simp only [putAll, Act.put, zA, zB, zC]
     ·skip
      refine value_ (w1 := u1.alloc (.cells #[.int .i64 0, .string ⟨#[]⟩, .int .i64 0, .int .i64 0, .string ⟨#[]⟩, .slice none 0 0] 26)) (v := .pointer (some ⟨u1.heap.size, 0, none⟩)) (by rfl) rfl (by go_simp) ?_
      have hb7 : Below u1.heap.size u1 (u1.alloc (.cells #[.int .i64 0, .string ⟨#[]⟩, .int .i64 0, .int .i64 0, .string ⟨#[]⟩, .slice none 0 0] 26)) := below_alloc (Below.refl _ _) _
      have hk7 := blk_new u1 (.cells #[.int .i64 0, .string ⟨#[]⟩, .int .i64 0, .int .i64 0, .string ⟨#[]⟩, .slice none 0 0] 26)
      have hn7 := hk7
      generalize u1.alloc (.cells #[.int .i64 0, .string ⟨#[]⟩, .int .i64 0, .int .i64 0, .string ⟨#[]⟩, .slice none 0 0] 26) = u7 at hb7 hk7 hn7 ⊢
      have hv7 := blk_lt hn7
      have hs7 := Kept.step hs1 hb7
      have hy7 := hb7.size
      have hz7 : W6.heap.size ≤ u7.heap.size := Nat.le_trans hz1 hb7.size
      have hp7 := blk_below hp1 hb7
      clear hHeld
      refine hK.out _ _ hs7 (fun hHeld => ?_)
      clear hK K
      refine norm_ (a' := ?_) ?_ ?_
      rotate_left
      ·show Act.put _ (some 11) _ = _
       simp only [Act.put, zA, zB, zC]
       rfl
      refine one_ (i := 5) (N := some 44) #[true, true, true, true, true, true, false, false, true, false] rfl rfl (by kernel_rfl) (by decide) (fun K hK => ?_)
      refine goesT_ Tryd.func16 (by kernel_rfl) rfl #[.agg #[.int .i64 b.f0, .string b.f1, .int .i64 b.f2.f0, .int .i64 b.f2.f1, .string b.f2.f2, .slice A' b.f3.length c']] (by rfl) rfl rfl (by rfl) (by (try simp only [List.map_toArray, List.map_cons, List.map_nil]); first | done | rfl) ?_
      refine (no_calls b A' c' _).mono ?_
      rintro e u8 ⟨gq8, hge8, rfl, hb8, hn8⟩
      have hv8 := blk_lt hn8
      have hs8 := Kept.step hs7 hb8
      have hy8 := hb8.size
      have hz8 : W6.heap.size ≤ u8.heap.size := Nat.le_trans hz7 hb8.size
      have hp8 := blk_below hp7 hb8
      have hk8 := blk_below hk7 hb8
      have hq8 := hn8
      clear hHeld hn8
      refine ⟨_, rfl, ?_⟩
      refine hK.out _ _ hs8 (fun hHeld => ?_)
      clear hK K
      refine norm_ (a' := ?_) ?_ ?_
      rotate_left
      ·show Act.put _ (some 44) _ = _
       simp only [Act.put, zA, zB, zC]
       rfl
      refine one_ (i := 6) (N := some 45) #[true, true, true, true, true, true, true, false, true, false] rfl rfl (by kernel_rfl) (by decide) (fun K hK => ?_)
      refine value_ (w1 := u8.alloc (.cells #[.int .i64 16, .string ⟨#[]⟩, .int .i64 0, .int .i64 0, .string ⟨#[]⟩, .slice (some ⟨gp1, 0, none⟩) 1 1, .int .i64 16, .string ⟨#[]⟩, .int .i64 0, .int .i64 0, .string ⟨#[]⟩, .slice (some ⟨gq8, 0, none⟩) 1 1] 26)) (v := .slice (some ⟨u8.heap.size, 0, none⟩) 2 2) (by rfl) rfl (by go_simp) ?_
      have hb9 : Below u8.heap.size u8 (u8.alloc (.cells #[.int .i64 16, .string ⟨#[]⟩, .int .i64 0, .int .i64 0, .string ⟨#[]⟩, .slice (some ⟨gp1, 0, none⟩) 1 1, .int .i64 16, .string ⟨#[]⟩, .int .i64 0, .int .i64 0, .string ⟨#[]⟩, .slice (some ⟨gq8, 0, none⟩) 1 1] 26)) := below_alloc (Below.refl _ _) _
      have hr9 := blk_new u8 (.cells #[.int .i64 16, .string ⟨#[]⟩, .int .i64 0, .int .i64 0, .string ⟨#[]⟩, .slice (some ⟨gp1, 0, none⟩) 1 1, .int .i64 16, .string ⟨#[]⟩, .int .i64 0, .int .i64 0, .string ⟨#[]⟩, .slice (some ⟨gq8, 0, none⟩) 1 1] 26)
      have hn9 := hr9
      generalize u8.alloc (.cells #[.int .i64 16, .string ⟨#[]⟩, .int .i64 0, .int .i64 0, .string ⟨#[]⟩, .slice (some ⟨gp1, 0, none⟩) 1 1, .int .i64 16, .string ⟨#[]⟩, .int .i64 0, .int .i64 0, .string ⟨#[]⟩, .slice (some ⟨gq8, 0, none⟩) 1 1] 26) = u9 at hb9 hr9 hn9 ⊢
      have hv9 := blk_lt hn9
      have hs9 := Kept.step hs8 hb9
      have hy9 := hb9.size
      have hz9 : W6.heap.size ≤ u9.heap.size := Nat.le_trans hz8 hb9.size
      have hp9 := blk_below hp8 hb9
      have hq9 := blk_below hq8 hb9
      have hk9 := blk_below hk8 hb9
      clear hHeld
      refine hK.out _ _ hs9 (fun hHeld => ?_)
      clear hK K
      refine norm_ (a' := ?_) ?_ ?_
      rotate_left
      ·show Act.put _ (some 45) _ = _
       simp only [Act.put, zA, zB, zC]
       rfl
      refine pure_ (i := 7) (N := some 46) (v := ?_) (a' := ?_) #[true, true, true, true, true, true, true, true, true, false] rfl rfl (by kernel_rfl) (fun _ _ _ h => h) (Or.inl ⟨by rfl, ?_⟩) ?_ ?_
      rotate_left
      ·intro w'
       go_simp
       first | with_reducible rfl | skip
      rotate_left
      ·simp only [Act.put, zA, zB, zC]
       rfl
      have hl_p := blk_lt hp9
      have hl_q := blk_lt hq9
      have hl_r := blk_lt hr9
      have hl_k := blk_lt hk9
      have hne1 : gp1 ≠ u1.heap.size := by omega
      have hne2 : gq8 ≠ u1.heap.size := by omega
      have hne3 : u8.heap.size ≠ u1.heap.size := by omega
      have hF := hCont (gp1, gq8, u8.heap.size, u1.heap.size) _ ⟨hs9, hp9, hq9, hr9, hk9, hz1, hne1, hne2, hne3⟩
      refine norm_ ?_ hF
      clear hF hCont
      simp only [putAll, Act.put, zA, zB, zC]
    ·skip
     refine value_ (w1 := wd.alloc (.cells #[.int .i64 0, .string ⟨#[]⟩, .int .i64 0, .int .i64 0, .string ⟨#[]⟩, .slice none 0 0] 26)) (v := .pointer (some ⟨wd.heap.size, 0, none⟩)) (by rfl) rfl (by go_simp) ?_
     have hb10 : Below wd.heap.size wd (wd.alloc (.cells #[.int .i64 0, .string ⟨#[]⟩, .int .i64 0, .int .i64 0, .string ⟨#[]⟩, .slice none 0 0] 26)) := below_alloc (Below.refl _ _) _
     have hk10 := blk_new wd (.cells #[.int .i64 0, .string ⟨#[]⟩, .int .i64 0, .int .i64 0, .string ⟨#[]⟩, .slice none 0 0] 26)
     have hn10 := hk10
     generalize wd.alloc (.cells #[.int .i64 0, .string ⟨#[]⟩, .int .i64 0, .int .i64 0, .string ⟨#[]⟩, .slice none 0 0] 26) = u10 at hb10 hk10 hn10 ⊢
     have hv10 := blk_lt hn10
     have hs10 := Kept.step hs0 hb10
     have hy10 := hb10.size
     have hz10 : W6.heap.size ≤ u10.heap.size := Nat.le_trans hz0 hb10.size
     clear hHeld
     refine hK.out _ _ hs10 (fun hHeld => ?_)
     clear hK K
     refine norm_ (a' := ?_) ?_ ?_
     rotate_left
     ·show Act.put _ (some 11) _ = _
      simp only [Act.put, zA, zB, zC]
      rfl
     refine one_ (i := 2) (N := some 41) #[true, true, true, true, true, false, false, false, true, false] rfl rfl (by kernel_rfl) (by decide) (fun K hK => ?_)
     refine goesT_ Tryd.func16 (by kernel_rfl) rfl #[.agg #[.int .i64 a.f0, .string a.f1, .int .i64 a.f2.f0, .int .i64 a.f2.f1, .string a.f2.f2, .slice A a.f3.length c]] (by rfl) rfl rfl (by rfl) (by (try simp only [List.map_toArray, List.map_cons, List.map_nil]); first | done | rfl) ?_
     refine (no_calls a A c _).mono ?_
     rintro e u11 ⟨gp11, hge11, rfl, hb11, hn11⟩
     have hv11 := blk_lt hn11
     have hs11 := Kept.step hs10 hb11
     have hy11 := hb11.size
     have hz11 : W6.heap.size ≤ u11.heap.size := Nat.le_trans hz10 hb11.size
     have hk11 := blk_below hk10 hb11
     have hp11 := hn11
     clear hHeld hn11
     refine ⟨_, rfl, ?_⟩
     refine hK.out _ _ hs11 (fun hHeld => ?_)
     clear hK K
     refine norm_ (a' := ?_) ?_ ?_
     rotate_left
     ·show Act.put _ (some 41) _ = _
      simp only [Act.put, zA, zB, zC]
      rfl
     refine one_ (i := 5) (N := some 44) #[true, true, true, true, true, true, false, false, true, false] rfl rfl (by kernel_rfl) (by decide) (fun K hK => ?_)
     refine goesT_ Tryd.func16 (by kernel_rfl) rfl #[.agg #[.int .i64 b.f0, .string b.f1, .int .i64 b.f2.f0, .int .i64 b.f2.f1, .string b.f2.f2, .slice A' b.f3.length c']] (by rfl) rfl rfl (by rfl) (by (try simp only [List.map_toArray, List.map_cons, List.map_nil]); first | done | rfl) ?_
     refine (no_calls b A' c' _).mono ?_
     rintro e u12 ⟨gq12, hge12, rfl, hb12, hn12⟩
     have hv12 := blk_lt hn12
     have hs12 := Kept.step hs11 hb12
     have hy12 := hb12.size
     have hz12 : W6.heap.size ≤ u12.heap.size := Nat.le_trans hz11 hb12.size
     have hp12 := blk_below hp11 hb12
     have hk12 := blk_below hk11 hb12
     have hq12 := hn12
     clear hHeld hn12
     refine ⟨_, rfl, ?_⟩
     refine hK.out _ _ hs12 (fun hHeld => ?_)
     clear hK K
     refine norm_ (a' := ?_) ?_ ?_
     rotate_left
     ·show Act.put _ (some 44) _ = _
      simp only [Act.put, zA, zB, zC]
      rfl
     refine one_ (i := 6) (N := some 45) #[true, true, true, true, true, true, true, false, true, false] rfl rfl (by kernel_rfl) (by decide) (fun K hK => ?_)
     refine value_ (w1 := u12.alloc (.cells #[.int .i64 16, .string ⟨#[]⟩, .int .i64 0, .int .i64 0, .string ⟨#[]⟩, .slice (some ⟨gp11, 0, none⟩) 1 1, .int .i64 16, .string ⟨#[]⟩, .int .i64 0, .int .i64 0, .string ⟨#[]⟩, .slice (some ⟨gq12, 0, none⟩) 1 1] 26)) (v := .slice (some ⟨u12.heap.size, 0, none⟩) 2 2) (by rfl) rfl (by go_simp) ?_
     have hb13 : Below u12.heap.size u12 (u12.alloc (.cells #[.int .i64 16, .string ⟨#[]⟩, .int .i64 0, .int .i64 0, .string ⟨#[]⟩, .slice (some ⟨gp11, 0, none⟩) 1 1, .int .i64 16, .string ⟨#[]⟩, .int .i64 0, .int .i64 0, .string ⟨#[]⟩, .slice (some ⟨gq12, 0, none⟩) 1 1] 26)) := below_alloc (Below.refl _ _) _
     have hr13 := blk_new u12 (.cells #[.int .i64 16, .string ⟨#[]⟩, .int .i64 0, .int .i64 0, .string ⟨#[]⟩, .slice (some ⟨gp11, 0, none⟩) 1 1, .int .i64 16, .string ⟨#[]⟩, .int .i64 0, .int .i64 0, .string ⟨#[]⟩, .slice (some ⟨gq12, 0, none⟩) 1 1] 26)
     have hn13 := hr13
     generalize u12.alloc (.cells #[.int .i64 16, .string ⟨#[]⟩, .int .i64 0, .int .i64 0, .string ⟨#[]⟩, .slice (some ⟨gp11, 0, none⟩) 1 1, .int .i64 16, .string ⟨#[]⟩, .int .i64 0, .int .i64 0, .string ⟨#[]⟩, .slice (some ⟨gq12, 0, none⟩) 1 1] 26) = u13 at hb13 hr13 hn13 ⊢
     have hv13 := blk_lt hn13
     have hs13 := Kept.step hs12 hb13
     have hy13 := hb13.size
     have hz13 : W6.heap.size ≤ u13.heap.size := Nat.le_trans hz12 hb13.size
     have hp13 := blk_below hp12 hb13
     have hq13 := blk_below hq12 hb13
     have hk13 := blk_below hk12 hb13
     clear hHeld
     refine hK.out _ _ hs13 (fun hHeld => ?_)
     clear hK K
     refine norm_ (a' := ?_) ?_ ?_
     rotate_left
     ·show Act.put _ (some 45) _ = _
      simp only [Act.put, zA, zB, zC]
      rfl
     refine pure_ (i := 7) (N := some 46) (v := ?_) (a' := ?_) #[true, true, true, true, true, true, true, true, true, false] rfl rfl (by kernel_rfl) (fun _ _ _ h => h) (Or.inl ⟨by rfl, ?_⟩) ?_ ?_
     rotate_left
     ·intro w'
      go_simp
      first | with_reducible rfl | skip
     rotate_left
     ·simp only [Act.put, zA, zB, zC]
      rfl
     have hl_p := blk_lt hp13
     have hl_q := blk_lt hq13
     have hl_r := blk_lt hr13
     have hl_k := blk_lt hk13
     have hne1 : gp11 ≠ wd.heap.size := by omega
     have hne2 : gq12 ≠ wd.heap.size := by omega
     have hne3 : u12.heap.size ≠ wd.heap.size := by omega
     have hF := hCont (gp11, gq12, u12.heap.size, wd.heap.size) _ ⟨hs13, hp13, hq13, hr13, hk13, hz0, hne1, hne2, hne3⟩
     refine norm_ ?_ hF
     clear hF hCont
     simp only [putAll, Act.put, zA, zB, zC]
   rintro ⟨g1, g2, g3, k⟩ we ⟨hS9, hp9, hq9, hr9, hk9, hz9, hd1, hd2, hd3⟩
   have hS9 : (Kept w KS6) we := hS9
   have hk9 : we.heap[k]? = some (.cells #[.int .i64 0, .string ⟨#[]⟩, .int .i64 0, .int .i64 0, .string ⟨#[]⟩, .slice none 0 0] 26 (0, 0)) := hk9
   have hz9 : W6.heap.size ≤ k := hz9
   have hd1 : g1 ≠ k := hd1
   have hd2 : g2 ≠ k := hd2
   have hd3 : g3 ≠ k := hd3
   have hp9 : we.heap[g1]? = some (.cells (exC a A c).toArray 26 (0, 0)) := hp9
   have hq9 : we.heap[g2]? = some (.cells (exC b A' c').toArray 26 (0, 0)) := hq9
   have hr9 : we.heap[g3]? = some (.cells #[.int .i64 16, .string ⟨#[]⟩, .int .i64 0, .int .i64 0, .string ⟨#[]⟩, .slice (some ⟨g1, 0, none⟩) 1 1, .int .i64 16, .string ⟨#[]⟩, .int .i64 0, .int .i64 0, .string ⟨#[]⟩, .slice (some ⟨g2, 0, none⟩) 1 1] 26 (0, 0)) := hr9
   refine norm_ (a' := ?_) ?_ ?_
   rotate_left
   ·simp only [putAll, Act.put, zA, zB, zC]
    rfl
   refine one_ (i := 9) (N := none) #[true, true, true, true, true, true, true, true, true, true] rfl rfl (by kernel_rfl) (by decide) (fun K hK => ?_)
   obtain ⟨x0, x1, x2, x3, x4, x5⟩ := box6 hk9
   obtain ⟨y0, y1, y2, y3, y4, y5⟩ := room6 hk9
   have hlt9 := blk_lt hk9
   refine skip_ (w1 := put6 we k (.int .i64 15) (.string ⟨#[]⟩) (.int .i64 0) (.int .i64 0) (.string ⟨#[]⟩) (.slice (some ⟨g3, 0, none⟩) 2 2)) (by rfl) rfl (by unfold put6; go_simp) ?_
   have hS8 : Kept w KS6 (put6 we k (.int .i64 15) (.string ⟨#[]⟩) (.int .i64 0) (.int .i64 0) (.string ⟨#[]⟩) (.slice (some ⟨g3, 0, none⟩) 2 2)) := hS9.put6 (Nat.le_trans hsz hz9) (fun p hp => by have := hlt p hp; omega) _ _ _ _ _ _
   have hp8 := put6_far hp9 hd1 (.int .i64 15) (.string ⟨#[]⟩) (.int .i64 0) (.int .i64 0) (.string ⟨#[]⟩) (.slice (some ⟨g3, 0, none⟩) 2 2)
   have hq8 := put6_far hq9 hd2 (.int .i64 15) (.string ⟨#[]⟩) (.int .i64 0) (.int .i64 0) (.string ⟨#[]⟩) (.slice (some ⟨g3, 0, none⟩) 2 2)
   have hr8 := put6_far hr9 hd3 (.int .i64 15) (.string ⟨#[]⟩) (.int .i64 0) (.int .i64 0) (.string ⟨#[]⟩) (.slice (some ⟨g3, 0, none⟩) 2 2)
   have hk8 := put6_at hk9 (.int .i64 15) (.string ⟨#[]⟩) (.int .i64 0) (.int .i64 0) (.string ⟨#[]⟩) (.slice (some ⟨g3, 0, none⟩) 2 2)
   clear x0 x1 x2 x3 x4 x5 y0 y1 y2 y3 y4 y5 hlt9 hp9 hq9 hr9 hk9 hS9
   generalize put6 we k (.int .i64 15) (.string ⟨#[]⟩) (.int .i64 0) (.int .i64 0) (.string ⟨#[]⟩) (.slice (some ⟨g3, 0, none⟩) 2 2) = W7 at hS8 hp8 hq8 hr8 hk8 ⊢
   have hTS : TS a A c b A' c' w w5.heap.size g5 k g3 W7 := by
    have hab : Kd.C k26 W7 (some ⟨w3.heap.size, 0, none⟩) [a, b].length [a, b] := C_two W7 w3.heap.size 26 (0, 0) a b (exC a A c) (exC b A' c') (HEa.out W7 hS8.below) (HEb.out W7 hS8.below) (hS8.get M3.out)
    have hna : Kd.C k26 W7 (some ⟨g1, 0, none⟩) [a].length [a] := C_one' W7 g1 a A c hla (Kd.C_below hCa hS8.below) hp8
    have hnb : Kd.C k26 W7 (some ⟨g2, 0, none⟩) [b].length [b] := C_one' W7 g2 b A' c' hlb (Kd.C_below hCb hS8.below) hq8
    refine ⟨hS8.below, hS8.get MA.out, hS8.get MB.out, hS8.get MX.out, hk8, C_one' W7 g5 (bothE 14 a b) _ 2 (Nat.le_refl _) hab (hS8.get M5.out), C_two W7 g3 26 (0, 0) (notE a) (notE b) (exC (notE a) (some ⟨g1, 0, none⟩) 1) (exC (notE b) (some ⟨g2, 0, none⟩) 1) (K_node W7 (notE a) _ 1 (Nat.le_refl _) hna) (K_node W7 (notE b) _ 1 (Nat.le_refl _) hnb) hr8⟩
   refine hK.out _ _ hS8 (fun hHeld => ?_)
   clear hK K hHeld hS8 hp8 hq8 hr8 hk8 hd1 hd2 hd3 hz9 hsz hlt HEa HEb
   refine done_ (by kernel_rfl) ?_
   have HTS := Aside0.mk hTS
   clear hTS
   go_upto_region 8 with (fail)
   have hgx := good_not (good_both 14 hga hgb)
   have hgy := good_both 15 (good_not hga) (good_not hgb)
   have hgz := good_not (good_not hgx)
   have HCx := Aside0.mk (fun W (hW : TS a A c b A' c' w w5.heap.size g5 k g3 W) => Check_calls (notE (bothE 14 a b)) hgx (some ⟨g5, 0, none⟩) 1 (Nat.le_refl _) W (hG.below hW.below) hW.kx)
   have HCy := Aside0.mk (fun W (hW : TS a A c b A' c' w w5.heap.size g5 k g3 W) => Check_calls (bothE 15 (notE a) (notE b)) hgy (some ⟨g3, 0, none⟩) 2 (Nat.le_refl _) W (hG.below hW.below) hW.ky)
   have HWx := Aside0.mk (fun W (hW : TS a A c b A' c' w w5.heap.size g5 k g3 W) => Worth_calls (notE (bothE 14 a b)) hgx (some ⟨g5, 0, none⟩) 1 (Nat.le_refl _) B c2 l hL hns2 hc2 D c3 row hrow hc3 W (hG.below hW.below) hW.kx (Kd.C_below hD hW.below) (Kd.C_below hRw hW.below))
   have HWy := Aside0.mk (fun W (hW : TS a A c b A' c' w w5.heap.size g5 k g3 W) => Worth_calls (bothE 15 (notE a) (notE b)) hgy (some ⟨g3, 0, none⟩) 2 (Nat.le_refl _) B c2 l hL hns2 hc2 D c3 row hrow hc3 W (hG.below hW.below) hW.ky (Kd.C_below hD hW.below) (Kd.C_below hRw hW.below))
   have HWz := Aside0.mk (fun W (hW : TS a A c b A' c' w w5.heap.size g5 k g3 W) (g6 g7 : Nat) (h6 : W.heap[g6]? = some (.cells (exC (notE (bothE 14 a b)) (some ⟨g5, 0, none⟩) 1).toArray 26 (0, 0))) (h7 : W.heap[g7]? = some (.cells (exC (notE (notE (bothE 14 a b))) (some ⟨g6, 0, none⟩) 1).toArray 26 (0, 0))) => Worth_calls (notE (notE (notE (bothE 14 a b)))) hgz (some ⟨g7, 0, none⟩) 1 (Nat.le_refl _) B c2 l hL hns2 hc2 D c3 row hrow hc3 W (hG.below hW.below) (C_one' W g7 (notE (notE (bothE 14 a b))) (some ⟨g6, 0, none⟩) 1 (Nat.le_refl _) (C_one' W g6 (notE (bothE 14 a b)) (some ⟨g5, 0, none⟩) 1 (Nat.le_refl _) hW.kx h6) h7) (Kd.C_below hD hW.below) (Kd.C_below hRw hW.below))
   have HLaw := Aside0.mk (turns_law l row a b)
   clear hgx hgy hgz hga hgb hG hCa hCb hD hRw hwa hwb M3 M5 MA MB MX
   obtain ⟨p, hp⟩ : ∃ p, (kindX l a).1 = p := ⟨_, rfl⟩
   obtain ⟨d, hd⟩ : ∃ d, (kindX l a).2 = d := ⟨_, rfl⟩
   obtain ⟨q, hq⟩ : ∃ q, (kindX l b).1 = q := ⟨_, rfl⟩
   obtain ⟨m, hm⟩ : ∃ m, (kindX l b).2 = m := ⟨_, rfl⟩
   obtain ⟨ex, hex⟩ : ∃ ex, chkE (notE (bothE 14 a b)) = ex := ⟨_, rfl⟩
   obtain ⟨ey, hey⟩ : ∃ ey, chkE (bothE 15 (notE a) (notE b)) = ey := ⟨_, rfl⟩
   rw [hp, hd] at HKa
   rw [hq, hm] at HKb
   rw [hex] at HCx
   rw [hey] at HCy
   have HEQ := Aside0.mk (show (kindX l a = (p, d) ∧ kindX l b = (q, m)) ∧ chkE (notE (bothE 14 a b)) = ex ∧ chkE (bothE 15 (notE a) (notE b)) = ey from ⟨⟨by rw [← hp, ← hd], by rw [← hq, ← hm]⟩, hex, hey⟩)
   clear hp hd hq hm hex hey
   obtain ⟨a0, a1, a2, a3, a4, a5⟩ := box6 HTS.out.boxa
   go_upto_region 9 with (go_at_call 12; refine (HKa.out _ HTS.out.below).mono ?_; rintro e w8 ⟨rfl, hb8⟩; have HT8 := Aside0.mk (HTS.out.step hb8); clear hb8 a0 a1 a2 a3 a4 a5)
   clear HKa HTS
   obtain ⟨b0, b1, b2, b3, b4, b5⟩ := box6 HT8.out.boxb
   go_upto_region 10 with (go_at_call 12; refine (HKb.out _ HT8.out.below).mono ?_; rintro e w9 ⟨rfl, hb9⟩; have HT9 := Aside0.mk (HT8.out.step hb9); clear hb9 b0 b1 b2 b3 b4 b5)
   clear HKb HT8
   by_cases hd : d = 0
   rotate_left
   ·have f1 : (d != 0) = true := bne_iff_ne.2 hd
    clear hd
    go_wp2
    first | exact ⟨rfl, HT9.out.below⟩ | (go_ret; exact ⟨rfl, HT9.out.below⟩)
   subst hd
   by_cases hm : m = 0
   rotate_left
   ·have f2 : (m != 0) = true := bne_iff_ne.2 hm
    clear hm
    go_wp2
    first | exact ⟨rfl, HT9.out.below⟩ | (go_ret; exact ⟨rfl, HT9.out.below⟩)
   subst hm
   by_cases hp : p = 2
   rotate_left
   ·have f3 : (p != 2) = true := bne_iff_ne.2 hp
    clear hp
    go_wp2
    first | exact ⟨rfl, HT9.out.below⟩ | (go_ret; exact ⟨rfl, HT9.out.below⟩)
   subst hp
   by_cases hq : q = 2
   rotate_left
   ·have f4 : (q != 2) = true := bne_iff_ne.2 hq
    clear hq
    go_wp2
    first | exact ⟨rfl, HT9.out.below⟩ | (go_ret; exact ⟨rfl, HT9.out.below⟩)
   subst hq
   obtain ⟨s0, s1, s2, s3, s4, s5⟩ := box6 HT9.out.boxx
   by_cases hx : ex = 0
   rotate_left
   ·have f5 : (ex != 0) = true := bne_iff_ne.2 hx
    clear hx
    go_wp2_with (go_at_call 17; refine (HCx.out _ HT9.out).mono ?_; rintro e w10 ⟨rfl, hb10⟩; have HT10 := Aside0.mk (HT9.out.step hb10); clear hb10 s0 s1 s2 s3 s4 s5)
    first | exact ⟨rfl, HT10.out.below⟩ | (go_ret; exact ⟨rfl, HT10.out.below⟩)
   subst hx
   by_cases hy : ey = 0
   rotate_left
   ·have f6 : (ey != 0) = true := bne_iff_ne.2 hy
    clear hy
    go_wp2_with (first
     | (go_at_call 17; refine (HCx.out _ HT9.out).mono ?_; rintro e w10 ⟨rfl, hb10⟩; have HT10 := Aside0.mk (HT9.out.step hb10); clear hb10 s0 s1 s2 s3 s4 s5 HCx; obtain ⟨s0, s1, s2, s3, s4, s5⟩ := box6 HT10.out.boxy)
     | (go_at_call 17; refine (HCy.out _ HT10.out).mono ?_; rintro e w11 ⟨rfl, hb11⟩; have HT11 := Aside0.mk (HT10.out.step hb11); clear hb11 s0 s1 s2 s3 s4 s5))
    first | exact ⟨rfl, HT11.out.below⟩ | (go_ret; exact ⟨rfl, HT11.out.below⟩)
   subst hy
   obtain ⟨hl1, hl2⟩ := HLaw.out HEQ.out.1.1 HEQ.out.1.2 HEQ.out.2.1 HEQ.out.2.2
   have HWy' : Aside0 (∀ W, TS a A c b A' c' w w5.heap.size g5 k g3 W → Calls Tryd.prog 14 #[.agg #[.int .i64 15, .string ⟨#[]⟩, .int .i64 0, .int .i64 0, .string ⟨#[]⟩, .slice (some ⟨g3, 0, none⟩) 2 2], .slice B l.length c2, .slice D row.length c3] W fun e w' => e = .returned (.tuple #[.agg #[.int .i64 (worthX l row (notE (bothE 14 a b))).1.f0, .int .i64 (worthX l row (notE (bothE 14 a b))).1.f1, .string (worthX l row (notE (bothE 14 a b))).1.f2], .int .i64 (worthX l row (notE (bothE 14 a b))).2]) ∧ Below W.heap.size W w') := ⟨fun W hW => by
    have h := HWy.out W hW
    rw [hl1] at h
    exact h⟩
   have HL2 := Aside0.mk hl2
   clear HWy HLaw HEQ hl1 hl2
   obtain ⟨v, hv⟩ : ∃ v, (worthX l row (notE (bothE 14 a b))).1 = v := ⟨_, rfl⟩
   obtain ⟨er, her⟩ : ∃ er, (worthX l row (notE (bothE 14 a b))).2 = er := ⟨_, rfl⟩
   obtain ⟨z, hz⟩ : ∃ z, (worthX l row (notE (notE (notE (bothE 14 a b))))).1 = z := ⟨_, rfl⟩
   obtain ⟨eg, heg⟩ : ∃ eg, (worthX l row (notE (notE (notE (bothE 14 a b))))).2 = eg := ⟨_, rfl⟩
   rw [hv, her] at HWx HWy'
   rw [hz, heg] at HWz
   have hl3 : eg = 131 ∨ (z = v ∧ eg = er) := HL2.out.imp (fun h => heg ▸ h) (fun h => ⟨by rw [← hz, ← hv, h], by rw [← heg, ← her, h]⟩)
   clear hv her hz heg HL2
   go_upto_region 12 with (first
     | (go_at_call 17; refine (HCx.out _ HT9.out).mono ?_; rintro e w10 ⟨rfl, hb10⟩; have HT10 := Aside0.mk (HT9.out.step hb10); clear hb10 s0 s1 s2 s3 s4 s5 HCx; obtain ⟨s0, s1, s2, s3, s4, s5⟩ := box6 HT10.out.boxy)
     | (go_at_call 17; refine (HCy.out _ HT10.out).mono ?_; rintro e w11 ⟨rfl, hb11⟩; have HT11 := Aside0.mk (HT10.out.step hb11); clear hb11 s0 s1 s2 s3 s4 s5))
   clear HCy HT10 HT9
   obtain ⟨s0, s1, s2, s3, s4, s5⟩ := box6 HT11.out.boxx
   go_upto_region 13 with (go_at_call 14; refine (HWx.out _ HT11.out).mono ?_; rintro e w12 ⟨rfl, hb12⟩; have HT12 := Aside0.mk (HT11.out.step hb12); clear hb12 s0 s1 s2 s3 s4 s5)
   have hT := HT12.out.step (below_alloc (Below.refl _ _) (.cells #[.int .i64 v.f0, .int .i64 v.f1, .string v.f2] 23))
   have hv1 := blk_new w12 (.cells #[.int .i64 v.f0, .int .i64 v.f1, .string v.f2] 23)
   generalize w12.heap.size = gv at hv1 ⊢
   generalize w12.alloc (.cells #[.int .i64 v.f0, .int .i64 v.f1, .string v.f2] 23) = W12 at hT hv1 ⊢
   have HT13 := Aside0.mk hT
   have HV1 := Aside0.mk hv1
   clear hT hv1 HT12 HT11 HWx
   obtain ⟨s0, s1, s2, s3, s4, s5⟩ := box6 HT13.out.boxy
   go_upto_region 14 with (go_at_call 14; refine (HWy'.out _ HT13.out).mono ?_; rintro e w13 ⟨rfl, hb13⟩; have HT14 := Aside0.mk (HT13.out.step hb13); have HV2 := Aside0.mk (blk_below HV1.out hb13); clear hb13 s0 s1 s2 s3 s4 s5)
   have hT := HT14.out.step (below_alloc (Below.refl _ _) (.cells #[.int .i64 v.f0, .int .i64 v.f1, .string v.f2] 23))
   have hv1 := blk_alloc HV2.out (.cells #[.int .i64 v.f0, .int .i64 v.f1, .string v.f2] 23)
   have hv2 := blk_new w13 (.cells #[.int .i64 v.f0, .int .i64 v.f1, .string v.f2] 23)
   generalize w13.heap.size = gu at hv2 ⊢
   generalize w13.alloc (.cells #[.int .i64 v.f0, .int .i64 v.f1, .string v.f2] 23) = W13 at hT hv1 hv2 ⊢
   have HT15 := Aside0.mk hT
   have HV3 := Aside0.mk hv1
   have HU3 := Aside0.mk hv2
   clear hT hv1 hv2 HT14 HT13 HWy' HV1 HV2
   obtain ⟨s0, s1, s2, s3, s4, s5⟩ := box6 HT15.out.boxx
   have HN1 := Aside0.mk (fun W => no_calls (notE (bothE 14 a b)) (some ⟨g5, 0, none⟩) 1 W)
   go_upto_region 15 with (first
     | (go_at_call 16; refine (HN1.out _).mono ?_; rintro e w16 ⟨g6, _, rfl, hb16, h16⟩; have HT16 := Aside0.mk (HT15.out.step hb16); have HV4 := Aside0.mk (blk_below HV3.out hb16); have HU4 := Aside0.mk (blk_below HU3.out hb16); have H16 := Aside0.mk h16; clear h16 hb16 s0 s1 s2 s3 s4 s5 HN1)
     | (go_at_call 16; refine (no_calls (notE (notE (bothE 14 a b))) (some ⟨g6, 0, none⟩) 1 _).mono ?_; rintro e w17 ⟨g7, _, rfl, hb17, h17⟩; have HT17 := Aside0.mk (HT16.out.step hb17); have HV5 := Aside0.mk (blk_below HV4.out hb17); have HU5 := Aside0.mk (blk_below HU4.out hb17); have H17 := Aside0.mk h17; have H16' := Aside0.mk (blk_below H16.out hb17); clear h17 hb17)
     | (go_at_call 14; refine (HWz.out _ HT17.out g6 g7 H16'.out H17.out).mono ?_; rintro e w18 ⟨rfl, hb18⟩; have HT18 := Aside0.mk (HT17.out.step hb18); have HV6 := Aside0.mk (blk_below HV5.out hb18); have HU6 := Aside0.mk (blk_below HU5.out hb18); clear hb18))
   have hT := below_step HT18.out.below (below_alloc (Below.refl _ _) (.cells #[.int .i64 z.f0, .int .i64 z.f1, .string z.f2] 23))
   have hv1 := blk_alloc HV6.out (.cells #[.int .i64 z.f0, .int .i64 z.f1, .string z.f2] 23)
   have hv2 := blk_alloc HU6.out (.cells #[.int .i64 z.f0, .int .i64 z.f1, .string z.f2] 23)
   have hv3 := blk_new w18 (.cells #[.int .i64 z.f0, .int .i64 z.f1, .string z.f2] 23)
   generalize w18.heap.size = gz at hv3 ⊢
   generalize w18.alloc (.cells #[.int .i64 z.f0, .int .i64 z.f1, .string z.f2] 23) = W18 at hT hv1 hv2 hv3 ⊢
   have p0 : W18.cell? ⟨gv, 0, none⟩ = some (.int .i64 v.f0) := (blk_cell hv1 0).trans rfl
   have p1 : W18.cell? ⟨gv, 1, none⟩ = some (.int .i64 v.f1) := (blk_cell hv1 1).trans rfl
   have p2 : W18.cell? ⟨gv, 2, none⟩ = some (.string v.f2) := (blk_cell hv1 2).trans rfl
   have q0 : W18.cell? ⟨gu, 0, none⟩ = some (.int .i64 v.f0) := (blk_cell hv2 0).trans rfl
   have q1 : W18.cell? ⟨gu, 1, none⟩ = some (.int .i64 v.f1) := (blk_cell hv2 1).trans rfl
   have q2 : W18.cell? ⟨gu, 2, none⟩ = some (.string v.f2) := (blk_cell hv2 2).trans rfl
   have z0 : W18.cell? ⟨gz, 0, none⟩ = some (.int .i64 z.f0) := (blk_cell hv3 0).trans rfl
   have z1 : W18.cell? ⟨gz, 1, none⟩ = some (.int .i64 z.f1) := (blk_cell hv3 1).trans rfl
   have z2 : W18.cell? ⟨gz, 2, none⟩ = some (.string z.f2) := (blk_cell hv3 2).trans rfl
   have HB := Aside0.mk hT
   clear hT hv1 hv2 hv3 HT18 HT17 HT16 HT15 HV3 HU3 HV4 HU4 HV5 HU5 HV6 HU6 H16 H16' H17 HWz
   have hvv : eqv v.f0 v.f0 v.f1 v.f1 v.f2 v.f2 = true := decide_eq_true rfl
   have hee : (er == er) = true := beq_self_eq_true er
   rcases hl3 with rfl | ⟨rfl, rfl⟩
   ·go_wp2
    all_goals (first | exact ⟨rfl, HB.out⟩ | (go_ret; exact ⟨by first | rfl | (simp; done) | (simp [*]; done), HB.out⟩))
   ·cases hq : (eg == 131)
    ·go_wp2
     all_goals (first | exact ⟨rfl, HB.out⟩ | (go_ret; exact ⟨by first | rfl | (simp; done) | (simp [*]; done), HB.out⟩))
    ·go_wp2
     all_goals (first | exact ⟨rfl, HB.out⟩ | (go_ret; exact ⟨by first | rfl | (simp; done) | (simp [*]; done), HB.out⟩))
noncomputable def headgatelaw13_ExprTurns.f (k : Nat) (a0 : Int) (a1 : ByteArray) (a2 a3 : Int) (a4 : ByteArray) (l : List Ex) (b0 : Int) (b1 : ByteArray) (b2 b3 : Int) (b4 : ByteArray) (m : List Ex) (cs : List Co) (row : List Va) : Option Bool := @ite _ (wfE ⟨a0, a1, ⟨a2, a3, a4⟩, l⟩ ∧ wfE ⟨b0, b1, ⟨b2, b3, b4⟩, m⟩ ∧ cs.length ≤ 140737488355328 ∧ row.length ≤ 140737488355328 ∧ ∀ y ∈ row, in64 y.f1) (Classical.propDecidable _) (some true) none
theorem headgatelaw13_ExprTurns.calls (k : Nat) (a0 : Int) (a1 : ByteArray) (a2 a3 : Int) (a4 : ByteArray) (A : Option Addr) (c : Nat) (l : List Ex) (b0 : Int) (b1 : ByteArray) (b2 b3 : Int) (b4 : ByteArray) (A' : Option Addr) (c' : Nat) (m : List Ex) (B : Option Addr) (c2 : Nat) (cs : List Co) (D : Option Addr) (c3 : Nat) (row : List Va) (r : Bool) (w : World) (hG : GlobE w) (hr : Kd.C k26 w A l.length l) (hc : l.length ≤ c) (hr1 : Kd.C k26 w A' m.length m) (hc1 : m.length ≤ c') (hr2 : Kd.C k58 w B cs.length cs) (hc2 : cs.length ≤ c2) (hr3 : Kd.C k23 w D row.length row) (hc3 : row.length ≤ c3) (h : headgatelaw13_ExprTurns.f k a0 a1 a2 a3 a4 l b0 b1 b2 b3 b4 m cs row = some r) :
  Calls Tryd.prog 6 #[.agg #[.int .i64 a0, .string a1, .int .i64 a2, .int .i64 a3, .string a4, .slice A l.length c], .agg #[.int .i64 b0, .string b1, .int .i64 b2, .int .i64 b3, .string b4, .slice A' m.length c'], .slice B cs.length c2, .slice D row.length c3] w fun e w' => e = .returned (.bool r) ∧ Below w.heap.size w w' := by
 unfold headgatelaw13_ExprTurns.f at h
 split at h
 ·rename_i hl
  obtain rfl : true = r := Option.some.inj h
  exact turns_walk ⟨a0, a1, ⟨a2, a3, a4⟩, l⟩ hl.1 A c hc ⟨b0, b1, ⟨b2, b3, b4⟩, m⟩ hl.2.1 A' c' hc1 B c2 cs hl.2.2.1 hc2 D c3 row hl.2.2.2.1 hl.2.2.2.2 hc3 w hG hr hr1 hr2 hr3
 ·cases h
theorem ExprTurns_pure (x y : Ex) (cs : List Co) (row : List Va) (h : wfE x) (g : wfE y) (h1 : cs.length * 24 ≤ 140737488351232 ∧ ∀ y ∈ cs, (y.f0.size ≤ 140737488351232) ∧ ((Lit.int .i64 y.f1).wf = true)) (h2 : row.length * 32 ≤ 140737488351232 ∧ ∀ y ∈ row, ((Lit.int .i64 y.f0).wf = true) ∧ ((Lit.int .i64 y.f1).wf = true) ∧ (y.f2.size ≤ 140737488351232)) : ∃ k, headgatelaw13_ExprTurns.f k x.f0 x.f1 x.f2.f0 x.f2.f1 x.f2.f2 x.f3 y.f0 y.f1 y.f2.f0 y.f2.f1 y.f2.f2 y.f3 cs row = some true := by
 obtain ⟨op, nm, v, ks⟩ := x
 obtain ⟨op', nm', v', ks'⟩ := y
 exact ⟨0, by unfold headgatelaw13_ExprTurns.f; exact if_pos (c := wfE ⟨op, nm, v, ks⟩ ∧ wfE ⟨op', nm', v', ks'⟩ ∧ cs.length ≤ 140737488355328 ∧ row.length ≤ 140737488355328 ∧ ∀ y ∈ row, in64 y.f1) ⟨h, g, by omega, by omega, fun y hy => wf64 (h2.2 y hy).2.1⟩⟩
end Go.Proofs.YtopolnbffmljaaaDoor.Q
