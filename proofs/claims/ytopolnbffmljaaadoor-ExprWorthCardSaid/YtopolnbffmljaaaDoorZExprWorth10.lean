/- Texts of the claim, put together. -/
import Derived.Test.YtopolnbffmljaaaDoorZExprWorth6
import Derived.Laws.Externs
import Derived.Lib.Bytealg
import Derived.Lib.Strings
import Derived.Test.YtopolnbffmljaaaDoorZExprWorth8
import Derived.Test.YtopolnbffmljaaaDoorZExprWorth9
namespace Go.Proofs.YtopolnbffmljaaaDoor.U10
def fB (n m : Nat) : Array Bool := ((List.range n).map (Nat.testBit m)).toArray
end Go.Proofs.YtopolnbffmljaaaDoor.U10
open Go.Proofs.YtopolnbffmljaaaDoor.U10
open Go.RowKit Go.Proofs.YtopolnbffmljaaaDoorW.PrintWords Go.Proofs.YtopolnbffmljaaaDoorW.PrintLast Go.Proofs.YtopolnbffmljaaaDoorW.PrintMore
set_option linter.unusedVariables false
set_option linter.unusedSimpArgs false
open List renaming setIfInBounds_toArray → zA, set_cons_zero → zB, set_cons_succ → zC
namespace Go.Proofs.YtopolnbffmljaaaDoor.Q
def strings_Compare.f (a0 a1 : ByteArray) : Option Int := some (Lib.compareBytes a0.data.toList a1.data.toList)
set_option maxHeartbeats 1000000 in
set_option maxRecDepth 100000 in
theorem compareString_calls (a b : ByteArray) (w : World) :
  Calls Tryd.prog 117 #[.string a, .string b] w fun e w' => e = .returned (.int .i64 (Lib.compareBytes a.data.toList b.data.toList)) ∧ w = w' := by
 go_enter Tryd.func117, Tryd.ntmps117
 go_wp2
 rw [run_callFunc_extern (e := Extern.BytealgCompare.compare) Tryd.func119 (by kernel_rfl) (by kernel_rfl) (by kernel_rfl) (by kernel_rfl), Lib.run_compareString]
 simp only [Result.andThen]
 rw [Oper.upon_value]
 go_wp2
 go_ret
 exact ⟨rfl, rfl⟩
theorem strings_Compare.calls (a0 a1 : ByteArray) (r : Int) (w : World) (h : strings_Compare.f a0 a1 = some r) :
  Calls Tryd.prog 102 #[.string a0, .string a1] w fun e w' => e = .returned (.int .i64 r) ∧ Below w.heap.size w w' := by
 obtain rfl := Option.some.inj h
 go_enter Tryd.func102, Tryd.ntmps102
 go_wp2_with (go_at_call 117; refine (compareString_calls _ _ _).mono ?_; rintro e w' ⟨rfl, rfl⟩)
 go_ret
 exact ⟨rfl, Below.refl _ _⟩
end Go.Proofs.YtopolnbffmljaaaDoor.Q
namespace Go.Proofs.YtopolnbffmljaaaDoor.Q
abbrev Ex := S26
abbrev Va := S23
instance : DecidableEq Va := fun a b =>
 if h : a.f0 = b.f0 ∧ a.f1 = b.f1 ∧ a.f2 = b.f2 then .isTrue (by cases a; cases b; obtain ⟨rfl, rfl, rfl⟩ := h; rfl) else .isFalse (fun e => h (by subst e; exact ⟨rfl, rfl, rfl⟩))
def nullV : Va := ⟨0, 0, ⟨#[]⟩⟩
def boolV (b : Bool) : Va := ⟨2, if b = true then 1 else 0, ⟨#[]⟩⟩
def intV (n : Int) : Va := ⟨1, n, ⟨#[]⟩⟩
theorem Ex.kids_lt (x k : Ex) (h : k ∈ x.f3) : SizeOf.sizeOf k < SizeOf.sizeOf x := by
 have := List.sizeOf_lt_of_mem h
 cases x with
 | mk a b c d =>
  simp only [S26.mk.sizeOf_spec]
  have : SizeOf.sizeOf k < SizeOf.sizeOf d := this
  omega
theorem Ex.ind {P : Ex → Prop} (h : ∀ x : Ex, (∀ k ∈ x.f3, P k) → P x) : ∀ x, P x := by
 have key : ∀ n : Nat, ∀ x : Ex, SizeOf.sizeOf x < n → P x := by
  intro n
  induction n with
  | zero => intro x hx; omega
  | succ n ih => exact fun x hx => h x (fun k hk => ih k (by have := Ex.kids_lt x k hk; omega))
 exact fun x => key (SizeOf.sizeOf x + 1) x (by omega)
mutual
def cntE : Ex → Int → Int → Bool × Int
 | ⟨_, _, _, ks⟩, deep, n => if n + 1 > 256 ∨ deep > 16 then (false, n + 1) else cntL ks (deep + 1) (n + 1)
def cntL : List Ex → Int → Int → Bool × Int
 | [], _, n => (true, n)
 | k :: ks, deep, n => if (cntE k deep n).1 = true then cntL ks deep (cntE k deep n).2 else (false, (cntE k deep n).2)
end
def arT : List Int := [-1, 0, 0, 0, 2, 2, 2, 2, 2, 1, 2, 2, 2, 2, 2, 2, 1, 1, 3, 2, 1]
def wordT : List ByteArray := [⟨#[]⟩, ⟨#[105, 110, 116]⟩, ⟨#[98, 111, 111, 108]⟩, ⟨#[116, 101, 120, 116]⟩]
def wordI (s : ByteArray) : Int := if s = ⟨#[]⟩ then 0 else if s = ⟨#[105, 110, 116]⟩ then 1 else if s = ⟨#[98, 111, 111, 108]⟩ then 2 else if s = ⟨#[116, 101, 120, 116]⟩ then 3 else -1
def formE (op : Int) (nm : ByteArray) (v : Va) (n : Nat) : Bool :=
 if op < 0 ∨ 21 ≤ op then false
 else if (n : Int) ≠ arT.getD op.toNat 0 then false
 else if op = 1 then nameS nm && decide (v = nullV)
 else if op = 2 then decide (nm = ⟨#[]⟩) && (decide (v.f0 ≠ 0) && decide (chkV v = 0))
 else if op = 3 then decide (nm ≠ ⟨#[]⟩) && (decide (0 ≤ wordI nm) && decide (v = nullV))
 else decide (nm = ⟨#[]⟩) && decide (v = nullV)
mutual
def allE : Ex → Bool
 | ⟨op, nm, v, ks⟩ => formE op nm v ks.length && allL ks
def allL : List Ex → Bool
 | [] => true
 | k :: ks => allE k && allL ks
end
def chkE (x : Ex) : Int := if (cntE x 0 0).1 = false then 131 else if allE x = false then 130 else 0
def kindO (l : List Co) (op : Int) (nm : ByteArray) (v : Va) (a b c : Int) : Int × Int :=
 if op = 1 then (if findN nm l 0 < 0 then (0, 132) else ((rd_T58 l (findN nm l 0)).f1, 0))
 else if op = 2 then (v.f0, 0)
 else if op = 3 then (wordI nm, 0)
 else if op = 4 ∨ op = 5 ∨ op = 6 ∨ op = 7 ∨ op = 8 then (if a = 1 ∧ b = 1 then (1, 0) else (0, 133))
 else if op = 9 then (if a = 1 then (1, 0) else (0, 133))
 else if op = 10 ∨ op = 11 ∨ op = 12 ∨ op = 13 then (if a = b then (2, 0) else (0, 133))
 else if op = 14 ∨ op = 15 then (if a = 2 ∧ b = 2 then (2, 0) else (0, 133))
 else if op = 16 then (if a = 2 then (2, 0) else (0, 133))
 else if op = 17 then (2, 0)
 else if op = 18 then (if a = 2 ∧ b = c then (b, 0) else (0, 133))
 else if op = 19 then (if a = b then (a, 0) else (0, 133))
 else if op = 20 then (if a = 3 then (1, 0) else (0, 133))
 else (0, 0)
mutual
def kindE (l : List Co) : Ex → Int × Int
 | ⟨op, nm, v, ks⟩ => if (kindL l ks).2 ≠ 0 then (0, (kindL l ks).2) else kindO l op nm v ((kindL l ks).1.getD 0 0) ((kindL l ks).1.getD 1 0) ((kindL l ks).1.getD 2 0)
def kindL (l : List Co) : List Ex → List Int × Int
 | [] => ([], 0)
 | k :: ks => if (kindE l k).2 ≠ 0 then ([], (kindE l k).2) else ((kindE l k).1 :: (kindL l ks).1, (kindL l ks).2)
end
def kindX (l : List Co) (x : Ex) : Int × Int := if rightS l = false then (0, 120) else if chkE x ≠ 0 then (0, chkE x) else kindE l x
abbrev Wo := Va × Int
def bindW (a : Wo) (f : Va → Wo) : Wo := if a.2 ≠ 0 then (nullV, a.2) else f a.1
def reckS (op : Int) (a b : Va) : Wo := if a = nullV ∨ b = nullV then (nullV, 0) else if (doS op a.f1 b.f1).2 ≠ 0 then (nullV, (doS op a.f1 b.f1).2) else (intV (doS op a.f1 b.f1).1, 0)
def cmpI (a b : Int) : Int := if a < b then -1 else if b < a then 1 else 0
def cmpV (a b : Va) : Int := if cmpI a.f0 b.f0 ≠ 0 then cmpI a.f0 b.f0 else if cmpI a.f1 b.f1 ≠ 0 then cmpI a.f1 b.f1 else Lib.compareBytes a.f2.data.toList b.f2.data.toList
def relS (op c : Int) : Bool := (decide (op = 10) && decide (c = 0)) || (decide (op = 11) && decide (c ≠ 0)) || (decide (op = 12) && decide (c < 0)) || (decide (op = 13) && decide (c ≤ 0))
def worthO (l : List Co) (row : List Va) (op : Int) (nm : ByteArray) (v : Va) (a b c : Wo) : Wo :=
 if op = 1 then (rd_T23 row (if findN nm l 0 < 0 then 0 else findN nm l 0), 0)
 else if op = 2 then (v, 0)
 else if op = 3 then (nullV, 0)
 else if op = 9 then bindW a fun x => reckS 5 (intV 0) x
 else if op = 4 ∨ op = 5 ∨ op = 6 ∨ op = 7 ∨ op = 8 then bindW a fun x => bindW b fun y => reckS op x y
 else if op = 10 ∨ op = 11 ∨ op = 12 ∨ op = 13 then bindW a fun x => bindW b fun y => if x = nullV ∨ y = nullV then (nullV, 0) else (boolV (relS op (cmpV x y)), 0)
 else if op = 14 ∨ op = 15 then bindW a fun x => if x = boolV (decide (op = 15)) then (x, 0) else bindW b fun y => if y = boolV (decide (op = 15)) then (y, 0) else if x = nullV ∨ y = nullV then (nullV, 0) else (boolV (decide (op = 14)), 0)
 else if op = 16 then bindW a fun x => if x = nullV then (x, 0) else (⟨x.f0, wrap64 (1 - x.f1), x.f2⟩, 0)
 else if op = 17 then bindW a fun x => (boolV (decide (x = nullV)), 0)
 else if op = 18 then bindW a fun x => if x = boolV true then b else c
 else if op = 19 then bindW a fun x => if x = nullV then b else (x, 0)
 else bindW a fun x => if x = nullV then (nullV, 0) else (intV x.f2.size, 0)
mutual
def worthE (l : List Co) (row : List Va) : Ex → Wo
 | ⟨op, nm, v, ks⟩ => worthO l row op nm v ((worthL l row ks).getD 0 (nullV, 0)) ((worthL l row ks).getD 1 (nullV, 0)) ((worthL l row ks).getD 2 (nullV, 0))
def worthL (l : List Co) (row : List Va) : List Ex → List Wo
 | [] => []
 | k :: ks => worthE l row k :: worthL l row ks
end
theorem worthL_map (l : List Co) (row : List Va) : ∀ ks, worthL l row ks = ks.map (worthE l row)
 | [] => by rw [worthL]; rfl
 | k :: ks => by rw [worthL, worthL_map l row ks]; rfl
theorem worthE_eq (l : List Co) (row : List Va) (x : Ex) : worthE l row x = worthO l row x.f0 x.f1 x.f2 ((x.f3.map (worthE l row)).getD 0 (nullV, 0)) ((x.f3.map (worthE l row)).getD 1 (nullV, 0)) ((x.f3.map (worthE l row)).getD 2 (nullV, 0)) := by
 cases x with
 | mk op nm v ks => rw [worthE, worthL_map]
theorem allL_all : ∀ ks, allL ks = ks.all allE
 | [] => by rw [allL]; rfl
 | k :: ks => by rw [allL, allL_all ks]; rfl
theorem allE_eq (x : Ex) : allE x = (formE x.f0 x.f1 x.f2 x.f3.length && x.f3.all allE) := by
 cases x with
 | mk op nm v ks => rw [allE, allL_all]
theorem allE_kid {x k : Ex} (h : allE x = true) (hk : k ∈ x.f3) : allE k = true := by
 rw [allE_eq, Bool.and_eq_true] at h
 exact List.all_eq_true.1 h.2 k hk
theorem allE_form {x : Ex} (h : allE x = true) : formE x.f0 x.f1 x.f2 x.f3.length = true := by
 rw [allE_eq, Bool.and_eq_true] at h
 exact h.1
def fitsL : List Co → List Va → Bool
 | [], [] => true
 | c :: cs, v :: vs => decide (chkV v = 0) && (decide (v.f0 = 0) || decide (v.f0 = c.f1)) && fitsL cs vs
 | _, _ => false
def worthX (l : List Co) (row : List Va) (x : Ex) : Wo :=
 if (kindX l x).2 ≠ 0 then (nullV, (kindX l x).2) else if fitsL l row = false then (nullV, 122) else worthE l row x
end Go.Proofs.YtopolnbffmljaaaDoor.Q
namespace Go.Proofs.YtopolnbffmljaaaDoor.Q
def AtE (w : World) (p : Addr) (x : Ex) : Prop := ∃ cs, k26.K w x cs ∧ ∀ j u, cs[j]? = some u → w.cell? (p.add j) = some u
theorem AtE.below {w w' : World} {p : Addr} {x : Ex} (h : AtE w p x) (hb : Below w.heap.size w w') : AtE w' p x := by
 obtain ⟨cs, hK, hc⟩ := h
 exact ⟨cs, k26.K_below hb hK, fun j u hj => pw_cell_below hb (hc j u hj)⟩
theorem add_zero_ (p : Addr) : p.add 0 = p := by unfold Addr.add; simp
theorem add_pos_ (p : Addr) (j : Nat) (h : 0 < j) : p.add j = ⟨p.block, p.off + j, none⟩ := by
 have := add_field p 0 j h
 rwa [Nat.zero_add, add_zero_] at this
theorem AtE.cells {w : World} {p : Addr} {x : Ex} (h : AtE w p x) : ∃ A c, w.cell? p = some (.int .i64 x.f0) ∧ w.cell? ⟨p.block, p.off + 1, none⟩ = some (.string x.f1) ∧ w.cell? ⟨p.block, p.off + 2, none⟩ = some (.int .i64 x.f2.f0) ∧ w.cell? ⟨p.block, p.off + 3, none⟩ = some (.int .i64 x.f2.f1) ∧ w.cell? ⟨p.block, p.off + 4, none⟩ = some (.string x.f2.f2) ∧ w.cell? ⟨p.block, p.off + 5, none⟩ = some (.slice A x.f3.length c) ∧ x.f3.length ≤ c ∧ k26.C w A x.f3.length x.f3 := by
 obtain ⟨cs, hK, hc⟩ := h
 obtain ⟨A, c, rfl, hl, hC⟩ := k26_open hK
 have h0 := hc 0 _ rfl
 rw [add_zero_] at h0
 exact ⟨A, c, h0, by rw [← add_pos_ p 1 (by omega)]; exact hc 1 _ rfl, by rw [← add_pos_ p 2 (by omega)]; exact hc 2 _ rfl, by rw [← add_pos_ p 3 (by omega)]; exact hc 3 _ rfl, by rw [← add_pos_ p 4 (by omega)]; exact hc 4 _ rfl, by rw [← add_pos_ p 5 (by omega)]; exact hc 5 _ rfl, hl, hC⟩
theorem AtE.kid {w : World} {A : Option Addr} {ks : List Ex} (h : k26.C w A ks.length ks) (i : Nat) (hi : i < ks.length) : ∃ ad, A = some ad ∧ AtE w (ad.add (i * 6)) (ks.getD i z26) ∧ ks.getD i z26 ∈ ks := by
 obtain ⟨ad, c, e, hl, hK, hc⟩ := Kd.C_get h z26 (i : Int) (by omega) (by omega)
 refine ⟨ad, e, ⟨c, by simpa using hK, fun j u hj => ?_⟩, ?_⟩
 ·have := hc j u hj
  rw [add_add]
  simpa [k26, Kd.fix] using this
 ·rw [List.getD_eq_getElem?_getD, List.getElem?_eq_getElem hi]
  exact List.getElem_mem hi
theorem AtE.box {w : World} {g : Nat} {x : Ex} {A : Option Addr} {c : Nat} {t : TypeId} {fz : Nat × Nat} (hl : x.f3.length ≤ c) (hC : k26.C w A x.f3.length x.f3)
  (hb : w.heap[g]? = some (.cells #[.int .i64 x.f0, .string x.f1, .int .i64 x.f2.f0, .int .i64 x.f2.f1, .string x.f2.f2, .slice A x.f3.length c] t fz)) : AtE w ⟨g, 0, none⟩ x := by
 refine ⟨_, k26_mk w x hl hC, fun j u hj => ?_⟩
 rw [add_plain]
 refine (cell_of_row w g j _ t fz hb).trans ?_
 rw [List.getElem?_toArray]
 exact hj
structure GlobE (w : World) : Prop where
 n0 : w.cell? ⟨0, 0, none⟩ = some (.int .i64 0)
 n1 : w.cell? ⟨0, 1, none⟩ = some (.int .i64 0)
 n2 : w.cell? ⟨0, 2, none⟩ = some (.string ⟨#[]⟩)
 words : ∀ i, i < 4 → w.cell? ⟨1, i, none⟩ = some (.string (wordT.getD i ⟨#[]⟩))
 arity : ∀ i, i < 21 → w.cell? ⟨2, i, none⟩ = some (.int .i64 (arT.getD i 0))
theorem GlobE.below {w w' : World} (h : GlobE w) (hb : Below w.heap.size w w') : GlobE w' :=
 ⟨pw_cell_below hb h.n0, pw_cell_below hb h.n1, pw_cell_below hb h.n2, fun i hi => pw_cell_below hb (h.words i hi), fun i hi => pw_cell_below hb (h.arity i hi)⟩
theorem GlobE.wordsC {w : World} (h : GlobE w) : Kd.C Kd.string w (some ⟨1, 0, none⟩) wordT.length wordT := by
 refine Kd.C_of_reads (enc := Value.string) (d := (⟨#[]⟩ : ByteArray)) (h1 := fun _ => rfl) ⟨rfl, by decide, fun _ => ⟨_, rfl, fun j hj => ?_⟩⟩
 rw [add_plain]
 exact h.words j hj
def eqv (x0 y0 x1 y1 : Int) (x2 y2 : ByteArray) : Bool := decide ((⟨x0, x1, x2⟩ : Va) = ⟨y0, y1, y2⟩)
theorem eqV (d : Nat) (w : World) (x0 y0 : Int) (x1 y1 : Int) (x2 y2 : ByteArray) :
  (Op.equalIn (d + 2) 23 (.agg #[.int .i64 x0, .int .i64 x1, .string x2]) (.agg #[.int .i64 y0, .int .i64 y1, .string y2])).run Tryd.prog w = .ok (eqv x0 y0 x1 y1 x2 y2) w := by
 rw [eqA23, toList_beq]
 unfold eqv
 congr 1
 rw [show decide ((⟨x0, x1, x2⟩ : Va) = ⟨y0, y1, y2⟩) = decide (x0 = y0 ∧ x1 = y1 ∧ x2 = y2) from decide_eq_decide.2 ⟨fun e => by injection e with a b c; exact ⟨a, b, c⟩, fun ⟨a, b, c⟩ => by subst a b c; rfl⟩]
 rw [Bool.decide_and, Bool.decide_and]
 rfl
end Go.Proofs.YtopolnbffmljaaaDoor.Q
namespace Go.Proofs.YtopolnbffmljaaaDoor.Q
set_option maxHeartbeats 4000000 in
set_option maxRecDepth 100000 in
theorem formed_out (op : Int) (p : Addr) (w : World) (A : Option Addr) (n c : Nat) (h : op < 0 ∨ 21 ≤ op) (m0 : w.cell? p = some (.int .i64 op)) (m5 : w.cell? ⟨p.block, p.off + 5, none⟩ = some (.slice A n c)) :
  Calls Tryd.prog 75 #[.pointer (some p)] w fun e w' => e = .returned (.bool false) ∧ Below w.heap.size w w' := by
 by_cases h0 : op < 0
 ·have d1 : decide (op < 0) = true := decide_eq_true h0
  clear h h0
  go_enter Tryd.func75, Tryd.ntmps75
  go_upto_region 1 with (fail)
  go_quiet (fail)
  go_wp2
  first | exact ⟨rfl, pw_below_drewN (Below.refl _ _) _⟩ | (go_ret; exact ⟨rfl, pw_below_drewN (Below.refl _ _) _⟩)
 ·have d1 : decide (op < 0) = false := decide_eq_false h0
  have d2 : decide (21 ≤ op) = true := decide_eq_true (by omega)
  clear h h0
  go_enter Tryd.func75, Tryd.ntmps75
  go_upto_region 1 with (fail)
  go_quiet (fail)
  go_wp2
  first | exact ⟨rfl, pw_below_drewN (Below.refl _ _) _⟩ | (go_ret; exact ⟨rfl, pw_below_drewN (Below.refl _ _) _⟩)
set_option maxHeartbeats 4000000 in
set_option maxRecDepth 100000 in
theorem formed_ar (op z : Int) (p : Addr) (w : World) (A : Option Addr) (n c : Nat) (h0 : 0 ≤ op) (h1 : op < 21) (hz : (n : Int) ≠ z) (m0 : w.cell? p = some (.int .i64 op)) (m5 : w.cell? ⟨p.block, p.off + 5, none⟩ = some (.slice A n c)) (ma : w.cell? ⟨2, op.toNat, none⟩ = some (.int .i64 z)) :
  Calls Tryd.prog 75 #[.pointer (some p)] w fun e w' => e = .returned (.bool false) ∧ Below w.heap.size w w' := by
 have d1 : decide (op < 0) = false := decide_eq_false (by omega)
 have d2 : decide (21 ≤ op) = false := decide_eq_false (by omega)
 have d3 : ((n : Int) != z) = true := by simpa using hz
 clear hz
 go_enter Tryd.func75, Tryd.ntmps75
 go_upto_region 1 with (fail)
 go_quiet (fail)
 go_wp2
 first | exact ⟨rfl, pw_below_drewN (Below.refl _ _) _⟩ | (go_ret; exact ⟨rfl, pw_below_drewN (Below.refl _ _) _⟩)
attribute [local go_sem high] eqV
set_option maxHeartbeats 4000000 in
set_option maxRecDepth 100000 in
theorem formed_1 (nm : ByteArray) (v : Va) (p : Addr) (w : World) (A : Option Addr) (c : Nat) (hs : nm.size ≤ 140737488355328) (m0 : w.cell? p = some (.int .i64 1)) (m1 : w.cell? ⟨p.block, p.off + 1, none⟩ = some (.string nm))
  (m2 : w.cell? ⟨p.block, p.off + 2, none⟩ = some (.int .i64 v.f0)) (m3 : w.cell? ⟨p.block, p.off + 3, none⟩ = some (.int .i64 v.f1)) (m4 : w.cell? ⟨p.block, p.off + 4, none⟩ = some (.string v.f2)) (m5 : w.cell? ⟨p.block, p.off + 5, none⟩ = some (.slice A 0 c)) (ma : w.cell? ⟨2, 1, none⟩ = some (.int .i64 0)) :
  Calls Tryd.prog 75 #[.pointer (some p)] w fun e w' => e = .returned (.bool (nameS nm && decide (v = nullV))) ∧ Below w.heap.size w w' := by
 obtain ⟨K, hK⟩ := (decName_ev nm hs).get
 have m3' : w.cell? ⟨p.block, p.off + 2 + 1, none⟩ = some (.int .i64 v.f1) := m3
 have m4' : w.cell? ⟨p.block, p.off + 2 + 2, none⟩ = some (.string v.f2) := m4
 have he : eqv v.f0 0 v.f1 0 v.f2 ⟨#[]⟩ = decide (v = nullV) := rfl
 generalize decide (v = nullV) = E at he ⊢
 have M := Aside0.mk (⟨m2, m3, m4, m3', m4'⟩ : _ ∧ _ ∧ _ ∧ _ ∧ _)
 clear m2 m3 m4 m3' m4'
 generalize nameS nm = NM at hK ⊢
 cases NM <;> cases E
 all_goals
  go_enter Tryd.func75, Tryd.ntmps75
  go_upto_region 1 with (fail)
  go_quiet (fail)
  go_wp2_with (go_at_call 53; refine (decode_Name.calls K nm _ _ hK).mono ?_; rintro e w1 ⟨rfl, hd⟩; have hb1 := hd.below; obtain ⟨m2, m3, m4, m3', m4'⟩ := M.out; replace m2 := pw_cell_below hb1 (show (World.drewN w _).cell? _ = some _ from m2); replace m3 := pw_cell_below hb1 (show (World.drewN w _).cell? _ = some _ from m3); replace m4 := pw_cell_below hb1 (show (World.drewN w _).cell? _ = some _ from m4); replace m3' := pw_cell_below hb1 (show (World.drewN w _).cell? _ = some _ from m3'); replace m4' := pw_cell_below hb1 (show (World.drewN w _).cell? _ = some _ from m4'); have HB1 := Aside0.mk (below_step (pw_below_drewN (Below.refl w.heap.size w) _) hb1); clear hd hb1)
  first | exact ⟨rfl, HB1.out⟩ | (go_ret; exact ⟨rfl, HB1.out⟩)
theorem str_ne {s : ByteArray} (h : s ≠ ⟨#[]⟩) : s.toList ≠ [] ∧ s.toList.isEmpty = false ∧ (s.toList == []) = false ∧ (s.toList != []) = true := by
 have h1 : s.toList ≠ [] := fun e => h (toList_inj (e.trans (by rw [Lib.toList_data])))
 refine ⟨h1, ?_, ?_, ?_⟩ <;> cases hx : s.toList <;> simp_all
set_option maxHeartbeats 4000000 in
set_option maxRecDepth 100000 in
theorem formed_2 (nm : ByteArray) (v : Va) (p : Addr) (w : World) (A : Option Addr) (c : Nat) (m0 : w.cell? p = some (.int .i64 2)) (m1 : w.cell? ⟨p.block, p.off + 1, none⟩ = some (.string nm))
  (m2 : w.cell? ⟨p.block, p.off + 2, none⟩ = some (.int .i64 v.f0)) (m3 : w.cell? ⟨p.block, p.off + 3, none⟩ = some (.int .i64 v.f1)) (m4 : w.cell? ⟨p.block, p.off + 4, none⟩ = some (.string v.f2)) (m5 : w.cell? ⟨p.block, p.off + 5, none⟩ = some (.slice A 0 c)) (ma : w.cell? ⟨2, 2, none⟩ = some (.int .i64 0)) :
  Calls Tryd.prog 75 #[.pointer (some p)] w fun e w' => e = .returned (.bool (decide (nm = ⟨#[]⟩) && (decide (v.f0 ≠ 0) && decide (chkV v = 0)))) ∧ Below w.heap.size w w' := by
 obtain ⟨K, hK0⟩ := chk_ev v
 have hK := hK0 K (Nat.le_refl _)
 clear hK0
 have m3' : w.cell? ⟨p.block, p.off + 2 + 1, none⟩ = some (.int .i64 v.f1) := m3
 have m4' : w.cell? ⟨p.block, p.off + 2 + 2, none⟩ = some (.string v.f2) := m4
 generalize chkV v = C at hK ⊢
 by_cases hn : nm = ⟨#[]⟩
 ·subst hn
  have hd : decide ((⟨#[]⟩ : ByteArray) = ⟨#[]⟩) = true := rfl
  rw [hd, Bool.true_and]
  by_cases hv : v.f0 = 0
  ·rw [decide_eq_false (show ¬ v.f0 ≠ 0 from fun h => h hv), Bool.false_and]
   have hv1 : (v.f0 != 0) = false := by rw [hv]; rfl
   clear hv hd hK
   go_enter Tryd.func75, Tryd.ntmps75
   go_upto_region 1 with (fail)
   go_quiet (fail)
   go_wp2_with fail
   first | exact ⟨rfl, pw_below_drewN (Below.refl _ _) _⟩ | (go_ret; exact ⟨rfl, pw_below_drewN (Below.refl _ _) _⟩)
  ·rw [decide_eq_true (show v.f0 ≠ 0 from hv), Bool.true_and]
   have hv1 : (v.f0 != 0) = true := by simpa using hv
   clear hv hd
   by_cases hC : C = 0
   ·subst hC
    go_enter Tryd.func75, Tryd.ntmps75
    go_upto_region 1 with (fail)
    go_quiet (fail)
    go_wp2_with (go_at_call 35; refine (value_Check.calls K v.f0 v.f1 v.f2 _ _ hK).mono ?_; rintro e w1 ⟨rfl, hb1⟩; have HB1 := Aside0.mk (below_step (pw_below_drewN (Below.refl w.heap.size w) _) hb1); clear hb1)
    first | exact ⟨rfl, HB1.out⟩ | (go_ret; exact ⟨rfl, HB1.out⟩)
   ·rw [decide_eq_false hC]
    have hC1 : (C == 0) = false := by simpa using hC
    clear hC
    go_enter Tryd.func75, Tryd.ntmps75
    go_upto_region 1 with (fail)
    go_quiet (fail)
    go_wp2_with (go_at_call 35; refine (value_Check.calls K v.f0 v.f1 v.f2 _ _ hK).mono ?_; rintro e w1 ⟨rfl, hb1⟩; have HB1 := Aside0.mk (below_step (pw_below_drewN (Below.refl w.heap.size w) _) hb1); clear hb1)
    first | exact ⟨rfl, HB1.out⟩ | (go_ret; exact ⟨rfl, HB1.out⟩)
 ·rw [decide_eq_false hn, Bool.false_and]
  obtain ⟨s1, s2, s3, s4⟩ := str_ne hn
  clear hn hK
  go_enter Tryd.func75, Tryd.ntmps75
  go_upto_region 1 with (fail)
  go_quiet (fail)
  go_wp2_with fail
  first | exact ⟨rfl, pw_below_drewN (Below.refl _ _) _⟩ | (go_ret; exact ⟨rfl, pw_below_drewN (Below.refl _ _) _⟩)
set_option maxHeartbeats 4000000 in
set_option maxRecDepth 100000 in
theorem formed_x (op : Int) (nm : ByteArray) (v : Va) (p : Addr) (w : World) (A : Option Addr) (n c : Nat) (h0 : 0 ≤ op) (h1 : op < 21) (o1 : op ≠ 1) (o2 : op ≠ 2) (o3 : op ≠ 3) (m0 : w.cell? p = some (.int .i64 op)) (m1 : w.cell? ⟨p.block, p.off + 1, none⟩ = some (.string nm))
  (m2 : w.cell? ⟨p.block, p.off + 2, none⟩ = some (.int .i64 v.f0)) (m3 : w.cell? ⟨p.block, p.off + 3, none⟩ = some (.int .i64 v.f1)) (m4 : w.cell? ⟨p.block, p.off + 4, none⟩ = some (.string v.f2)) (m5 : w.cell? ⟨p.block, p.off + 5, none⟩ = some (.slice A n c)) (ma : w.cell? ⟨2, op.toNat, none⟩ = some (.int .i64 n)) :
  Calls Tryd.prog 75 #[.pointer (some p)] w fun e w' => e = .returned (.bool (decide (nm = ⟨#[]⟩) && decide (v = nullV))) ∧ Below w.heap.size w w' := by
 have m3' : w.cell? ⟨p.block, p.off + 2 + 1, none⟩ = some (.int .i64 v.f1) := m3
 have m4' : w.cell? ⟨p.block, p.off + 2 + 2, none⟩ = some (.string v.f2) := m4
 have he : eqv v.f0 0 v.f1 0 v.f2 ⟨#[]⟩ = decide (v = nullV) := rfl
 generalize decide (v = nullV) = E at he ⊢
 have d1 : decide (op < 0) = false := decide_eq_false (by omega)
 have d2 : decide (21 ≤ op) = false := decide_eq_false (by omega)
 have e1 : (op == 1) = false := by simpa using o1
 have e2 : (op == 2) = false := by simpa using o2
 have e3 : (op == 3) = false := by simpa using o3
 clear o1 o2 o3
 by_cases hn : nm = ⟨#[]⟩
 ·subst hn
  have hd : decide ((⟨#[]⟩ : ByteArray) = ⟨#[]⟩) = true := rfl
  rw [hd, Bool.true_and]
  clear hd
  go_enter Tryd.func75, Tryd.ntmps75
  go_upto_region 1 with (fail)
  go_quiet (fail)
  go_wp2_with fail
  first | exact ⟨rfl, pw_below_drewN (Below.refl _ _) _⟩ | (go_ret; exact ⟨rfl, pw_below_drewN (Below.refl _ _) _⟩)
 ·rw [decide_eq_false hn, Bool.false_and]
  obtain ⟨s1, s2, s3, s4⟩ := str_ne hn
  clear hn
  go_enter Tryd.func75, Tryd.ntmps75
  go_upto_region 1 with (fail)
  go_quiet (fail)
  go_wp2_with fail
  first | exact ⟨rfl, pw_below_drewN (Below.refl _ _) _⟩ | (go_ret; exact ⟨rfl, pw_below_drewN (Below.refl _ _) _⟩)
theorem word_ev (s : ByteArray) : ∃ K, slices_Index_string_string.f K wordT s = some (wordI s) := by
 refine ⟨6, ?_⟩
 have r0 : rdOf ByteArray.empty wordT 0 = ⟨#[]⟩ := rfl
 have r1 : rdOf ByteArray.empty wordT 1 = ⟨#[105, 110, 116]⟩ := rfl
 have r2 : rdOf ByteArray.empty wordT 2 = ⟨#[98, 111, 111, 108]⟩ := rfl
 have r3 : rdOf ByteArray.empty wordT 3 = ⟨#[116, 101, 120, 116]⟩ := rfl
 have hl : (wordT.length : Int) = 4 := rfl
 have w1 : wrap64 (0 + 1) = 1 := by kernel_rfl
 have w2 : wrap64 (1 + 1) = 2 := by kernel_rfl
 have w3 : wrap64 (2 + 1) = 3 := by kernel_rfl
 have w4 : wrap64 (3 + 1) = 4 := by kernel_rfl
 have eqs : ∀ t : ByteArray, (s.toList = t.toList) ↔ (s = t) := fun t => ⟨toList_inj, fun e => by rw [e]⟩
 unfold slices_Index_string_string.f wordI
 simp only [slices_Index_string_string.l0, hl, eqs]
 rw [if_pos (by decide), if_pos (by decide), if_pos (by decide), r0]
 by_cases h0 : s = ⟨#[]⟩
 ·rw [if_pos h0, if_pos h0]
 rw [if_neg h0, if_neg h0, w1, if_pos (by decide), if_pos (by decide), if_pos (by decide), r1]
 by_cases h1 : s = ⟨#[105, 110, 116]⟩
 ·rw [if_pos h1, if_pos h1]
 rw [if_neg h1, if_neg h1, w2, if_pos (by decide), if_pos (by decide), if_pos (by decide), r2]
 by_cases h2 : s = ⟨#[98, 111, 111, 108]⟩
 ·rw [if_pos h2, if_pos h2]
 rw [if_neg h2, if_neg h2, w3, if_pos (by decide), if_pos (by decide), if_pos (by decide), r3]
 by_cases h3 : s = ⟨#[116, 101, 120, 116]⟩
 ·rw [if_pos h3, if_pos h3]
 rw [if_neg h3, if_neg h3, w4, if_neg (by decide)]
theorem contains_ev (s : ByteArray) : ∃ K, slices_Contains_string_string.f K wordT s = some (decide (0 ≤ wordI s)) := by
 obtain ⟨K, h⟩ := word_ev s
 refine ⟨K, ?_⟩
 unfold slices_Contains_string_string.f
 rw [h]
 rfl
set_option maxHeartbeats 4000000 in
set_option maxRecDepth 100000 in
theorem formed_3 (nm : ByteArray) (v : Va) (p : Addr) (w : World) (hG : GlobE w) (A : Option Addr) (c : Nat) (m0 : w.cell? p = some (.int .i64 3)) (m1 : w.cell? ⟨p.block, p.off + 1, none⟩ = some (.string nm))
  (m2 : w.cell? ⟨p.block, p.off + 2, none⟩ = some (.int .i64 v.f0)) (m3 : w.cell? ⟨p.block, p.off + 3, none⟩ = some (.int .i64 v.f1)) (m4 : w.cell? ⟨p.block, p.off + 4, none⟩ = some (.string v.f2)) (m5 : w.cell? ⟨p.block, p.off + 5, none⟩ = some (.slice A 0 c)) (ma : w.cell? ⟨2, 3, none⟩ = some (.int .i64 0)) :
  Calls Tryd.prog 75 #[.pointer (some p)] w fun e w' => e = .returned (.bool (decide (nm ≠ ⟨#[]⟩) && (decide (0 ≤ wordI nm) && decide (v = nullV)))) ∧ Below w.heap.size w w' := by
 have m3' : w.cell? ⟨p.block, p.off + 2 + 1, none⟩ = some (.int .i64 v.f1) := m3
 have m4' : w.cell? ⟨p.block, p.off + 2 + 2, none⟩ = some (.string v.f2) := m4
 have he : eqv v.f0 0 v.f1 0 v.f2 ⟨#[]⟩ = decide (v = nullV) := rfl
 generalize decide (v = nullV) = E at he ⊢
 by_cases hn : nm = ⟨#[]⟩
 ·subst hn
  have hd : decide ((⟨#[]⟩ : ByteArray) ≠ ⟨#[]⟩) = false := rfl
  rw [hd, Bool.false_and]
  clear hd hG
  go_enter Tryd.func75, Tryd.ntmps75
  go_upto_region 1 with (fail)
  go_quiet (fail)
  go_upto_region 9 with (fail)
  go_quiet (fail)
  go_wp2
  first | exact ⟨rfl, pw_below_drewN (pw_below_drewN (Below.refl _ _) _) _⟩ | (go_ret; exact ⟨rfl, pw_below_drewN (pw_below_drewN (Below.refl _ _) _) _⟩)
 ·rw [decide_eq_true hn, Bool.true_and]
  obtain ⟨s1, s2, s3, s4⟩ := str_ne hn
  obtain ⟨KC, hKC⟩ := contains_ev nm
  have HC := Aside0.mk (fun n => Kd.C_below hG.wordsC (pw_below_drewN (Below.refl w.heap.size w) n))
  clear hn hG
  generalize decide (0 ≤ wordI nm) = R at hKC ⊢
  cases R <;> cases E
  all_goals
   go_enter Tryd.func75, Tryd.ntmps75
   go_upto_region 1 with (fail)
   go_quiet (fail)
   go_upto_region 9 with (fail)
   go_quiet (first | (go_at_call 85; refine (slices_Contains_string_string.calls KC (some ⟨1, 0, none⟩) 4 wordT nm _ _ (HC.out _) (by decide) hKC).mono ?_; rintro e w1 ⟨rfl, ⟨⟨m, rfl⟩⟩⟩; exact ⟨rfl, _, by rw [World.drewN_drewN, Nat.add_assoc]⟩))
   go_wp2
   first | exact ⟨rfl, pw_below_drewN (pw_below_drewN (Below.refl _ _) _) _⟩ | (go_ret; exact ⟨rfl, pw_below_drewN (pw_below_drewN (Below.refl _ _) _) _⟩)
theorem formed_calls (x : Ex) (hs : x.f1.size ≤ 140737488355328) (p : Addr) (w : World) (hG : GlobE w) (hp : AtE w p x) :
  Calls Tryd.prog 75 #[.pointer (some p)] w fun e w' => e = .returned (.bool (formE x.f0 x.f1 x.f2 x.f3.length)) ∧ Below w.heap.size w w' := by
 obtain ⟨A, c, m0, m1, m2, m3, m4, m5, hl, hC⟩ := hp.cells
 obtain ⟨op, nm, v, ks⟩ := x
 simp only at hs m0 m1 m2 m3 m4 m5 hl hC ⊢
 unfold formE
 by_cases h : op < 0 ∨ 21 ≤ op
 ·rw [if_pos h]
  exact formed_out op p w A ks.length c h m0 m5
 rw [if_neg h]
 have h0 : 0 ≤ op := by omega
 have h1 : op < 21 := by omega
 have ma := hG.arity op.toNat (by omega)
 by_cases hz : (ks.length : Int) ≠ arT.getD op.toNat 0
 ·rw [if_pos hz]
  exact formed_ar op _ p w A ks.length c h0 h1 hz m0 m5 ma
 rw [if_neg hz]
 have hz' : arT.getD op.toNat 0 = (ks.length : Int) := by omega
 rw [hz'] at ma
 by_cases o1 : op = 1
 ·subst o1
  have hk : ks.length = 0 := by have : arT.getD (1 : Int).toNat 0 = 0 := rfl; omega
  rw [hk] at ma m5
  exact formed_1 nm v p w A c hs m0 m1 m2 m3 m4 m5 ma
 rw [if_neg o1]
 by_cases o2 : op = 2
 ·subst o2
  have hk : ks.length = 0 := by have : arT.getD (2 : Int).toNat 0 = 0 := rfl; omega
  rw [hk] at ma m5
  exact formed_2 nm v p w A c m0 m1 m2 m3 m4 m5 ma
 rw [if_neg o2]
 by_cases o3 : op = 3
 ·subst o3
  have hk : ks.length = 0 := by have : arT.getD (3 : Int).toNat 0 = 0 := rfl; omega
  rw [hk] at ma m5
  exact formed_3 nm v p w hG A c m0 m1 m2 m3 m4 m5 ma
 rw [if_neg o3]
 exact formed_x op nm v p w A ks.length c h0 h1 o1 o2 o3 m0 m1 m2 m3 m4 m5 ma
end Go.Proofs.YtopolnbffmljaaaDoor.Q
namespace Go.Proofs.YtopolnbffmljaaaDoor.Q
attribute [local go_sem] max2_int min2_int max_two min_two max_three min_three max_four min_four   -- for this text's walks alone
def value_Cmp.f (k : Nat) (a0_0 : Int) (a0_1 : Int) (a0_2 : ByteArray) (a1_0 : Int) (a1_1 : Int) (a1_2 : ByteArray) : Option (Int) := (cmp_Compare_int.f a0_0 a1_0).bind fun t110 => ((cmp_Compare_int64.f a0_1 a1_1).bind fun t111 => ((strings_Compare.f a0_2 a1_2).bind fun t112 => ((cmp_Or_int.f k (([t110, t111, t112] : List Int))).bind fun t116 => (some t116))))
def value_Cmp.T1 : Bool × List (List Nat × List Nat) := (true, [([], []), ([0], [0]), ([], []), ([2], [2]), ([1, 3], [1, 3]), ([], []), ([5], [5]), ([], []), ([7], [7]), ([6, 8, 4], [6, 8]), ([], []), ([10], [10]), ([], []), ([12], [12]), ([11, 13, 9], [11, 13]), ([4, 9, 14], [4, 9, 14]), ([15, 14], [15]), ([16, 16, 0, 1, 2, 3, 4, 5, 6, 7, 8, 9, 10, 11, 12, 13, 14, 15, 16], [16])])
def value_Cmp.B1 : List Nat := [0, 1, 0, 4, 15, 0, 32, 0, 128, 511, 0, 1024, 0, 4096, 16383, 32767, 65535, 131071]
theorem value_Cmp.tab1 : rtab .any (opsOf Tryd.f83 1) = value_Cmp.T1 := by kernel_rfl
theorem value_Cmp.bits1 : waitsOk value_Cmp.T1.2 value_Cmp.B1 = true := by kernel_rfl
set_option maxHeartbeats 8000000 in
set_option maxRecDepth 100000 in
theorem value_Cmp.calls (k : Nat) (a0_0 : Int) (a0_1 : Int) (a0_2 : ByteArray) (a1_0 : Int) (a1_1 : Int) (a1_2 : ByteArray) (r : Int) (w : World) (h : value_Cmp.f k a0_0 a0_1 a0_2 a1_0 a1_1 a1_2 = some r) :
  Calls Tryd.prog 83 #[.agg #[.int .i64 a0_0, .int .i64 a0_1, .string a0_2], .agg #[.int .i64 a1_0, .int .i64 a1_1, .string a1_2]] w fun e w' => e = .returned (.int .i64 r) ∧ Below w.heap.size w w' := by
 have hu23 := Tryd.underlying23
 have HB := Aside0.mk (Below.refl w.heap.size w)
 have H : ((cmp_Compare_int.f a0_0 a1_0).bind fun t110 => ((cmp_Compare_int64.f a0_1 a1_1).bind fun t111 => ((strings_Compare.f a0_2 a1_2).bind fun t112 => ((cmp_Or_int.f k (([t110, t111, t112] : List Int))).bind fun t116 => (some t116))))) = some r := h
 clear h
 replace H := Option.bind_eq_some_iff.mp H
 obtain ⟨t110, A30, H⟩ := H
 replace H : ((cmp_Compare_int64.f a0_1 a1_1).bind fun t111 => ((strings_Compare.f a0_2 a1_2).bind fun t112 => ((cmp_Or_int.f k (([t110, t111, t112] : List Int))).bind fun t116 => (some t116)))) = some r := H
 have A3 := Aside0.mk A30
 clear A30
 replace H := Option.bind_eq_some_iff.mp H
 obtain ⟨t111, A40, H⟩ := H
 replace H : ((strings_Compare.f a0_2 a1_2).bind fun t112 => ((cmp_Or_int.f k (([t110, t111, t112] : List Int))).bind fun t116 => (some t116))) = some r := H
 have A4 := Aside0.mk A40
 clear A40
 replace H := Option.bind_eq_some_iff.mp H
 obtain ⟨t112, A50, H⟩ := H
 replace H : ((cmp_Or_int.f k (([t110, t111, t112] : List Int))).bind fun t116 => (some t116)) = some r := H
 have A5 := Aside0.mk A50
 clear A50
 obtain ⟨y113, hy113⟩ : ∃ y_ : List Int, y_ = (([t110, t111, t112] : List Int)) := ⟨_, rfl⟩
 replace H : ((cmp_Or_int.f k y113).bind fun t116 => (some t116)) = some r := by first | (rw [hy113]; with_reducible exact H) | (have H2_ := (Option.bind_some _ _).symm.trans H; rw [hy113]; with_reducible exact H2_) | (have H2_ := (Option.bind_some _ _).symm.trans H; with_reducible exact H2_) | with_reducible exact H | (rw [hy113]; exact H) | exact H
 have Ny113 := Aside0.mk hy113
 clear hy113
 replace H := Option.bind_eq_some_iff.mp H
 obtain ⟨t116, A60, H⟩ := H
 replace H : (some t116) = some r := H
 have A6 := Aside0.mk A60
 clear A60
 obtain rfl := Option.some.inj H
 go_enter Tryd.func83, Tryd.ntmps83
 try go_wp2_with (first | ((with_reducible refine gate_dst (N := 2) rfl ?_); refine box_event ?hg (N := 2) ?hd (cs := #[.int .i64 a0_0, .int .i64 a0_1, .string a0_2]) (t := 23) ?hr ?_; (case hd => rfl); (case hg => rfl); (case hr => first | (go_simp; done) | (go_simp; rfl)); intro gb108 hg w7 hbox hb; have n0_ := Aside0.mk (below_step (by repeat (first | (with_reducible first | exact HB.out | apply below_alloc | apply pw_below_drewN | apply below_drew1) | exact HB.out)) hb); have n1_ := Aside0.mk (hbox); have n2_ := Aside0.mk ((by rw [hg]; exact (below_size (by repeat (first | (with_reducible first | exact HB.out | apply below_alloc | apply pw_below_drewN | apply below_drew1) | exact HB.out))) : w.heap.size ≤ gb108)); have n3_ := Aside0.mk ((by rw [hg]; exact (below_size (by repeat (first | (with_reducible first | exact HB.out | apply below_alloc | apply pw_below_drewN | apply below_drew1) | exact HB.out))) : w.heap.size ≤ gb108)); clear HB; have HB := n0_; have BK108 := n1_; have GW108 := n2_; have GE108 := n3_; clear n0_ n1_ n2_ n3_; clear hb hbox hg) | ((with_reducible refine gate_dst (N := 3) rfl ?_); refine box_event ?hg (N := 3) ?hd (cs := #[.int .i64 a1_0, .int .i64 a1_1, .string a1_2]) (t := 23) ?hr ?_; (case hd => rfl); (case hg => rfl); (case hr => first | (go_simp; done) | (go_simp; rfl)); intro gb109 hg w8 hbox hb; have n0_ := Aside0.mk (blk_below (g := gb108) (o := .cells #[.int .i64 a0_0, .int .i64 a0_1, .string a0_2] 23 (0, 0)) (by (with_reducible repeat (first | refine blk_drewN ?_ _ | refine blk_drew ?_ | refine blk_alloc ?_ _)); exact BK108.out) hb); have n1_ := Aside0.mk (below_step (by repeat (first | (with_reducible first | exact HB.out | apply below_alloc | apply pw_below_drewN | apply below_drew1 | refine below_set ?_ GE108.out) | exact HB.out)) hb); have n2_ := Aside0.mk (hbox); have n3_ := Aside0.mk ((by rw [hg]; exact (below_size (by repeat (first | (with_reducible first | exact HB.out | apply below_alloc | apply pw_below_drewN | apply below_drew1 | refine below_set ?_ GE108.out) | exact HB.out))) : w.heap.size ≤ gb109)); have n4_ := Aside0.mk ((by rw [hg]; exact (below_size (by repeat (first | (with_reducible first | exact HB.out | apply below_alloc | apply pw_below_drewN | apply below_drew1 | refine below_set ?_ GE108.out) | exact HB.out))) : w.heap.size ≤ gb109)); have n5_ := Aside0.mk ((by rw [hg]; exact Nat.ne_of_lt (blk_lt (g := gb108) (o := .cells #[.int .i64 a0_0, .int .i64 a0_1, .string a0_2] 23 (0, 0)) (by (with_reducible repeat (first | refine blk_drewN ?_ _ | refine blk_drew ?_ | refine blk_alloc ?_ _)); exact BK108.out)) : gb108 ≠ gb109)); have n6_ := Aside0.mk ((by rw [hg]; exact Nat.ne_of_gt (blk_lt (g := gb108) (o := .cells #[.int .i64 a0_0, .int .i64 a0_1, .string a0_2] 23 (0, 0)) (by (with_reducible repeat (first | refine blk_drewN ?_ _ | refine blk_drew ?_ | refine blk_alloc ?_ _)); exact BK108.out)) : gb109 ≠ gb108)); clear BK108; clear HB; have BK108 := n0_; have HB := n1_; have BK109 := n2_; have GW109 := n3_; have GE109 := n4_; have NB108_109 := n5_; have NB109_108 := n6_; clear n0_ n1_ n2_ n3_ n4_ n5_ n6_; clear hb hbox hg))
 have n0_ := Aside0.mk (blk_drew BK108.out)
 have n1_ := Aside0.mk (blk_drew BK109.out)
 have n2_ := Aside0.mk (below_drew1 HB.out)
 clear BK108
 clear BK109
 clear HB
 have BK108 := n0_
 have BK109 := n1_
 have HB := n2_
 clear n0_ n1_ n2_
 refine start_ (n := 18) (S := fun w' => w'.cell? ⟨gb108, 0, none⟩ = some (.int .i64 a0_0) ∧ w'.cell? ⟨gb108, 1, none⟩ = some (.int .i64 a0_1) ∧ w'.cell? ⟨gb108, 2, none⟩ = some (.string a0_2) ∧ w'.cell? ⟨gb109, 0, none⟩ = some (.int .i64 a1_0) ∧ w'.cell? ⟨gb109, 1, none⟩ = some (.int .i64 a1_1) ∧ w'.cell? ⟨gb109, 2, none⟩ = some (.string a1_2)) (ds := []) (fB 18 0) (by kernel_rfl) rfl rfl ⟨(blk_cell BK108.out 0).trans rfl, (blk_cell BK108.out 1).trans rfl, (blk_cell BK108.out 2).trans rfl, (blk_cell BK109.out 0).trans rfl, (blk_cell BK109.out 1).trans rfl, (blk_cell BK109.out 2).trans rfl⟩ (fun hHeld => ?_); refine with_tabW value_Cmp.tab1 value_Cmp.bits1 (fun HT_ HW_ => ?_)
 generalize w8.drew = w9 at BK108 BK109 HB hHeld ⊢
 refine pure_ (i := 0) (N := some 5) (v := ?_) (a' := ?_) (fB 18 1) rfl rfl (any_of HT_.out (by kernel_rfl)) (fun _ _ _ h => h) (Or.inl ⟨by rfl, by intro w'; go_simp; with_reducible rfl⟩) (by simp only [Act.put, zA, zB, zC, i64_w, i32_w]; rfl) ?_
 refine pure_ (i := 2) (N := some 7) (v := ?_) (a' := ?_) (fB 18 5) rfl rfl (any_of HT_.out (by kernel_rfl)) (fun _ _ _ h => h) (Or.inl ⟨by rfl, by intro w'; go_simp; with_reducible rfl⟩) (by simp only [Act.put, zA, zB, zC, i64_w, i32_w]; rfl) ?_
 refine pure_ (i := 5) (N := some 10) (v := ?_) (a' := ?_) (fB 18 37) rfl rfl (any_of HT_.out (by kernel_rfl)) (fun _ _ _ h => h) (Or.inl ⟨by rfl, by intro w'; go_simp; with_reducible rfl⟩) (by simp only [Act.put, zA, zB, zC, i64_w, i32_w]; rfl) ?_
 refine pure_ (i := 7) (N := some 12) (v := ?_) (a' := ?_) (fB 18 165) rfl rfl (any_of HT_.out (by kernel_rfl)) (fun _ _ _ h => h) (Or.inl ⟨by rfl, by intro w'; go_simp; with_reducible rfl⟩) (by simp only [Act.put, zA, zB, zC, i64_w, i32_w]; rfl) ?_
 refine pure_ (i := 10) (N := some 15) (v := ?_) (a' := ?_) (fB 18 1189) rfl rfl (any_of HT_.out (by kernel_rfl)) (fun _ _ _ h => h) (Or.inl ⟨by rfl, by intro w'; go_simp; with_reducible rfl⟩) (by simp only [Act.put, zA, zB, zC, i64_w, i32_w]; rfl) ?_
 refine pure_ (i := 12) (N := some 17) (v := ?_) (a' := ?_) (fB 18 5285) rfl rfl (any_of HT_.out (by kernel_rfl)) (fun _ _ _ h => h) (Or.inl ⟨by rfl, by intro w'; go_simp; with_reducible rfl⟩) (by simp only [Act.put, zA, zB, zC, i64_w, i32_w]; rfl) ?_
 refine take_ (i := 1) (N := some 6) (v := ?_) (a' := ?_) (fB 18 5287) rfl rfl (take_ofW HT_.out HW_.out (by kernel_rfl)) (fun _ _ _ h => h) (Or.inl ⟨by rfl, by rintro w' ⟨s0, s1, s2, s3, s4, s5⟩; go_simp; with_reducible rfl⟩) hHeld (by simp only [Act.put, zA, zB, zC, i64_w, i32_w]; rfl) ?_
 refine take_ (i := 3) (N := some 8) (v := ?_) (a' := ?_) (fB 18 5295) rfl rfl (take_ofW HT_.out HW_.out (by kernel_rfl)) (fun _ _ _ h => h) (Or.inl ⟨by rfl, by rintro w' ⟨s0, s1, s2, s3, s4, s5⟩; go_simp; with_reducible rfl⟩) hHeld (by simp only [Act.put, zA, zB, zC, i64_w, i32_w]; rfl) ?_
 refine take_ (i := 6) (N := some 11) (v := ?_) (a' := ?_) (fB 18 5359) rfl rfl (take_ofW HT_.out HW_.out (by kernel_rfl)) (fun _ _ _ h => h) (Or.inl ⟨by rfl, by rintro w' ⟨s0, s1, s2, s3, s4, s5⟩; go_simp; with_reducible rfl⟩) hHeld (by simp only [Act.put, zA, zB, zC, i64_w, i32_w]; rfl) ?_
 refine take_ (i := 8) (N := some 13) (v := ?_) (a' := ?_) (fB 18 5615) rfl rfl (take_ofW HT_.out HW_.out (by kernel_rfl)) (fun _ _ _ h => h) (Or.inl ⟨by rfl, by rintro w' ⟨s0, s1, s2, s3, s4, s5⟩; go_simp; with_reducible rfl⟩) hHeld (by simp only [Act.put, zA, zB, zC, i64_w, i32_w]; rfl) ?_
 refine take_ (i := 11) (N := some 16) (v := ?_) (a' := ?_) (fB 18 7663) rfl rfl (take_ofW HT_.out HW_.out (by kernel_rfl)) (fun _ _ _ h => h) (Or.inl ⟨by rfl, by rintro w' ⟨s0, s1, s2, s3, s4, s5⟩; go_simp; with_reducible rfl⟩) hHeld (by simp only [Act.put, zA, zB, zC, i64_w, i32_w]; rfl) ?_
 refine take_ (i := 13) (N := some 18) (v := ?_) (a' := ?_) (fB 18 15855) rfl rfl (take_ofW HT_.out HW_.out (by kernel_rfl)) (fun _ _ _ h => h) (Or.inl ⟨by rfl, by rintro w' ⟨s0, s1, s2, s3, s4, s5⟩; go_simp; with_reducible rfl⟩) hHeld (by simp only [Act.put, zA, zB, zC, i64_w, i32_w]; rfl) ?_
 refine one_ (i := 4) (N := some 9) (fB 18 15871) rfl rfl (one_of HT_.out (by kernel_rfl)) (by decide) (fun K hK => ?_)
 refine goes_ Tryd.func100 (by kernel_rfl) rfl #[.int .i64 a0_0, .int .i64 a1_0] (by rfl) rfl rfl (by (try simp only [List.map_toArray, List.map_cons, List.map_nil]); first | done | rfl | (simp only [List.length_drop, List.length_take]; rfl) | exact congrArg (fun x_ : Int => #[Value.int .u64 x_]) (show _ = _ % (18446744073709551616 : Int) by omega)) ?_
 with_reducible refine (cmp_Compare_int.calls a0_0 a1_0 t110 _ A3.out).mono ?_
 rintro e w' ⟨rfl, ⟨nd, rfl⟩⟩
 refine ⟨_, rfl, ?_⟩
 refine hK.out _ _ ⟨(blk_cell BK108.out 0).trans rfl, (blk_cell BK108.out 1).trans rfl, (blk_cell BK108.out 2).trans rfl, (blk_cell BK109.out 0).trans rfl, (blk_cell BK109.out 1).trans rfl, (blk_cell BK109.out 2).trans rfl⟩ (fun hHeld => ?_)
 clear hK K
 refine norm_ (a' := ?_) ?_ ?_
 rotate_left
 ·show Act.put _ (some 9) _ = _
  simp only [Act.put, zA, zB, zC, i64_w, i32_w]
  rfl
 refine one_ (i := 9) (N := some 14) (fB 18 16383) rfl rfl (one_of HT_.out (by kernel_rfl)) (by decide) (fun K hK => ?_)
 refine goes_ Tryd.func101 (by kernel_rfl) rfl #[.int .i64 a0_1, .int .i64 a1_1] (by rfl) rfl rfl (by (try simp only [List.map_toArray, List.map_cons, List.map_nil]); first | done | rfl | (simp only [List.length_drop, List.length_take]; rfl) | exact congrArg (fun x_ : Int => #[Value.int .u64 x_]) (show _ = _ % (18446744073709551616 : Int) by omega)) ?_
 with_reducible refine (cmp_Compare_int64.calls a0_1 a1_1 t111 _ A4.out).mono ?_
 rintro e w' ⟨rfl, ⟨nd, rfl⟩⟩
 refine ⟨_, rfl, ?_⟩
 refine hK.out _ _ ⟨(blk_cell BK108.out 0).trans rfl, (blk_cell BK108.out 1).trans rfl, (blk_cell BK108.out 2).trans rfl, (blk_cell BK109.out 0).trans rfl, (blk_cell BK109.out 1).trans rfl, (blk_cell BK109.out 2).trans rfl⟩ (fun hHeld => ?_)
 clear hK K
 refine norm_ (a' := ?_) ?_ ?_
 rotate_left
 ·show Act.put _ (some 14) _ = _
  simp only [Act.put, zA, zB, zC, i64_w, i32_w]
  rfl
 refine one_ (i := 14) (N := some 19) (fB 18 32767) rfl rfl (one_of HT_.out (by kernel_rfl)) (by decide) (fun K hK => ?_)
 refine goes_ Tryd.func102 (by kernel_rfl) rfl #[.string a0_2, .string a1_2] (by rfl) rfl rfl (by (try simp only [List.map_toArray, List.map_cons, List.map_nil]); first | done | rfl | (simp only [List.length_drop, List.length_take]; rfl) | exact congrArg (fun x_ : Int => #[Value.int .u64 x_]) (show _ = _ % (18446744073709551616 : Int) by omega)) ?_
 with_reducible refine (strings_Compare.calls a0_2 a1_2 t112 _ A5.out).mono ?_
 rintro e w10 ⟨rfl, hb⟩
 refine ⟨_, rfl, ?_⟩
 have n0_ := Aside0.mk (blk_below (g := gb108) (o := .cells #[.int .i64 a0_0, .int .i64 a0_1, .string a0_2] 23 (0, 0)) (by (with_reducible repeat (first | refine blk_drewN ?_ _ | refine blk_drew ?_ | refine blk_alloc ?_ _)); exact BK108.out) hb)
 have n1_ := Aside0.mk (blk_below (g := gb109) (o := .cells #[.int .i64 a1_0, .int .i64 a1_1, .string a1_2] 23 (0, 0)) (by (with_reducible repeat (first | refine blk_drewN ?_ _ | refine blk_drew ?_ | refine blk_alloc ?_ _)); exact BK109.out) hb)
 have n2_ := Aside0.mk (below_step (by repeat (first | (with_reducible first | exact HB.out | apply below_alloc | apply pw_below_drewN | apply below_drew1 | refine below_set ?_ GE108.out | refine below_set ?_ GE109.out) | exact HB.out)) hb)
 clear BK108
 clear BK109
 clear HB
 have BK108 := n0_
 have BK109 := n1_
 have HB := n2_
 clear n0_ n1_ n2_
 (try clear hb)
 (try clear hb2)
 (try clear hk)
 (try clear hi)
 refine hK.out _ _ ⟨(blk_cell BK108.out 0).trans rfl, (blk_cell BK108.out 1).trans rfl, (blk_cell BK108.out 2).trans rfl, (blk_cell BK109.out 0).trans rfl, (blk_cell BK109.out 1).trans rfl, (blk_cell BK109.out 2).trans rfl⟩ (fun hHeld => ?_)
 clear hK K
 refine norm_ (a' := ?_) ?_ ?_
 rotate_left
 ·show Act.put _ (some 19) _ = _
  simp only [Act.put, zA, zB, zC, i64_w, i32_w]
  rfl
 refine one_ (i := 15) (N := some 20) (fB 18 65535) rfl rfl (one_of HT_.out (by kernel_rfl)) (by decide) (fun K hK => ?_)
 refine Kd.R_lit_step (Kd.int .i64) _ 3 ?hg (N := 20) ?hd (xs := ([t110, t111, t112] : List Int)) (inner := [.int .i64 t110, .int .i64 t111, .int .i64 t112]) (ok := fun _ => True) (okp := fun _ => True) ?hr ?hp (fun _ hk => hk) trivial (Below.refl _ _) (Nat.le_refl _) (by simp) ?_; (case hd => rfl); (case hg => rfl); (case hr => first | (go_simp; done) | (go_simp; rfl)); (case hp => exact (Reps.one (show Kd.M (Kd.int .i64) _ _ _ t110 [.int .i64 t110] from rfl) (Reps.one (show Kd.M (Kd.int .i64) _ _ _ t111 [.int .i64 t111] from rfl) (Reps.one (show Kd.M (Kd.int .i64) _ _ _ t112 [.int .i64 t112] from rfl) (Reps.none _ _)))))
 intro v114 w11 ho12 hb hg_ hnew_
 clear hg_ hnew_
 (first | rw [← Ny113.out] at ho12 | (simp only [Int.reduceToNat] at ho12; rw [← Ny113.out] at ho12))
 have n0_ := Aside0.mk (Kd.R_lower ho12 (below_size (by repeat (first | (with_reducible first | exact HB.out | apply below_alloc | apply pw_below_drewN | apply below_drew1 | refine below_set ?_ GE108.out | refine below_set ?_ GE109.out) | exact HB.out))))
 have n1_ := Aside0.mk (blk_below (g := gb108) (o := .cells #[.int .i64 a0_0, .int .i64 a0_1, .string a0_2] 23 (0, 0)) (by (with_reducible repeat (first | refine blk_drewN ?_ _ | refine blk_drew ?_ | refine blk_alloc ?_ _)); exact BK108.out) hb)
 have n2_ := Aside0.mk (blk_below (g := gb109) (o := .cells #[.int .i64 a1_0, .int .i64 a1_1, .string a1_2] 23 (0, 0)) (by (with_reducible repeat (first | refine blk_drewN ?_ _ | refine blk_drew ?_ | refine blk_alloc ?_ _)); exact BK109.out) hb)
 have n3_ := Aside0.mk (below_step (by repeat (first | (with_reducible first | exact HB.out | apply below_alloc | apply pw_below_drewN | apply below_drew1 | refine below_set ?_ GE108.out | refine below_set ?_ GE109.out) | exact HB.out)) hb)
 clear BK108
 clear BK109
 clear HB
 have HO115 := n0_
 have BK108 := n1_
 have BK109 := n2_
 have HB := n3_
 clear n0_ n1_ n2_ n3_
 clear hb ho12
 obtain ⟨Ao13, co13, eo13⟩ := Kd.R_slice HO115.out
 (first | subst eo13 | (injection eo13 with f1_ f2_ f3_; have f4_ := f1_.symm; have f5_ := f3_.symm; clear f1_ f2_ f3_; subst f4_; subst f5_))
 refine hK.out _ _ ⟨(blk_cell BK108.out 0).trans rfl, (blk_cell BK108.out 1).trans rfl, (blk_cell BK108.out 2).trans rfl, (blk_cell BK109.out 0).trans rfl, (blk_cell BK109.out 1).trans rfl, (blk_cell BK109.out 2).trans rfl⟩ (fun hHeld => ?_)
 clear hK K
 refine norm_ (a' := ?_) ?_ ?_
 rotate_left
 ·show Act.put _ (some 20) _ = _
  simp only [Act.put, zA, zB, zC, i64_w, i32_w]
  rfl
 refine one_ (i := 16) (N := some 21) (fB 18 131071) rfl rfl (one_of HT_.out (by kernel_rfl)) (by decide) (fun K hK => ?_)
 refine goes_ Tryd.func99 (by kernel_rfl) rfl #[.slice Ao13 y113.length co13] (by rfl) rfl rfl (by (try simp only [List.map_toArray, List.map_cons, List.map_nil]); first | done | rfl | (simp only [List.length_drop, List.length_take]; rfl) | exact congrArg (fun x_ : Int => #[Value.int .u64 x_]) (show _ = _ % (18446744073709551616 : Int) by omega)) ?_
 with_reducible refine (cmp_Or_int.calls k _ _ y113 t116 _ ?side1 ?side2 A6.out).mono ?_
 (case side1 => repeat (first | exact (Kd.R_reads' HO115.out).2.2 | (with_reducible refine Kd.C_alloc ?_ _) | (with_reducible refine Kd.C_drewN ?_ _) | (with_reducible refine Kd.C_drew ?_)))
 (case side2 => exact (Kd.R_reads' HO115.out).2.1)
 rintro e w' ⟨rfl, ⟨nd, rfl⟩⟩
 refine ⟨_, rfl, ?_⟩
 refine hK.out _ _ ⟨(blk_cell BK108.out 0).trans rfl, (blk_cell BK108.out 1).trans rfl, (blk_cell BK108.out 2).trans rfl, (blk_cell BK109.out 0).trans rfl, (blk_cell BK109.out 1).trans rfl, (blk_cell BK109.out 2).trans rfl⟩ (fun hHeld => ?_)
 clear hK K
 refine norm_ (a' := ?_) ?_ ?_
 rotate_left
 ·show Act.put _ (some 21) _ = _
  simp only [Act.put, zA, zB, zC, i64_w, i32_w]
  rfl
 refine pure_ (i := 17) (N := some 4) (v := ?_) (a' := ?_) (fB 18 262143) rfl rfl (any_of HT_.out (by kernel_rfl)) (fun _ _ _ h => h) (Or.inl ⟨by rfl, by intro w'; go_simp; with_reducible rfl⟩) (by simp only [Act.put, zA, zB, zC, i64_w, i32_w]; rfl) ?_
 refine done_ (done_of HT_.out (by kernel_rfl)) ?_
 try go_wp2
 go_ret
 exact ⟨by first | rfl | (simp [errW_none, errW_some] <;> rfl) | (simp [*, errW_none, errW_some] <;> rfl), by repeat (first | (with_reducible first | exact HB.out | apply below_alloc | apply pw_below_drewN | apply below_drew1 | refine below_set ?_ GE108.out | refine below_set ?_ GE109.out) | exact HB.out)⟩
end Go.Proofs.YtopolnbffmljaaaDoor.Q
namespace Go.Proofs.YtopolnbffmljaaaDoor.Q
def c2 (x y : Int) : Int := if x < y then -1 else if x > y then 1 else 0
def cmpX (a0 a1 : Int) (a2 : ByteArray) (b0 b1 : Int) (b2 : ByteArray) : Int :=
 if c2 a0 b0 = 0 then (if c2 a1 b1 = 0 then Lib.compareBytes a2.data.toList b2.data.toList else c2 a1 b1) else c2 a0 b0
theorem rd3 (x y z : Int) : rd [x, y, z] 0 = x ∧ rd [x, y, z] 1 = y ∧ rd [x, y, z] 2 = z := ⟨rfl, rfl, rfl⟩
theorem value_Cmp_eq (a0 a1 : Int) (a2 : ByteArray) (b0 b1 : Int) (b2 : ByteArray) : value_Cmp.f 5 a0 a1 a2 b0 b1 b2 = some (cmpX a0 a1 a2 b0 b1 b2) := by
 have h1 : ∀ x y, cmp_Compare_int.f x y = some (c2 x y) := fun x y => by
  unfold cmp_Compare_int.f cmp_isNaN_int.f c2
  simp only [bne_self_eq_false, Option.bind_some]
  rw [if_neg (by simp), if_neg (by simp)]
  split
  ·rfl
  ·split <;> rfl
 have h2 : ∀ x y, cmp_Compare_int64.f x y = some (c2 x y) := fun x y => by
  unfold cmp_Compare_int64.f cmp_isNaN_int64.f c2
  simp only [bne_self_eq_false, Option.bind_some]
  rw [if_neg (by simp), if_neg (by simp)]
  split
  ·rfl
  ·split <;> rfl
 have h3 : ∀ x y z : Int, cmp_Or_int.f 5 [x, y, z] = some (if x = 0 then (if y = 0 then z else y) else x) := fun x y z => by
  have e0 : wrap64 (0 + 1) = 1 := by unfold wrap64; omega
  have e1 : wrap64 (1 + 1) = 2 := by unfold wrap64; omega
  have e2 : wrap64 (2 + 1) = 3 := by unfold wrap64; omega
  unfold cmp_Or_int.f
  simp only [cmp_Or_int.l0, (rd3 x y z).1, (rd3 x y z).2.1, (rd3 x y z).2.2, List.length_cons, List.length_nil, e0, e1, e2]
  by_cases hx : x = 0
  ·by_cases hy : y = 0
   ·by_cases hz : z = 0 <;> simp [hx, hy, hz]
   ·simp [hx, hy]
  ·simp [hx]
 unfold value_Cmp.f strings_Compare.f cmpX
 rw [h1, h2]
 simp only [Option.bind_some]
 rw [h3]
 rfl
theorem cmp_calls (a0 a1 : Int) (a2 : ByteArray) (b0 b1 : Int) (b2 : ByteArray) (w : World) :
  Calls Tryd.prog 83 #[.agg #[.int .i64 a0, .int .i64 a1, .string a2], .agg #[.int .i64 b0, .int .i64 b1, .string b2]] w fun e w' => e = .returned (.int .i64 (cmpX a0 a1 a2 b0 b1 b2)) ∧ Below w.heap.size w w' :=
 value_Cmp.calls 5 a0 a1 a2 b0 b1 b2 _ w (value_Cmp_eq a0 a1 a2 b0 b1 b2)
theorem bl_cmp : ∀ a b : List UInt8, (Op.bytesLess a b = true ↔ Lib.compareBytes a b = -1) ∧ (a = b ↔ Lib.compareBytes a b = 0) ∧ (Lib.compareBytes a b = -1 ∨ Lib.compareBytes a b = 0 ∨ Lib.compareBytes a b = 1)
 | [], [] => by simp [Op.bytesLess, Lib.compareBytes]
 | [], _ :: _ => by simp [Op.bytesLess, Lib.compareBytes]
 | _ :: _, [] => by simp [Op.bytesLess, Lib.compareBytes]
 | x :: a, y :: b => by
  obtain ⟨h1, h2, h3⟩ := bl_cmp a b
  unfold Op.bytesLess Lib.compareBytes
  by_cases hl : x < y
  ·have hne : x ≠ y := by rintro rfl; exact absurd hl (by simp)
   simp [hl, hne]
  ·by_cases hg : y < x
   ·have hne : x ≠ y := by rintro rfl; exact absurd hg (by simp)
    simp [hl, hg, hne]
   ·have heq : x = y := by
     have a1 : x.toNat = y.toNat := by
      simp only [UInt8.lt_iff_toNat_lt] at hl hg
      omega
     exact UInt8.toNat_inj.1 a1
    subst heq
    simp [hl, h1, h2, h3]
theorem cmpX_in (a0 a1 : Int) (a2 : ByteArray) (b0 b1 : Int) (b2 : ByteArray) : cmpX a0 a1 a2 b0 b1 b2 = -1 ∨ cmpX a0 a1 a2 b0 b1 b2 = 0 ∨ cmpX a0 a1 a2 b0 b1 b2 = 1 := by
 unfold cmpX
 have h : ∀ x y, c2 x y = -1 ∨ c2 x y = 0 ∨ c2 x y = 1 := fun x y => by unfold c2; split; exact .inl rfl; split; exact .inr (.inr rfl); exact .inr (.inl rfl)
 split
 ·split
  ·exact (bl_cmp _ _).2.2
  ·exact h _ _
 ·exact h _ _
theorem refCmp_eq (g : Nat) (a0 a1 : Int) (a2 : ByteArray) (b0 b1 : Int) (b2 : ByteArray) : headgateref03_Cmp.f (g + 1) a0 a1 a2 b0 b1 b2 = some (cmpX a0 a1 a2 b0 b1 b2) := by
 obtain ⟨h1, h2, h3⟩ := bl_cmp a2.data.toList b2.data.toList
 unfold headgateref03_Cmp.f cmpX
 simp only [headgateref03_Cmp.j0, Lib.toList_data]
 by_cases k0 : a0 < b0
 ·have : c2 a0 b0 = -1 := by unfold c2; rw [if_pos k0]
  simp [k0, this]
 by_cases k1 : a0 = b0
 ·subst k1
  have e0 : c2 a0 a0 = 0 := by unfold c2; rw [if_neg (by omega), if_neg (by omega)]
  by_cases k2 : a1 < b1
  ·have : c2 a1 b1 = -1 := by unfold c2; rw [if_pos k2]
   simp [k2, e0, this]
  by_cases k3 : a1 = b1
  ·subst k3
   have e1 : c2 a1 a1 = 0 := by unfold c2; rw [if_neg (by omega), if_neg (by omega)]
   simp only [e0, e1, if_true, beq_self_eq_true, Bool.true_and]
   rw [if_neg (by omega), if_neg (by omega)]
   cases hb : Op.bytesLess a2.data.toList b2.data.toList with
   | true => simp [h1.1 hb]
   | false =>
    by_cases he : a2.data.toList = b2.data.toList
    ·have := h2.1 he
     simp [he, this]
     rw [← he] at this ⊢
     simpa [he] using this.symm
    ·have hn : ¬ Lib.compareBytes a2.data.toList b2.data.toList = 0 := fun e => he (h2.2 e)
     have hm : ¬ Lib.compareBytes a2.data.toList b2.data.toList = -1 := fun e => by rw [h1.2 e] at hb; cases hb
     have : Lib.compareBytes a2.data.toList b2.data.toList = 1 := by omega
     rw [this, beq_eq_false_iff_ne.2 he]
     rfl
  ·have : c2 a1 b1 = 1 := by unfold c2; rw [if_neg k2, if_pos (by omega)]
   simp [k2, k3, e0, this]
 ·have : c2 a0 b0 = 1 := by unfold c2; rw [if_neg k0, if_pos (by omega)]
  simp [k0, k1, this]
theorem cmpX_eq (a b : Va) : cmpX a.f0 a.f1 a.f2 b.f0 b.f1 b.f2 = cmpV a b := by
 have h : ∀ x y, cmpI x y = c2 x y := fun x y => by unfold cmpI c2; rfl
 unfold cmpX cmpV
 rw [h, h]
 generalize c2 a.f0 b.f0 = x
 generalize c2 a.f1 b.f1 = y
 by_cases h0 : x = 0
 ·by_cases h1 : y = 0 <;> simp [h0, h1]
 ·simp [h0]
theorem cmpV_in (a b : Va) : cmpV a b = -1 ∨ cmpV a b = 0 ∨ cmpV a b = 1 := by
 rw [← cmpX_eq]
 exact cmpX_in _ _ _ _ _ _
theorem cmpC (a b : Va) (w : World) : Calls Tryd.prog 83 #[.agg #[.int .i64 a.f0, .int .i64 a.f1, .string a.f2], .agg #[.int .i64 b.f0, .int .i64 b.f1, .string b.f2]] w fun e w' => e = .returned (.int .i64 (cmpV a b)) ∧ Below w.heap.size w w' := by
 rw [← cmpX_eq]
 exact cmp_calls _ _ _ _ _ _ w
end Go.Proofs.YtopolnbffmljaaaDoor.Q
