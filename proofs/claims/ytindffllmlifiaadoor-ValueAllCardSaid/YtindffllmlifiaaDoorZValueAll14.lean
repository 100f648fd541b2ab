/- What a round of value.Key keeps: words for the walk of value.Key. -/
import Derived.Test.YtindffllmlifiaaDoorZValueAll12
import Derived.Test.YtindffllmlifiaaDoorZValueAll8
import Derived.Test.YtindffllmlifiaaDoorZValueAll11
import Derived.RangeFuncWrites
import Derived.RangeFuncCalls
import Derived.OrdersIn
import Derived.Test.YtindffllmlifiaaDoorZValueAll2
namespace Go.Proofs.YtindffllmlifiaaDoor.Q
open Go.RowKit Go.Shelf Go.Proofs.YtindffllmlifiaaDoorW.PrintWords Go.Proofs.YtindffllmlifiaaDoorW.PrintLast Go.Proofs.YtindffllmlifiaaDoorW.PrintMore
set_option linter.unusedVariables false
set_option linter.unusedSimpArgs false
section
variable {F : Fence} {n : Nat} {P : Program} {ops : Array Oper} {Q : Exit → Act → World → Prop} {a : Act} {w : World}
/-- A region that draws its order, within a round: one choice after another. -/
theorem region_any {id : Nat} (hm : P.follows .mixedOrders = true) {fuel : Nat} (hf : ops.size = fuel) {l : Array Bool} (hl : Array.replicate fuel false = l) (h : wpAnyIn F n P .any ops Q fuel l a w.drew) : (Code.region id ops true).wpIn F n P Q a w := by
  subst hf
  subst hl
  exact wpIn_region_any hm h
theorem any_step {md : Region.Mode} {fuel : Nat} {l : Array Bool} (is : List Nat) (hr : Region.ready md ops l = is) (hne : is ≠ [])
    (h : ∀ i ∈ is, wpOpIn F n P ops Q i (wpAnyIn F n P md ops Q fuel (l.setIfInBounds i true)) a w) : wpAnyIn F n P md ops Q (fuel + 1) l a w := by
  unfold wpAnyIn
  rw [hr]
  exact ⟨fun e => absurd e hne, h⟩
theorem any_done {md : Region.Mode} {l : Array Bool} (hr : Region.ready md ops l = []) (h : Q .normal a w) : wpAnyIn F n P md ops Q 0 l a w := by
  unfold wpAnyIn
  exact ⟨hr, h⟩
theorem op_one {i : Nat} {o : Oper} {K : Act → World → Prop} (hi : ops[i]? = some o) (h : wpListIn F n P ops (Exit.then K Q) [o] a w) : wpOpIn F n P ops Q i K a w := by
  unfold wpOpIn
  rw [hi]
  unfold wpListIn at h
  unfold wpListIn at h
  dsimp only
  by_cases hw : Region.wanted o (yielded ops a.tmps) = true
  · rw [if_pos hw] at h ⊢
    unfold Oper.wpIn at h ⊢
    refine ⟨h.1, ?_⟩
    have h2 := h.2
    revert h2
    cases (o.semAt F.round a.eval).run P w with
    | ok x w' =>
      intro h2
      cases x with
      | value v => exact h2
      | skip => exact h2
      | defer d => exact h2
      | enter f args => exact ⟨h2.1, h2.2.mono (fun e w'' he => by cases e <;> exact he)⟩
      | row r args => exact ⟨h2.1, h2.2.mono (fun e w'' he => he)⟩
      | round l f tmps assign body => exact ⟨h2.1, h2.2.mono (fun e w'' he => by cases e <;> exact he)⟩
      | _ => exact h2
    | halt x w' => intro h2; cases x <;> exact h2
  · rw [if_neg hw] at h ⊢
    exact h
end
/-- A text's bytes, each 0 as 0, 255. -/
def escB (s : ByteArray) : List Int := (escU s.data.toList).map fun b => (b.toNat : Int)
/-- A value's bytes in a key. -/
def keyV (v : Va) : List Int := [(v.f0 + 1) % 256] ++ (if v.f0 = 1 then eightB (v.f1 + 9223372036854775808) else if v.f0 = 2 then [v.f1 % 256] else if v.f0 = 3 then escB v.f2 ++ [0, 0] else [])
def keyB : List Va → List Int
  | [] => []
  | v :: l => keyV v ++ keyB l
theorem keyB_append (a b : List Va) : keyB (a ++ b) = keyB a ++ keyB b := by
  induction a with
  | nil => rfl
  | cons v l ih => simp only [List.cons_append, keyB, ih, List.append_assoc]
theorem keyB_snoc (a : List Va) (v : Va) : keyB (a ++ [v]) = keyB a ++ keyV v := by rw [keyB_append]; simp [keyB]
theorem keyV_len (v : Va) : (keyV v).length ≤ 2 * v.f2.size + 10 := by
  unfold keyV
  have h1 : (eightB (v.f1 + 9223372036854775808)).length = 8 := rfl
  have h2 := escU_len v.f2.data.toList
  have h3 : v.f2.data.toList.count 0 ≤ v.f2.data.toList.length := List.count_le_length
  rw [data_length] at h2 h3
  split
  · simp only [List.length_append, List.length_cons, List.length_nil, h1]; omega
  · split
    · simp
    · split
      · unfold escB; simp only [List.length_append, List.length_cons, List.length_nil, List.length_map]; omega
      · simp
theorem keyB_len (m : Nat) : ∀ l : List Va, (∀ v ∈ l, v.f2.size ≤ m) → (keyB l).length ≤ (2 * m + 10) * l.length
  | [], _ => by simp [keyB]
  | v :: l, h => by
    have h1 := keyV_len v
    have h2 := keyB_len m l (fun x hx => h x (by simp [hx]))
    have h3 := h v (by simp)
    simp only [keyB, List.length_append, List.length_cons]
    rw [Nat.mul_add, Nat.mul_one]
    omega
/-- A step of the round: whatever lies below hi but the box at B lies as it lay; whatever is no cells too. -/
structure Stp (B hi : Nat) (W W' : World) : Prop where
  os : W'.os = W.os
  tape : W'.tape = W.tape
  output : W'.output = W.output
  block : ∀ k, k < hi → k ≠ B → W'.heap[k]? = W.heap[k]?
  keeps : KeepsOthers W W'
theorem Stp.refl (B hi : Nat) (W : World) : Stp B hi W W := ⟨rfl, rfl, rfl, fun _ _ _ => rfl, KeepsOthers.refl W⟩
theorem Stp.trans {B hi : Nat} {X Y Z : World} (h : Stp B hi X Y) (k : Stp B hi Y Z) : Stp B hi X Z :=
  ⟨k.os.trans h.os, k.tape.trans h.tape, k.output.trans h.output, fun i h1 h2 => (k.block i h1 h2).trans (h.block i h1 h2), h.keeps.trans k.keeps⟩
theorem Stp.size {B hi : Nat} {X Y : World} (h : Stp B hi X Y) : X.heap.size ≤ Y.heap.size := h.keeps.size
theorem Stp.grown {B hi : Nat} {X Y : World} {row : Option Nat} (hz : hi ≤ X.heap.size) (hg : X.grownBy Y row) (hrow : ∀ (j : Nat) (o : Obj), row = some j → hi ≤ j ∧ (X.heap[j]? = some o → o.isCells = true)) : Stp B hi X Y :=
  ⟨hg.os, hg.tape, hg.output, fun k h1 _ => hg.block k (by omega) (fun e => by have := (hrow k (.cells #[] 0) e.symm).1; omega), KeepsOthers.of_grownBy hg (fun j o e ho => (hrow j o e).2 ho)⟩
theorem Stp.alloc {B hi : Nat} (X : World) (o : Obj) (hz : hi ≤ X.heap.size) : Stp B hi X (X.alloc o) := Stp.grown hz (World.grownBy_alloc X o none) (fun j o e => by cases e)
theorem Stp.drew {B hi : Nat} (X : World) : Stp B hi X X.drew := ⟨rfl, rfl, rfl, fun _ _ _ => rfl, KeepsOthers.drew X⟩
theorem Stp.set {B hi : Nat} (X : World) (v : Value) : Stp B hi X (X.setCell ⟨B, 0, none⟩ v) :=
  ⟨rfl, rfl, rfl, fun k h1 h2 => Below.heap_setCell _ _ _ _ h2, KeepsOthers.setCell _ _ _⟩
theorem Stp.below {B hi : Nat} {X Y : World} (hz : hi ≤ X.heap.size) (h : Below X.heap.size X Y) : Stp B hi X Y :=
  ⟨h.os, h.tape, h.output, fun k h1 _ => h.block k (by omega), ⟨h.size, fun k o hk _ => (h.block k (Array.getElem?_eq_some_iff.1 hk).1).trans hk⟩⟩
theorem Stp.belowK {B hi : Nat} {X Y : World} (h : Below hi X Y) (hk : KeepsOthers X Y) : Stp B hi X Y := ⟨h.os, h.tape, h.output, fun k h1 _ => h.block k h1, hk⟩
theorem Stp.under {B hi n : Nat} {w X Y : World} (h : Stp B hi X Y) (hb : Below n w X) (h1 : n ≤ B) (h2 : B < hi) : Below n w Y :=
  ⟨h.os.trans hb.os, h.tape.trans hb.tape, h.output.trans hb.output, Nat.le_trans hb.size h.size, fun k hk => (h.block k (by omega) (by omega)).trans (hb.block k hk)⟩
/-- The box at B holds bytes that lie at hi or above. -/
def BR (B hi : Nat) (W : World) (v : Value) (xs : List Int) : Prop := Boxed W B 52 v ∧ RB W hi 5 v xs
theorem BR.bel {B hi : Nat} {W W' : World} {v : Value} {xs : List Int} (h : BR B hi W v xs) (hb : Below W.heap.size W W') : BR B hi W' v xs := ⟨(hb.block B h.1.lt).trans h.1, h.2.below hb⟩
theorem BR.alloc {B hi : Nat} {W : World} {v : Value} {xs : List Int} (h : BR B hi W v xs) (o : Obj) : BR B hi (W.alloc o) v xs := ⟨h.1.alloc o, h.2.alloc o⟩
theorem RB.set {B hi : Nat} {W : World} {e : TypeId} {v : Value} {xs : List Int} (h : RB W hi e v xs) (hlt : B < hi) (u : Value) : RB (W.setCell ⟨B, 0, none⟩ u) hi e v xs :=
  RB.of_R (Kd.R_far (p := ⟨B, 0, none⟩) (Kd.R_bound h.R) (fun k hk => by have := hk.2.1; show k ≠ B; omega) u)
theorem BR.store {B hi : Nat} {W : World} {u v' : Value} {ys : List Int} (hB : Boxed W B 52 u) (hr : RB W hi 5 v' ys) (hlt : B < hi) : BR B hi (W.setCell ⟨B, 0, none⟩ v') v' ys := ⟨hB.set v', hr.set hlt v'⟩
/-- The loop's own value in its box. -/
def Vx (W : World) (Bv : Nat) (v : Va) : Prop := W.heap[Bv]? = some (.cells #[.int .i64 v.f0, .int .i64 v.f1, .string v.f2] 23 (0, 0))
theorem Vx.c0 {W : World} {Bv : Nat} {v : Va} (h : Vx W Bv v) : W.cell? ⟨Bv, 0, none⟩ = some (.int .i64 v.f0) := (blk_cell h 0).trans rfl
theorem Vx.c1 {W : World} {Bv : Nat} {v : Va} (h : Vx W Bv v) : W.cell? ⟨Bv, 1, none⟩ = some (.int .i64 v.f1) := (blk_cell h 1).trans rfl
theorem Vx.c2 {W : World} {Bv : Nat} {v : Va} (h : Vx W Bv v) : W.cell? ⟨Bv, 2, none⟩ = some (.string v.f2) := (blk_cell h 2).trans rfl
theorem Vx.lt {W : World} {Bv : Nat} {v : Va} (h : Vx W Bv v) : Bv < W.heap.size := (Array.getElem?_eq_some_iff.1 h).1
theorem Vx.grown {W W' : World} {Bv hi : Nat} {v : Va} {u : Value} {xs : List Int} (h : Vx W Bv v) (hr : RB W hi 5 u xs) (hg : W.grownBy W' u.ownBlock) : Vx W' Bv v := (hg.block Bv h.lt (Kd.R_ne hr.R h (by decide))).trans h
theorem Vx.set {W : World} {Bv B : Nat} {v : Va} (h : Vx W Bv v) (hne : Bv ≠ B) (u : Value) : Vx (W.setCell ⟨B, 0, none⟩ u) Bv v := (Below.heap_setCell _ _ _ _ hne).trans h
theorem Vx.bel {W W' : World} {Bv : Nat} {v : Va} (h : Vx W Bv v) (hb : Below W.heap.size W W') : Vx W' Bv v := (hb.block Bv h.lt).trans h
theorem Vx.alloc {W : World} {Bv : Nat} {v : Va} (h : Vx W Bv v) (o : Obj) : Vx (W.alloc o) Bv v := ((World.grownBy_alloc W o none).block Bv h.lt (by simp)).trans h
theorem key_step {B hi Bv : Nat} {W V1 : World} {v v1 : Value} {xs ys : List Int} {y : Va} (hBR : BR B hi W v xs) (hvx : Vx W Bv y) (hz : hi ≤ W.heap.size) (hlt : B < hi) (hne : Bv ≠ B) (ho : RB V1 hi 5 v1 (xs ++ ys)) (hg : (W.alloc (.cells (nums .u8 ys).toArray 5)).grownBy V1 v.ownBlock) :
    Boxed V1 B 52 v ∧ Stp B hi W (V1.setCell ⟨B, 0, none⟩ v1) ∧ BR B hi (V1.setCell ⟨B, 0, none⟩ v1) v1 (xs ++ ys) ∧ Vx (V1.setCell ⟨B, 0, none⟩ v1) Bv y ∧ hi ≤ (V1.setCell ⟨B, 0, none⟩ v1).heap.size := by
  have hb : Boxed V1 B 52 v := (hBR.1.alloc _).kept hg (fun e => by have := own_base hBR.2 B e.symm; omega)
  have hs : Stp B hi W V1 := (Stp.alloc W _ hz).trans (Stp.grown (by rw [World.size_alloc]; omega) hg (fun j o e => ⟨own_base hBR.2 j e, fun ho => by
    obtain ⟨cells, hc⟩ := own_typed (hBR.2.alloc _) j e
    rw [hc] at ho
    cases ho
    rfl⟩))
  have hs2 := hs.trans (Stp.set V1 v1)
  exact ⟨hb, hs2, BR.store hb ho hlt, ((hvx.alloc _).grown (hBR.2.alloc _) hg).set hne v1, Nat.le_trans hz hs2.size⟩
end Go.Proofs.YtindffllmlifiaaDoor.Q
/- value.Key: walked: a right row's key. -/
namespace Go.Proofs.YtindffllmlifiaaDoor.Q
open Go.RowKit Go.Shelf Go.Proofs.YtindffllmlifiaaDoorW.PrintWords Go.Proofs.YtindffllmlifiaaDoorW.PrintLast Go.Proofs.YtindffllmlifiaaDoorW.PrintMore
set_option linter.unusedVariables false
set_option linter.unusedSimpArgs false
attribute [local go_sem] Oper.semAt_some wide_fn
/-- A place and a value as a right row has them. -/
def okIV (x : Nat × Va) : Prop := x.2.f2.size ≤ 200 ∧ in64 x.2.f1
theorem xor63 (a : Nat) (h : a < 18446744073709551616) : a ^^^ 9223372036854775808 = if a < 9223372036854775808 then a + 9223372036854775808 else a - 9223372036854775808 := by
  have h1 : (a ^^^ 2 ^ 63) % 2 ^ 63 = (a % 2 ^ 63) ^^^ (2 ^ 63 % 2 ^ 63) := Nat.xor_mod_two_pow
  have h2 : (a ^^^ 2 ^ 63) / 2 ^ 63 = (a / 2 ^ 63) ^^^ (2 ^ 63 / 2 ^ 63) := Nat.xor_div_two_pow
  have e : (2 : Nat) ^ 63 = 9223372036854775808 := by decide
  rw [e] at h1 h2
  simp only [Nat.mod_self, Nat.xor_zero, Nat.div_self (show 0 < 9223372036854775808 by decide)] at h1 h2
  have hq : a / 9223372036854775808 = 0 ∨ a / 9223372036854775808 = 1 := by omega
  rcases hq with hq | hq
  · rw [hq] at h2
    have : (0 : Nat) ^^^ 1 = 1 := by decide
    rw [this] at h2
    rw [if_pos (by omega)]
    omega
  · rw [hq] at h2
    have : (1 : Nat) ^^^ 1 = 0 := by decide
    rw [this] at h2
    rw [if_neg (by omega)]
    omega
theorem xor_top (n : Int) (h : in64 n) : bits .xor .u64 (IntKind.u64.wrap n) 9223372036854775808 = n + 9223372036854775808 := by
  unfold in64 at h
  obtain ⟨a, ha⟩ : ∃ a : Nat, IntKind.u64.wrap n = (a : Int) := ⟨(IntKind.u64.wrap n).toNat, by rw [wrapu]; omega⟩
  have ha2 : (a : Int) = n % 18446744073709551616 := by rw [← ha, wrapu]
  rw [ha, show (9223372036854775808 : Int) = ((9223372036854775808 : Nat) : Int) from rfl, u64_xor_nat a 9223372036854775808 (by omega) (by omega), xor63 a (by omega)]
  split <;> omega
theorem esc_bytes (s : ByteArray) : bytesOf ⟨(escU s.data.toList).toArray⟩ = escB s := by
  unfold bytesOf escB
  rfl
theorem esc_size (s : ByteArray) : (⟨(escU s.data.toList).toArray⟩ : ByteArray).size ≤ 2 * s.size := by
  rw [← bytesOf_length, esc_bytes]
  unfold escB
  rw [List.length_map, escU_len, data_length]
  have : s.data.toList.count 0 ≤ s.data.toList.length := List.count_le_length
  rw [data_length] at this
  omega
set_option maxHeartbeats 8000000 in
set_option maxRecDepth 100000 in
theorem Key_in (A : Option Addr) (c : Nat) (l : List Va) (hlen : l.length ≤ 12) (hgood : ∀ v ∈ l, v.f2.size ≤ 200 ∧ in64 v.f1) (w : World) (hC : Kd.C k23 w A l.length l) (hc : l.length ≤ c) (K : Nat) (hrow : value_Row.f K l = some true) :
    CallsIn Fence.wide 9 Tryd.prog 16 #[.slice A l.length c] w fun e w' => e = .returned (.tuple #[.string (strOfNums (keyB l)), .int .i64 0]) ∧ Below w.heap.size w w' := by
  have hn1 : 1 ≤ 9 := by omega
  have hro : CallsIn Fence.wide (9 - 1) Tryd.prog 13 #[.slice A l.length c] w fun e w' => e = .returned (.bool true) ∧ Below w.heap.size w w' := callsIn_wide.2 (value_Row.calls K A c l true w hC hc hrow)
  have hall : ∀ x ∈ allOf l, okIV x := by
    intro x hx
    obtain ⟨i, hi, rfl⟩ := List.mem_map.1 hx
    have hil : i < l.length := List.mem_range.1 hi
    have e : rd_T23 l (i : Int) = l[i] := by
      unfold rd_T23
      rw [Int.toNat_natCast, List.getD_eq_getElem?_getD, List.getElem?_eq_getElem hil]
      rfl
    show okIV (i, rd_T23 l (i : Int))
    rw [e]
    exact hgood _ (List.getElem_mem hil)
  obtain ⟨ws, hws⟩ : ∃ ws : List { x : Nat × Va // okIV x }, ws.map (·.1) = allOf l := ⟨(allOf l).attach.map (fun x => ⟨x.1, hall x.1 x.2⟩), by rw [List.map_map]; exact List.attach_map_subtype_val (allOf l)⟩
  have hwl : ws.length = l.length := by rw [← List.length_map (f := (·.1)), hws, allOf_length]
  have hkw : keyB (ws.map (·.1.2)) = keyB l := by
    have e1 : ws.map (·.1.2) = (ws.map (·.1)).map (·.2) := by rw [List.map_map]; rfl
    rw [e1, hws]
    congr 1
    apply List.ext_getElem (by simp [allOf])
    intro i h1 h2
    simp [allOf, rd_T23, List.getD_eq_getElem?_getD, List.getElem?_eq_getElem h2]
  refine callsIn_of_wp_marks Tryd.func16 rfl trivial ?_ rfl
  simp only [Tryd.ntmps16, List.size_toArray, List.length_cons, List.length_nil, Nat.reduceAdd, Nat.reduceSub, Array.replicate_succ, Array.replicate_zero, List.push_toArray, List.append_toArray, List.nil_append, List.cons_append]
  gi_wp2_with (first
    | (gi_at_call 13; refine hro.mono ?_; rintro e w1 ⟨rfl, hb1⟩)
    | (gi_at_call 22; refine (callsIn_wide.2 (All_calls A c l (by omega) _ (Kd.C_alloc (Kd.C_below hC hb1) _))).mono ?_; rintro e w3 ⟨Bx, A', c', rfl, hBx, hbox, hrow3, hb3⟩))
  have hsz2 : (w1.alloc (.cells #[.slice none 0 0] 52)).heap.size = w1.heap.size + 1 := by rw [World.size_alloc]
  rw [hsz2] at hBx hrow3 hb3
  have hB4 : w1.heap.size < w3.heap.size := by have := hb3.size; rw [hsz2] at this; omega
  have hnB : w.heap.size ≤ w1.heap.size := hb1.size
  have hbox4 : Boxed w3 w1.heap.size 52 (.slice none 0 0) := (hb3.block w1.heap.size (by omega)).trans (Boxed.new w1 52 (.slice none 0 0))
  have hBel3 : Below w.heap.size w w3 := (hb1.trans (((Below.refl _ w1).alloc hnB _))).trans (hb3.mono (by omega))
  have hr3 := Kd.R_reads' hrow3
  obtain ⟨g, hg1, hg2, hgA⟩ : ∃ g, w1.heap.size + 1 ≤ g ∧ g < w3.heap.size ∧ ∀ ad, A' = some ad → ad.block = g := by
    cases A' with
    | none => exact ⟨Bx, hBx, hbox.lt, fun ad e => by cases e⟩
    | some ad =>
      obtain ⟨inner, ho⟩ := Kd.R_own hrow3
      rcases ho.2 with ⟨e, _⟩ | ⟨g, cap, cur, e, hbg, hgc, _⟩
      · cases e
      · have e' : (Value.slice (some ad) l.length c') = .slice (some ⟨g, 0, none⟩) l.length cap := e
        injection e' with e1
        injection e1 with e1
        subst e1
        exact ⟨g, hbg, (Array.getElem?_eq_some_iff.1 hgc).1, fun ad e => by cases e; rfl⟩
  refine wpIn_rangeFunc_ownH rfl hn1 (gf := 34) (lb := #[.pointer (some ⟨Bx, 0, none⟩)]) rfl trivial (enters_of Tryd.func34 (by kernel_rfl) rfl)
    (all1_stops (β := { x : Nat × Va // okIV x }) (·.1) ws (9 - 1) (by omega) Bx g A' c' l w3 hr3.2.2 hgA (by omega) hws hbox.lt (fun W W' => W.heap.size ≤ W'.heap.size ∧ ∀ k, w1.heap.size < k → k < w3.heap.size → W'.heap[k]? = W.heap[k]?) (fun h => h.2 g (by omega) hg2) hbox.cell hg2)
    (fun h k => ⟨Nat.le_trans h.1 k.1, fun i h1 h2 => (k.2 i h1 h2).trans (h.2 i h1 h2)⟩)
    (fun W lp o o' hl _ _ _ => ⟨by simp, fun k h1 h2 => World.putObj_heap_other (by omega)⟩)
    (Below.refl _ _) (fun _ => rfl)
    (fun (pre : List { x : Nat × Va // okIV x }) W => (∃ v, Boxed W w1.heap.size 52 v ∧ W.ownsRow w3.heap.size 5 1 v (keyB (pre.map (·.1.2))).length (nums .u8 (keyB (pre.map (·.1.2)))) ∧ True) ∧ (Below w.heap.size w W ∧ w3.heap.size ≤ W.heap.size))
    (fun _ _ _ => False)
    (OwnFrom.and (Own.from (holdsRow_own w3.heap.size w1.heap.size 52 5 1 (fun pre : List { x : Nat × Va // okIV x } => (keyB (pre.map (·.1.2))).length) (fun pre => nums .u8 (keyB (pre.map (·.1.2)))) (fun pre v => True)) _) (OwnFrom.and (ownFrom_below (Nat.le_refl _) (by omega)) (fun s X Y row hs hg hr => Nat.le_trans hs hg.size)))
    (fun _ _ _ _ _ hs _ _ => hs)
    ⟨⟨_, hbox4, World.ownsRow_nil _ _ _ _, trivial⟩, hBel3, Nat.le_refl _⟩
    (fun x a' W => ∃ Bv, w3.heap.size ≤ Bv ∧ Vx W Bv x.1.2 ∧ a' = { tmps := #[.slice A l.length c, undef, .string ⟨#[]⟩, .int .i64 0, .pointer (some ⟨w1.heap.size, 0, none⟩), undef, .pointer (some ⟨Bv, 0, none⟩), .slice A l.length c, .bool true, .bool false, .slice A l.length c, .func (.func 34) #[] #[.pointer (some ⟨Bx, 0, none⟩)], .int .i64 (x.1.1 : Int), .agg #[.int .i64 x.1.2.f0, .int .i64 x.1.2.f1, .string x.1.2.f2], undef, undef, undef, undef, undef, undef, undef, undef, undef, undef, undef, undef, undef, undef, undef, undef, undef, undef, undef, undef, undef, undef, undef, undef, undef, undef, undef, undef, undef, undef, undef, undef, undef, undef, undef, undef, undef], defers := [] })
    (fun x a' s X Y row ⟨Bv, h1, h2, h3⟩ hg hr => ⟨Bv, h1, (hg.block Bv h2.lt (fun e => by obtain ⟨_, o, ho, hc⟩ := hr Bv e.symm; rw [show X.heap[Bv]? = _ from h2] at ho; cases ho; cases hc)).trans h2, h3⟩) ?assign ?body ?done ?stop
  case assign =>
    rintro lp pre x W K ⟨⟨v, hv, hown, _⟩, hBl, hz⟩ hK
    simp only [encIV]
    gi_wp2
    exact hK _ _ ((KeepsOthers.alloc _ _).from _) ⟨by simp, fun k h1 h2 => (World.grownBy_alloc W _ none).block k (by omega) (by simp)⟩ ⟨⟨v, hv.alloc _, hown.alloc _, trivial⟩, hBl.alloc (Nat.le_trans (by omega) hz) _, by rw [World.size_alloc]; omega⟩ ⟨W.heap.size, hz, blk_new W _, rfl⟩
  case body =>
    rintro lp pre x a' W hlp hrec ⟨⟨v, hv, hown, _⟩, hBl, hz⟩ ⟨Bv, hBv, hvx, rfl⟩ hlt
    have hBR : BR w1.heap.size w3.heap.size W v (keyB (pre.map (·.1.2))) := ⟨hv, hown⟩
    have hpl : (keyB (pre.map (·.1.2))).length ≤ 410 * 12 := by
      have h1 := keyB_len 200 (pre.map (·.1.2)) (fun u hu => by obtain ⟨y, _, rfl⟩ := List.mem_map.1 hu; exact y.2.1)
      rw [List.length_map] at h1
      exact Nat.le_trans h1 (Nat.mul_le_mul_left _ (by omega))
    have hxs := x.2.1
    have hxi := x.2.2
    have hfin : ∀ (u : Value) (W' : World), Stp w1.heap.size w3.heap.size W W' → BR w1.heap.size w3.heap.size W' u (keyB ((pre ++ [x]).map (·.1.2))) →
        KeepsFrom w3.heap.size W W' ∧ (W.heap.size ≤ W'.heap.size ∧ ∀ k, w1.heap.size < k → k < w3.heap.size → W'.heap[k]? = W.heap[k]?) ∧ (∃ v, Boxed W' w1.heap.size 52 v ∧ W'.ownsRow w3.heap.size 5 1 v (keyB ((pre ++ [x]).map (·.1.2))).length (nums .u8 (keyB ((pre ++ [x]).map (·.1.2))))) ∧ (Below w.heap.size w W' ∧ w3.heap.size ≤ W'.heap.size) :=
      fun u W' hs hr => ⟨hs.keeps.from _, ⟨hs.size, fun k h1 h2 => hs.block k h2 (by omega)⟩, ⟨u, hr.1, hr.2⟩, hs.under hBl hnB hB4, Nat.le_trans hz hs.size⟩
    have hfinT : ∀ (u : Value) (W' : World), Stp w1.heap.size w3.heap.size W W' → BR w1.heap.size w3.heap.size W' u (keyB ((pre ++ [x]).map (·.1.2))) →
        KeepsFrom w3.heap.size W W' ∧ (W.heap.size ≤ W'.heap.size ∧ ∀ k, w1.heap.size < k → k < w3.heap.size → W'.heap[k]? = W.heap[k]?) ∧ (∃ v, Boxed W' w1.heap.size 52 v ∧ W'.ownsRow w3.heap.size 5 1 v (keyB ((pre ++ [x]).map (·.1.2))).length (nums .u8 (keyB ((pre ++ [x]).map (·.1.2)))) ∧ True) ∧ (Below w.heap.size w W' ∧ w3.heap.size ≤ W'.heap.size) :=
      fun u W' hs hr => ⟨hs.keeps.from _, ⟨hs.size, fun k h1 h2 => hs.block k h2 (by omega)⟩, ⟨u, hr.1, hr.2, trivial⟩, hs.under hBl hnB hB4, Nat.le_trans hz hs.size⟩
    have hks : keyB ((pre ++ [x]).map (·.1.2)) = keyB (pre.map (·.1.2)) ++ keyV x.1.2 := by rw [List.map_append, List.map_cons, List.map_nil, keyB_snoc]
    have HF := Aside0.mk hfin
    have HT := Aside0.mk hfinT
    have HKS := Aside0.mk hks
    clear hfin hfinT hks
    obtain ⟨xs, hxs⟩ : ∃ xs, keyB (pre.map (·.1.2)) = xs := ⟨_, rfl⟩
    obtain ⟨y, hy⟩ : ∃ y, x.1.2 = y := ⟨_, rfl⟩
    rw [hxs] at hBR hpl HKS
    rw [hy] at hvx hxi HKS
    have hys : y.f2.size ≤ 200 := by rw [← hy]; exact x.2.1
    have hcell := hv.cell
    have hfro := hv.frozen
    have q0 := hvx.c0
    have q1 := hvx.c1
    have q2 := hvx.c2
    have hne : Bv ≠ w1.heap.size := by omega
    obtain ⟨k0, k1, k2⟩ := y
    simp only at hxi hys q0 q1 q2
    by_cases h1 : k0 = 1
    · subst h1
      have hkv : xs ++ keyV (⟨1, k1, k2⟩ : Va) = xs ++ [2] ++ eightB (k1 + 9223372036854775808) := by rw [List.append_assoc]; rfl
      rw [hkv] at HKS
      clear hkv
      gi_wp2_with (gi_at_builtin; refine wpIn_append_byte W w3.heap.size _ (by first | rfl | simp) rfl (.tmp 14) (.tmp 19) 52 5 rfl Tryd.underlying52 infoU8e v xs [2] rfl hBR.2 rfl (by simp only [List.length_cons, List.length_nil]; omega) hz ?_; intro v1 V1 ho1 hg1; obtain ⟨A1, c1, rfl⟩ := ho1.slice; obtain ⟨L1, hL1⟩ : ∃ L, (xs ++ [2]).length = L := ⟨_, rfl⟩; rw [hL1] at ho1 ⊢; obtain ⟨b1, s1, r1, x1, z1⟩ := key_step hBR hvx hz hB4 hne ho1 hg1; have e1 := b1.cell; have f1 := b1.frozen; have m1 := r1.1.cell; have n1 := r1.1.frozen; have p1 := x1.c0; have p1' := x1.c1; have p1'' := x1.c2; clear hg1 ho1)
      rw [xor_top k1 hxi]
      refine (CallsIn.inRound lp (callsIn_wide.2 (eight_walk _ (xs ++ [2]) (k1 + 9223372036854775808) (by unfold in64 at hxi; omega) (by unfold in64 at hxi; omega) w3.heap.size _ r1.2 z1 (by rw [hL1]; rw [List.length_append] at hL1; simp only [List.length_cons, List.length_nil] at hL1; omega)))).mono ?_
      rintro e V2 ⟨v2, rfl, ho2, hb2, hk2⟩
      obtain ⟨A2, c2, rfl⟩ := ho2.slice
      obtain ⟨L2, hL2⟩ : ∃ L, (xs ++ [2] ++ eightB (k1 + 9223372036854775808)).length = L := ⟨_, rfl⟩
      rw [hL2] at ho2 ⊢
      have b2 : Boxed V2 w1.heap.size 52 _ := (hb2.block _ hB4).trans r1.1
      have e2 := b2.cell
      have f2 := b2.frozen
      have r2 := BR.store b2 ho2 hB4
      have s2 := (s1.trans (Stp.belowK hb2 hk2)).trans (Stp.set V2 (.slice A2 L2 c2))
      clear hk2
      gi_wp2
      first | exact HF.out _ _ s2 (by rw [HKS.out]; exact r2) | exact HT.out _ _ s2 (by rw [HKS.out]; exact r2)
    · by_cases h2 : k0 = 2
      · subst h2
        have hkv : xs ++ keyV (⟨2, k1, k2⟩ : Va) = xs ++ [3] ++ [k1 % 256] := by rw [List.append_assoc]; rfl
        rw [hkv] at HKS
        clear hkv
        gi_wp2_with (first
          | (gi_at_builtin; refine wpIn_append_byte W w3.heap.size _ (by first | rfl | simp) rfl (.tmp 14) (.tmp 19) 52 5 rfl Tryd.underlying52 infoU8e v xs [3] rfl hBR.2 rfl (by simp only [List.length_cons, List.length_nil]; omega) hz ?_; intro v1 V1 ho1 hg1; obtain ⟨A1, c1, rfl⟩ := ho1.slice; obtain ⟨L1, hL1⟩ : ∃ L, (xs ++ [3]).length = L := ⟨_, rfl⟩; rw [hL1] at ho1 ⊢; obtain ⟨b1, s1, r1, x1, z1⟩ := key_step hBR hvx hz hB4 hne ho1 hg1; have e1 := b1.cell; have f1 := b1.frozen; have m1 := r1.1.cell; have n1 := r1.1.frozen; have p1 := x1.c0; have p1' := x1.c1; have p1'' := x1.c2; clear hg1 ho1)
          | (gi_at_builtin; refine wpIn_append_byte (V1.setCell ⟨w1.heap.size, 0, none⟩ (.slice A1 L1 c1)) w3.heap.size _ (by first | rfl | simp) rfl (.tmp 33) (.tmp 37) 52 5 rfl Tryd.underlying52 infoU8e (.slice A1 L1 c1) (xs ++ [3]) [k1 % 256] rfl r1.2 rfl (by rw [hL1]; rw [List.length_append] at hL1; simp only [List.length_cons, List.length_nil] at hL1 ⊢; omega) z1 ?_; intro v2 V2 ho2 hg2; obtain ⟨A2, c2, rfl⟩ := ho2.slice; obtain ⟨L2, hL2⟩ : ∃ L, ((xs ++ [3]) ++ [k1 % 256]).length = L := ⟨_, rfl⟩; rw [hL2] at ho2 ⊢; obtain ⟨b2, s2, r2, x2, z2⟩ := key_step r1 x1 z1 hB4 hne ho2 hg2; have e2 := b2.cell; have f2 := b2.frozen; have m2 := r2.1.cell; have n2 := r2.1.frozen; have p2 := x2.c0; have p2' := x2.c1; have p2'' := x2.c2; clear hg2 ho2))
        first | exact HF.out _ _ (s1.trans s2) (by rw [HKS.out]; exact r2) | exact HT.out _ _ (s1.trans s2) (by rw [HKS.out]; exact r2)
      · by_cases h3 : k0 = 3
        · subst h3
          have hkv : xs ++ keyV (⟨3, k1, k2⟩ : Va) = xs ++ [4] ++ escB k2 ++ [0, 0] := by rw [List.append_assoc, List.append_assoc]; rfl
          rw [hkv] at HKS
          clear hkv
          gi_wp2_with (gi_at_builtin; refine wpIn_append_byte W w3.heap.size _ (by first | rfl | simp) rfl (.tmp 14) (.tmp 19) 52 5 rfl Tryd.underlying52 infoU8e v xs [4] rfl hBR.2 rfl (by simp only [List.length_cons, List.length_nil]; omega) hz ?_; intro v1 V1 ho1 hg1; obtain ⟨A1, c1, rfl⟩ := ho1.slice; obtain ⟨L1, hL1⟩ : ∃ L, (xs ++ [4]).length = L := ⟨_, rfl⟩; rw [hL1] at ho1 ⊢; obtain ⟨b1, s1, r1, x1, z1⟩ := key_step hBR hvx hz hB4 hne ho1 hg1; have e1 := b1.cell; have f1 := b1.frozen; have m1 := r1.1.cell; have n1 := r1.1.frozen; have p1 := x1.c0; have p1' := x1.c1; have p1'' := x1.c2; clear hg1 ho1)
          refine region_any (fuel := 6) (l := #[false, false, false, false, false, false]) (by kernel_rfl) rfl rfl ?_
          refine any_step [0, 1] (by kernel_rfl) (by decide) (fun i hi => ?_)
          simp only [List.mem_cons, List.not_mem_nil, or_false] at hi
          rcases hi with rfl | rfl
          · skip
            refine op_one (i := 0) rfl ?_
            gi_wp2
            refine any_step [1] (by kernel_rfl) (by decide) (fun i hi => ?_)
            obtain rfl := List.mem_singleton.1 hi
            clear hi
            refine op_one (i := 1) rfl ?_
            gi_wp2
            refine any_step [2] (by kernel_rfl) (by decide) (fun i hi => ?_)
            obtain rfl := List.mem_singleton.1 hi
            clear hi
            refine op_one (i := 2) rfl ?_
            gi_wp2
            refine any_step [3] (by kernel_rfl) (by decide) (fun i hi => ?_)
            obtain rfl := List.mem_singleton.1 hi
            clear hi
            refine op_one (i := 3) rfl ?_
            gi_wp2
            refine (CallsIn.inRound lp (callsIn_wide.2 (replaceAll_calls k2 (by omega) (V1.setCell ⟨w1.heap.size, 0, none⟩ (.slice A1 L1 c1)).drew))).mono ?_
            rintro e V2 ⟨rfl, hb2⟩
            have r2 := BR.bel (show BR _ _ (V1.setCell ⟨w1.heap.size, 0, none⟩ (.slice A1 L1 c1)).drew _ _ from r1) hb2
            have e2 := r2.1.cell
            have f2 := r2.1.frozen
            have s2 := (s1.trans (Stp.drew _)).trans (Stp.below z1 hb2)
            have z2 : w3.heap.size ≤ V2.heap.size := Nat.le_trans z1 hb2.size
            clear hb2
            gi_wp2
            refine any_step [4] (by kernel_rfl) (by decide) (fun i hi => ?_)
            obtain rfl := List.mem_singleton.1 hi
            clear hi
            refine op_one (i := 4) rfl ?_
            refine wpIn_append_text V2 w3.heap.size rfl (.tmp 41) (.tmp 44) 52 9 5 rfl Tryd.underlying52 Tryd.underlying9 infoU8e (.slice A1 L1 c1) (xs ++ [4]) rfl r2.2 ⟨(escU k2.data.toList).toArray⟩ rfl (by have := esc_size k2; rw [hL1]; rw [List.length_append] at hL1; simp only [List.length_cons, List.length_nil] at hL1; omega) z2 ?_
            intro v3 V3 ho3 hg3
            obtain ⟨A3, c3, rfl⟩ := ho3.slice
            rw [esc_bytes] at ho3 ⊢
            obtain ⟨L3, hL3⟩ : ∃ L, (xs ++ [4] ++ escB k2).length = L := ⟨_, rfl⟩
            rw [hL3] at ho3 ⊢
            have b3 : Boxed V3 w1.heap.size 52 _ := r2.1.kept hg3 (fun e => by have := own_base r2.2 _ e.symm; omega)
            have e3 := b3.cell
            have f3 := b3.frozen
            have r3 := BR.store b3 ho3 hB4
            have m3 := r3.1.cell
            have n3 := r3.1.frozen
            have s3 := (s2.trans (Stp.grown z2 hg3 (fun j o e => ⟨own_base r2.2 j e, fun ho => by obtain ⟨cells, hc⟩ := own_typed r2.2 j e; rw [hc] at ho; cases ho; rfl⟩))).trans (Stp.set V3 (.slice A3 L3 c3))
            have z3 : w3.heap.size ≤ (V3.setCell ⟨w1.heap.size, 0, none⟩ (.slice A3 L3 c3)).heap.size := Nat.le_trans hz s3.size
            clear hg3 ho3
            gi_wp2
            refine any_step [5] (by kernel_rfl) (by decide) (fun i hi => ?_)
            obtain rfl := List.mem_singleton.1 hi
            clear hi
            refine op_one (i := 5) rfl ?_
            gi_wp2
            refine any_done (by kernel_rfl) ?_
            gi_wp2_with (gi_at_builtin; refine wpIn_append_byte (V3.setCell ⟨w1.heap.size, 0, none⟩ (.slice A3 L3 c3)) w3.heap.size _ (by first | rfl | simp) rfl (.tmp 46) (.tmp 47) 52 5 rfl Tryd.underlying52 infoU8e (.slice A3 L3 c3) (xs ++ [4] ++ escB k2) [0, 0] rfl r3.2 rfl (by have := esc_size k2; rw [← bytesOf_length, esc_bytes] at this; rw [hL3]; rw [List.length_append, List.length_append] at hL3; simp only [List.length_cons, List.length_nil] at hL3 ⊢; omega) z3 ?_; intro v4 V4 ho4 hg4; obtain ⟨A4, c4, rfl⟩ := ho4.slice; obtain ⟨L4, hL4⟩ : ∃ L, (xs ++ [4] ++ escB k2 ++ [0, 0]).length = L := ⟨_, rfl⟩; rw [hL4] at ho4 ⊢; have b4 : Boxed V4 w1.heap.size 52 _ := (r3.1.alloc _).kept hg4 (fun e => by have := own_base r3.2 _ e.symm; omega); have e4 := b4.cell; have f4 := b4.frozen; have r4 := BR.store b4 ho4 hB4; have s4 := ((s3.trans (Stp.alloc _ _ z3)).trans (Stp.grown (by rw [World.size_alloc]; omega) hg4 (fun j o e => ⟨own_base r3.2 j e, fun ho => by obtain ⟨cells, hc⟩ := own_typed (r3.2.alloc _) j e; rw [hc] at ho; cases ho; rfl⟩))).trans (Stp.set V4 (.slice A4 L4 c4)); clear hg4 ho4)
            first | exact HF.out _ _ s4 (by rw [HKS.out]; exact r4) | exact HT.out _ _ s4 (by rw [HKS.out]; exact r4)
          · skip
            refine op_one (i := 1) rfl ?_
            gi_wp2
            refine any_step [0, 2] (by kernel_rfl) (by decide) (fun i hi => ?_)
            simp only [List.mem_cons, List.not_mem_nil, or_false] at hi
            rcases hi with rfl | rfl
            · skip
              refine op_one (i := 0) rfl ?_
              gi_wp2
              refine any_step [2] (by kernel_rfl) (by decide) (fun i hi => ?_)
              obtain rfl := List.mem_singleton.1 hi
              clear hi
              refine op_one (i := 2) rfl ?_
              gi_wp2
              refine any_step [3] (by kernel_rfl) (by decide) (fun i hi => ?_)
              obtain rfl := List.mem_singleton.1 hi
              clear hi
              refine op_one (i := 3) rfl ?_
              gi_wp2
              refine (CallsIn.inRound lp (callsIn_wide.2 (replaceAll_calls k2 (by omega) (V1.setCell ⟨w1.heap.size, 0, none⟩ (.slice A1 L1 c1)).drew))).mono ?_
              rintro e V2 ⟨rfl, hb2⟩
              have r2 := BR.bel (show BR _ _ (V1.setCell ⟨w1.heap.size, 0, none⟩ (.slice A1 L1 c1)).drew _ _ from r1) hb2
              have e2 := r2.1.cell
              have f2 := r2.1.frozen
              have s2 := (s1.trans (Stp.drew _)).trans (Stp.below z1 hb2)
              have z2 : w3.heap.size ≤ V2.heap.size := Nat.le_trans z1 hb2.size
              clear hb2
              gi_wp2
              refine any_step [4] (by kernel_rfl) (by decide) (fun i hi => ?_)
              obtain rfl := List.mem_singleton.1 hi
              clear hi
              refine op_one (i := 4) rfl ?_
              refine wpIn_append_text V2 w3.heap.size rfl (.tmp 41) (.tmp 44) 52 9 5 rfl Tryd.underlying52 Tryd.underlying9 infoU8e (.slice A1 L1 c1) (xs ++ [4]) rfl r2.2 ⟨(escU k2.data.toList).toArray⟩ rfl (by have := esc_size k2; rw [hL1]; rw [List.length_append] at hL1; simp only [List.length_cons, List.length_nil] at hL1; omega) z2 ?_
              intro v3 V3 ho3 hg3
              obtain ⟨A3, c3, rfl⟩ := ho3.slice
              rw [esc_bytes] at ho3 ⊢
              obtain ⟨L3, hL3⟩ : ∃ L, (xs ++ [4] ++ escB k2).length = L := ⟨_, rfl⟩
              rw [hL3] at ho3 ⊢
              have b3 : Boxed V3 w1.heap.size 52 _ := r2.1.kept hg3 (fun e => by have := own_base r2.2 _ e.symm; omega)
              have e3 := b3.cell
              have f3 := b3.frozen
              have r3 := BR.store b3 ho3 hB4
              have m3 := r3.1.cell
              have n3 := r3.1.frozen
              have s3 := (s2.trans (Stp.grown z2 hg3 (fun j o e => ⟨own_base r2.2 j e, fun ho => by obtain ⟨cells, hc⟩ := own_typed r2.2 j e; rw [hc] at ho; cases ho; rfl⟩))).trans (Stp.set V3 (.slice A3 L3 c3))
              have z3 : w3.heap.size ≤ (V3.setCell ⟨w1.heap.size, 0, none⟩ (.slice A3 L3 c3)).heap.size := Nat.le_trans hz s3.size
              clear hg3 ho3
              gi_wp2
              refine any_step [5] (by kernel_rfl) (by decide) (fun i hi => ?_)
              obtain rfl := List.mem_singleton.1 hi
              clear hi
              refine op_one (i := 5) rfl ?_
              gi_wp2
              refine any_done (by kernel_rfl) ?_
              gi_wp2_with (gi_at_builtin; refine wpIn_append_byte (V3.setCell ⟨w1.heap.size, 0, none⟩ (.slice A3 L3 c3)) w3.heap.size _ (by first | rfl | simp) rfl (.tmp 46) (.tmp 47) 52 5 rfl Tryd.underlying52 infoU8e (.slice A3 L3 c3) (xs ++ [4] ++ escB k2) [0, 0] rfl r3.2 rfl (by have := esc_size k2; rw [← bytesOf_length, esc_bytes] at this; rw [hL3]; rw [List.length_append, List.length_append] at hL3; simp only [List.length_cons, List.length_nil] at hL3 ⊢; omega) z3 ?_; intro v4 V4 ho4 hg4; obtain ⟨A4, c4, rfl⟩ := ho4.slice; obtain ⟨L4, hL4⟩ : ∃ L, (xs ++ [4] ++ escB k2 ++ [0, 0]).length = L := ⟨_, rfl⟩; rw [hL4] at ho4 ⊢; have b4 : Boxed V4 w1.heap.size 52 _ := (r3.1.alloc _).kept hg4 (fun e => by have := own_base r3.2 _ e.symm; omega); have e4 := b4.cell; have f4 := b4.frozen; have r4 := BR.store b4 ho4 hB4; have s4 := ((s3.trans (Stp.alloc _ _ z3)).trans (Stp.grown (by rw [World.size_alloc]; omega) hg4 (fun j o e => ⟨own_base r3.2 j e, fun ho => by obtain ⟨cells, hc⟩ := own_typed (r3.2.alloc _) j e; rw [hc] at ho; cases ho; rfl⟩))).trans (Stp.set V4 (.slice A4 L4 c4)); clear hg4 ho4)
              first | exact HF.out _ _ s4 (by rw [HKS.out]; exact r4) | exact HT.out _ _ s4 (by rw [HKS.out]; exact r4)
            · skip
              refine op_one (i := 2) rfl ?_
              gi_wp2
              refine any_step [0, 3] (by kernel_rfl) (by decide) (fun i hi => ?_)
              simp only [List.mem_cons, List.not_mem_nil, or_false] at hi
              rcases hi with rfl | rfl
              · skip
                refine op_one (i := 0) rfl ?_
                gi_wp2
                refine any_step [3] (by kernel_rfl) (by decide) (fun i hi => ?_)
                obtain rfl := List.mem_singleton.1 hi
                clear hi
                refine op_one (i := 3) rfl ?_
                gi_wp2
                refine (CallsIn.inRound lp (callsIn_wide.2 (replaceAll_calls k2 (by omega) (V1.setCell ⟨w1.heap.size, 0, none⟩ (.slice A1 L1 c1)).drew))).mono ?_
                rintro e V2 ⟨rfl, hb2⟩
                have r2 := BR.bel (show BR _ _ (V1.setCell ⟨w1.heap.size, 0, none⟩ (.slice A1 L1 c1)).drew _ _ from r1) hb2
                have e2 := r2.1.cell
                have f2 := r2.1.frozen
                have s2 := (s1.trans (Stp.drew _)).trans (Stp.below z1 hb2)
                have z2 : w3.heap.size ≤ V2.heap.size := Nat.le_trans z1 hb2.size
                clear hb2
                gi_wp2
                refine any_step [4] (by kernel_rfl) (by decide) (fun i hi => ?_)
                obtain rfl := List.mem_singleton.1 hi
                clear hi
                refine op_one (i := 4) rfl ?_
                refine wpIn_append_text V2 w3.heap.size rfl (.tmp 41) (.tmp 44) 52 9 5 rfl Tryd.underlying52 Tryd.underlying9 infoU8e (.slice A1 L1 c1) (xs ++ [4]) rfl r2.2 ⟨(escU k2.data.toList).toArray⟩ rfl (by have := esc_size k2; rw [hL1]; rw [List.length_append] at hL1; simp only [List.length_cons, List.length_nil] at hL1; omega) z2 ?_
                intro v3 V3 ho3 hg3
                obtain ⟨A3, c3, rfl⟩ := ho3.slice
                rw [esc_bytes] at ho3 ⊢
                obtain ⟨L3, hL3⟩ : ∃ L, (xs ++ [4] ++ escB k2).length = L := ⟨_, rfl⟩
                rw [hL3] at ho3 ⊢
                have b3 : Boxed V3 w1.heap.size 52 _ := r2.1.kept hg3 (fun e => by have := own_base r2.2 _ e.symm; omega)
                have e3 := b3.cell
                have f3 := b3.frozen
                have r3 := BR.store b3 ho3 hB4
                have m3 := r3.1.cell
                have n3 := r3.1.frozen
                have s3 := (s2.trans (Stp.grown z2 hg3 (fun j o e => ⟨own_base r2.2 j e, fun ho => by obtain ⟨cells, hc⟩ := own_typed r2.2 j e; rw [hc] at ho; cases ho; rfl⟩))).trans (Stp.set V3 (.slice A3 L3 c3))
                have z3 : w3.heap.size ≤ (V3.setCell ⟨w1.heap.size, 0, none⟩ (.slice A3 L3 c3)).heap.size := Nat.le_trans hz s3.size
                clear hg3 ho3
                gi_wp2
                refine any_step [5] (by kernel_rfl) (by decide) (fun i hi => ?_)
                obtain rfl := List.mem_singleton.1 hi
                clear hi
                refine op_one (i := 5) rfl ?_
                gi_wp2
                refine any_done (by kernel_rfl) ?_
                gi_wp2_with (gi_at_builtin; refine wpIn_append_byte (V3.setCell ⟨w1.heap.size, 0, none⟩ (.slice A3 L3 c3)) w3.heap.size _ (by first | rfl | simp) rfl (.tmp 46) (.tmp 47) 52 5 rfl Tryd.underlying52 infoU8e (.slice A3 L3 c3) (xs ++ [4] ++ escB k2) [0, 0] rfl r3.2 rfl (by have := esc_size k2; rw [← bytesOf_length, esc_bytes] at this; rw [hL3]; rw [List.length_append, List.length_append] at hL3; simp only [List.length_cons, List.length_nil] at hL3 ⊢; omega) z3 ?_; intro v4 V4 ho4 hg4; obtain ⟨A4, c4, rfl⟩ := ho4.slice; obtain ⟨L4, hL4⟩ : ∃ L, (xs ++ [4] ++ escB k2 ++ [0, 0]).length = L := ⟨_, rfl⟩; rw [hL4] at ho4 ⊢; have b4 : Boxed V4 w1.heap.size 52 _ := (r3.1.alloc _).kept hg4 (fun e => by have := own_base r3.2 _ e.symm; omega); have e4 := b4.cell; have f4 := b4.frozen; have r4 := BR.store b4 ho4 hB4; have s4 := ((s3.trans (Stp.alloc _ _ z3)).trans (Stp.grown (by rw [World.size_alloc]; omega) hg4 (fun j o e => ⟨own_base r3.2 j e, fun ho => by obtain ⟨cells, hc⟩ := own_typed (r3.2.alloc _) j e; rw [hc] at ho; cases ho; rfl⟩))).trans (Stp.set V4 (.slice A4 L4 c4)); clear hg4 ho4)
                first | exact HF.out _ _ s4 (by rw [HKS.out]; exact r4) | exact HT.out _ _ s4 (by rw [HKS.out]; exact r4)
              · skip
                refine op_one (i := 3) rfl ?_
                gi_wp2
                refine (CallsIn.inRound lp (callsIn_wide.2 (replaceAll_calls k2 (by omega) (V1.setCell ⟨w1.heap.size, 0, none⟩ (.slice A1 L1 c1)).drew))).mono ?_
                rintro e V2 ⟨rfl, hb2⟩
                have r2 := BR.bel (show BR _ _ (V1.setCell ⟨w1.heap.size, 0, none⟩ (.slice A1 L1 c1)).drew _ _ from r1) hb2
                have e2 := r2.1.cell
                have f2 := r2.1.frozen
                have s2 := (s1.trans (Stp.drew _)).trans (Stp.below z1 hb2)
                have z2 : w3.heap.size ≤ V2.heap.size := Nat.le_trans z1 hb2.size
                clear hb2
                gi_wp2
                refine any_step [0] (by kernel_rfl) (by decide) (fun i hi => ?_)
                obtain rfl := List.mem_singleton.1 hi
                clear hi
                refine op_one (i := 0) rfl ?_
                gi_wp2
                refine any_step [4] (by kernel_rfl) (by decide) (fun i hi => ?_)
                obtain rfl := List.mem_singleton.1 hi
                clear hi
                refine op_one (i := 4) rfl ?_
                refine wpIn_append_text V2 w3.heap.size rfl (.tmp 41) (.tmp 44) 52 9 5 rfl Tryd.underlying52 Tryd.underlying9 infoU8e (.slice A1 L1 c1) (xs ++ [4]) rfl r2.2 ⟨(escU k2.data.toList).toArray⟩ rfl (by have := esc_size k2; rw [hL1]; rw [List.length_append] at hL1; simp only [List.length_cons, List.length_nil] at hL1; omega) z2 ?_
                intro v3 V3 ho3 hg3
                obtain ⟨A3, c3, rfl⟩ := ho3.slice
                rw [esc_bytes] at ho3 ⊢
                obtain ⟨L3, hL3⟩ : ∃ L, (xs ++ [4] ++ escB k2).length = L := ⟨_, rfl⟩
                rw [hL3] at ho3 ⊢
                have b3 : Boxed V3 w1.heap.size 52 _ := r2.1.kept hg3 (fun e => by have := own_base r2.2 _ e.symm; omega)
                have e3 := b3.cell
                have f3 := b3.frozen
                have r3 := BR.store b3 ho3 hB4
                have m3 := r3.1.cell
                have n3 := r3.1.frozen
                have s3 := (s2.trans (Stp.grown z2 hg3 (fun j o e => ⟨own_base r2.2 j e, fun ho => by obtain ⟨cells, hc⟩ := own_typed r2.2 j e; rw [hc] at ho; cases ho; rfl⟩))).trans (Stp.set V3 (.slice A3 L3 c3))
                have z3 : w3.heap.size ≤ (V3.setCell ⟨w1.heap.size, 0, none⟩ (.slice A3 L3 c3)).heap.size := Nat.le_trans hz s3.size
                clear hg3 ho3
                gi_wp2
                refine any_step [5] (by kernel_rfl) (by decide) (fun i hi => ?_)
                obtain rfl := List.mem_singleton.1 hi
                clear hi
                refine op_one (i := 5) rfl ?_
                gi_wp2
                refine any_done (by kernel_rfl) ?_
                gi_wp2_with (gi_at_builtin; refine wpIn_append_byte (V3.setCell ⟨w1.heap.size, 0, none⟩ (.slice A3 L3 c3)) w3.heap.size _ (by first | rfl | simp) rfl (.tmp 46) (.tmp 47) 52 5 rfl Tryd.underlying52 infoU8e (.slice A3 L3 c3) (xs ++ [4] ++ escB k2) [0, 0] rfl r3.2 rfl (by have := esc_size k2; rw [← bytesOf_length, esc_bytes] at this; rw [hL3]; rw [List.length_append, List.length_append] at hL3; simp only [List.length_cons, List.length_nil] at hL3 ⊢; omega) z3 ?_; intro v4 V4 ho4 hg4; obtain ⟨A4, c4, rfl⟩ := ho4.slice; obtain ⟨L4, hL4⟩ : ∃ L, (xs ++ [4] ++ escB k2 ++ [0, 0]).length = L := ⟨_, rfl⟩; rw [hL4] at ho4 ⊢; have b4 : Boxed V4 w1.heap.size 52 _ := (r3.1.alloc _).kept hg4 (fun e => by have := own_base r3.2 _ e.symm; omega); have e4 := b4.cell; have f4 := b4.frozen; have r4 := BR.store b4 ho4 hB4; have s4 := ((s3.trans (Stp.alloc _ _ z3)).trans (Stp.grown (by rw [World.size_alloc]; omega) hg4 (fun j o e => ⟨own_base r3.2 j e, fun ho => by obtain ⟨cells, hc⟩ := own_typed (r3.2.alloc _) j e; rw [hc] at ho; cases ho; rfl⟩))).trans (Stp.set V4 (.slice A4 L4 c4)); clear hg4 ho4)
                first | exact HF.out _ _ s4 (by rw [HKS.out]; exact r4) | exact HT.out _ _ s4 (by rw [HKS.out]; exact r4)
        · have hkv : keyV (⟨k0, k1, k2⟩ : Va) = [(k0 + 1) % 256] := by
            unfold keyV
            rw [if_neg h1, if_neg h2, if_neg h3]
            rfl
          rw [hkv] at HKS
          have kb1 : (k0 == 1) = false := beq_eq_false_iff_ne.2 h1
          have kb2 : (k0 == 2) = false := beq_eq_false_iff_ne.2 h2
          have kb3 : (k0 == 3) = false := beq_eq_false_iff_ne.2 h3
          clear hkv h1 h2 h3
          gi_wp2_with (gi_at_builtin; refine wpIn_append_byte W w3.heap.size _ (by first | rfl | simp) rfl (.tmp 14) (.tmp 19) 52 5 rfl Tryd.underlying52 infoU8e v xs [(k0 + 1) % 256] rfl hBR.2 rfl (by simp only [List.length_cons, List.length_nil]; omega) hz ?_; intro v1 V1 ho1 hg1; obtain ⟨A1, c1, rfl⟩ := ho1.slice; obtain ⟨L1, hL1⟩ : ∃ L, (xs ++ [(k0 + 1) % 256]).length = L := ⟨_, rfl⟩; rw [hL1] at ho1 ⊢; obtain ⟨b1, s1, r1, x1, z1⟩ := key_step hBR hvx hz hB4 hne ho1 hg1; have e1 := b1.cell; have f1 := b1.frozen; have m1 := r1.1.cell; have n1 := r1.1.frozen; have p1 := x1.c0; have p1' := x1.c1; have p1'' := x1.c2; clear hg1 ho1)
          first | exact HF.out _ _ s1 (by rw [HKS.out]; exact r1) | exact HT.out _ _ s1 (by rw [HKS.out]; exact r1)
  case done =>
    rintro D ys W hD rfl ⟨⟨v, hv, hown, _⟩, hBl, hz⟩ hK
    have hcell := hv.cell
    rw [hkw] at hown
    have hcv := own_string (P := Tryd.prog) Tryd.underlying52 Tryd.underlying5 Tryd.underlying9 hown
    gi_wp2
    refine ⟨by simp, .inl ⟨_, _, rfl, run_takeDeferred hK, ?_⟩⟩
    exact ⟨_, results_tmp2 rfl _ _ _, rfl, hBl.trans (belowK_b (w := w) (Nat.le_refl _) W D _ _ (by omega) hK rfl rfl)⟩
  case stop =>
    rintro D c pre W _ _ h _
    exact h.elim
end Go.Proofs.YtindffllmlifiaaDoor.Q
