/- Texts of the claim, put together. -/
import Derived.Test.YtopolnbffmljaaaDoorZExprWorth10
import Derived.RangeFuncBox
import Derived.Test.YtopolnbffmljaaaDoorZExprWorth6
import Derived.Test.YtopolnbffmljaaaDoorZExprWorth7
import Derived.Test.YtopolnbffmljaaaDoorZExprWorth8
import Derived.Test.YtopolnbffmljaaaDoorZExprWorth9
open Go.RowKit Go.Proofs.YtopolnbffmljaaaDoorW.PrintWords Go.Proofs.YtopolnbffmljaaaDoorW.PrintLast Go.Proofs.YtopolnbffmljaaaDoorW.PrintMore
set_option linter.unusedVariables false
set_option linter.unusedSimpArgs false
namespace Go.Proofs.YtopolnbffmljaaaDoor.Q
mutual
def goodE : Ex → Bool
 | ⟨_, nm, v, ks⟩ => decide (nm.size ≤ 1000) && decide (v.f2.size ≤ 1000) && decide (in64 v.f1) && goodL ks
def goodL : List Ex → Bool
 | [] => true
 | k :: ks => goodE k && goodL ks
end
theorem goodL_all : ∀ ks, goodL ks = ks.all goodE
 | [] => by rw [goodL]; rfl
 | k :: ks => by rw [goodL, goodL_all ks]; rfl
theorem goodE_iff (x : Ex) : goodE x = true ↔ x.f1.size ≤ 1000 ∧ x.f2.f2.size ≤ 1000 ∧ in64 x.f2.f1 ∧ ∀ k ∈ x.f3, goodE k = true := by
 cases x with
 | mk op nm v ks =>
  rw [goodE, goodL_all]
  simp only [Bool.and_eq_true, decide_eq_true_eq, List.all_eq_true, and_assoc]
theorem gb_transE {w w1 w2 : World} {row : Option Nat} (h1 : w.grownBy w1 row) (h2 : w1.grownBy w2 row) : w.grownBy w2 row := by
 obtain ⟨a1, a2, a3, a4, a5⟩ := h1
 obtain ⟨b1, b2, b3, b4, b5⟩ := h2
 exact ⟨b1.trans a1, b2.trans a2, b3.trans a3, Nat.le_trans a4 b4, fun k hk hr => (b5 k (Nat.lt_of_lt_of_le hk a4) hr).trans (a5 k hk hr)⟩
theorem drop_getD (l : List Ex) (i : Nat) (h : i < l.length) : l.drop i = l.getD i z26 :: l.drop (i + 1) := by
 rw [List.getD_eq_getElem?_getD, List.getElem?_eq_getElem h, List.drop_eq_getElem_cons h]
 rfl
set_option maxHeartbeats 4000000 in
set_option maxRecDepth 100000 in
theorem all_calls : ∀ x : Ex, goodE x = true → ∀ (p : Addr) (w : World), GlobE w → AtE w p x →
  Calls Tryd.prog 40 #[.pointer (some p)] w fun e w' => e = .returned (.bool (allE x)) ∧ Below w.heap.size w w' := by
 refine Ex.ind fun x ih hgd p w hG hp => ?_
 obtain ⟨A, c, m0, m1, m2, m3, m4, m5, hl, hC⟩ := hp.cells
 have hg := (goodE_iff x).1 hgd
 have hf := formed_calls x (by omega) p w hG hp
 rw [allE_eq]
 obtain ⟨op, nm, v, ks⟩ := x
 simp only at ih hg hf m5 hl hC ⊢
 generalize formE op nm v ks.length = F at hf ⊢
 have hkid : ∀ i, i < ks.length → ∃ ad, A = some ad ∧ ∀ W, Below w.heap.size w W → Calls Tryd.prog 40 #[.pointer (some (ad.add (i * 6)))] W fun e w' => e = .returned (.bool (allE (ks.getD i z26))) ∧ Below W.heap.size W w' := by
  intro i hi
  obtain ⟨ad, e, hat, hm⟩ := AtE.kid hC i hi
  exact ⟨ad, e, fun W hW => ih _ hm (hg.2.2.2 _ hm) _ W (hG.below hW) (hat.below hW)⟩
 have hn : ks.length ≤ 9223372036854775807 := hC.2.1
 clear ih hg hG hp m0 m1 m2 m3 m4 hl hC hgd
 have HKid := Aside0.mk hkid
 clear hkid
 cases F with
 | false =>
  go_enter Tryd.func40, Tryd.ntmps40
  go_wp2_with (go_at_call 75; refine hf.mono ?_; rintro e w1 ⟨rfl, hb1⟩; have HB1 := Aside0.mk hb1; clear hb1)
  first | exact ⟨rfl, HB1.out⟩ | (go_ret; exact ⟨rfl, HB1.out⟩)
 | true =>
  rw [Bool.true_and]
  obtain ⟨R, hR⟩ : ∃ R, ks.all allE = R := ⟨_, rfl⟩
  rw [hR]
  have HR := Aside0.mk hR
  have M5 := Aside0.mk m5
  clear hR
  go_enter Tryd.func40, Tryd.ntmps40
  go_wp2_with (go_at_call 75; refine hf.mono ?_; rintro e w1 ⟨rfl, hb1⟩; replace m5 := pw_cell_below hb1 m5; have HB1 := Aside0.mk hb1; clear hb1)
  go_loopg [12] (ks.length) (fun kq v12 wr => ∃ i : Nat, v12 = .int .i64 i ∧ Aside0 (i + kq = ks.length) ∧ Aside0 (Below w.heap.size w wr) ∧ Aside0 ((ks.drop i).all allE = R))
  case atStart => exact ⟨0, rfl, ⟨by omega⟩, HB1, HR⟩
  case round =>
   obtain ⟨i, rfl, HI, HB, HD⟩ := hrel
   clear hf
   cases gk with
   | zero =>
    have hlb : decide (i < ks.length) = false := decide_eq_false (by have := HI.out; omega)
    have hd := HD.out
    rw [List.drop_eq_nil_of_le (by have := HI.out; omega)] at hd
    have hd2 : R = true := hd.symm
    clear hd
    subst hd2
    go_wp2
    first | exact ⟨rfl, HB.out⟩ | (go_ret; exact ⟨rfl, HB.out⟩)
   | succ k1 =>
    have hi : i < ks.length := by have := HI.out; omega
    have hlb : decide (i < ks.length) = true := decide_eq_true hi
    have hi0 : decide ((0 : Int) ≤ (i : Int)) = true := decide_eq_true (by omega)
    obtain ⟨ad, rfl, hc⟩ := HKid.out i hi
    have hcw := hc wr HB.out
    have hD := HD.out
    rw [drop_getD ks i hi, List.all_cons] at hD
    have m5r := pw_cell_below HB.out M5.out
    generalize allE (ks.getD i z26) = B at hcw hD
    cases B with
    | false =>
     have hR0 : R = false := hD.symm
     subst hR0
     clear hD
     go_wp2_with (go_at_call 40; refine hcw.mono ?_; rintro e w2 ⟨rfl, hb2⟩; have HB2 := Aside0.mk (below_step HB.out hb2); clear hb2)
     first | exact ⟨rfl, HB2.out⟩ | (go_ret; exact ⟨rfl, HB2.out⟩)
    | true =>
     rw [Bool.true_and] at hD
     have HD2 := Aside0.mk hD
     clear hD
     go_wp2_with (go_at_call 40; refine hcw.mono ?_; rintro e w2 ⟨rfl, hb2⟩; have HB2 := Aside0.mk (below_step HB.out hb2); clear hb2)
     go_roundg k1
     case measure => omega
     case rel => exact ⟨i + 1, by congr 1, ⟨by have := HI.out; omega⟩, HB2, HD2⟩
theorem cntL_le : (∀ x : Ex, ∀ d n : Int, n ≤ 256 → (cntE x d n).2 ≤ 257 ∧ n ≤ (cntE x d n).2 ∧ ((cntE x d n).1 = true → (cntE x d n).2 ≤ 256)) := by
 refine Ex.ind fun x ih d n hn => ?_
 obtain ⟨op, nm, v, ks⟩ := x
 rw [cntE]
 have key : ∀ l : List Ex, (∀ k ∈ l, ∀ d n : Int, n ≤ 256 → (cntE k d n).2 ≤ 257 ∧ n ≤ (cntE k d n).2 ∧ ((cntE k d n).1 = true → (cntE k d n).2 ≤ 256)) → ∀ d m : Int, m ≤ 256 → (cntL l d m).2 ≤ 257 ∧ m ≤ (cntL l d m).2 ∧ ((cntL l d m).1 = true → (cntL l d m).2 ≤ 256) := by
  intro l
  induction l with
  | nil => intro _ d m hm; rw [cntL]; simp only; omega
  | cons k l ihl =>
   intro hk d m hm
   rw [cntL]
   have h1 := hk k List.mem_cons_self d m hm
   split
   ·rename_i ht
    have h2 := ihl (fun q hq => hk q (List.mem_cons_of_mem _ hq)) d (cntE k d m).2 (h1.2.2 ht)
    exact ⟨h2.1, by omega, h2.2.2⟩
   ·exact ⟨h1.1, h1.2.1, fun h => by cases h⟩
 split
 ·exact ⟨by simp only; omega, by simp only; omega, fun h => by cases h⟩
 ·have := key ks ih (d + 1) (n + 1) (by omega)
  exact ⟨this.1, by omega, this.2.2⟩
set_option maxHeartbeats 4000000 in
set_option maxRecDepth 100000 in
theorem count_calls : ∀ x : Ex, ∀ (d n : Int), 0 ≤ n → n ≤ 256 → 0 ≤ d → d ≤ 17 → ∀ (p : Addr) (G : Nat) (w0 w : World), AtE w0 p x → Below w0.heap.size w0 w → w0.heap.size ≤ G → Boxed w G 3 (.int .i64 n) →
  Calls Tryd.prog 39 #[.pointer (some p), .int .i64 d, .pointer (some ⟨G, 0, none⟩)] w fun e w' => e = .returned (.bool (cntE x d n).1) ∧ Boxed w' G 3 (.int .i64 (cntE x d n).2) ∧ w.grownBy w' (some G) := by
 refine Ex.ind fun x ih d n h0 h1 g0 g1 p G w0 w hp hb0 hG hbx => ?_
 obtain ⟨A, c, m0, m1, m2, m3, m4, m5, hl, hC⟩ := hp.cells
 obtain ⟨op, nm, v, ks⟩ := x
 simp only at ih m5 hl hC ⊢
 rw [cntE]
 have bc := hbx.cell
 have bf := hbx.frozen
 by_cases hbig : n + 1 > 256 ∨ d > 16
 ·rw [if_pos hbig]
  obtain ⟨Q, hQ⟩ : ∃ Q : Ending → World → Prop, Q = fun e w' => e = .returned (.bool false) ∧ Boxed w' G 3 (.int .i64 (n + 1)) ∧ w.grownBy w' (some G) := ⟨_, rfl⟩
  have hq : Q (.returned (.bool false)) (w.setCell ⟨G, 0, none⟩ (.int .i64 (n + 1))) := by
   rw [hQ]; exact ⟨rfl, hbx.set _, grownBy_setCell' w G _⟩
  show Calls Tryd.prog 39 _ w (fun e w' => e = .returned (.bool false) ∧ Boxed w' G 3 (.int .i64 (n + 1)) ∧ w.grownBy w' (some G))
  rw [← hQ]
  clear hQ ih hp hb0 hC hl
  by_cases hn : n + 1 > 256
  ·have d1 : decide (256 < n + 1) = true := decide_eq_true hn
   clear hbig hn
   go_enter Tryd.func39, Tryd.ntmps39
   go_wp2
   first | exact hq | (go_ret; exact hq)
  ·have d1 : decide (256 < n + 1) = false := decide_eq_false (by omega)
   have d2 : decide (16 < d) = true := decide_eq_true (by omega)
   clear hbig hn
   go_enter Tryd.func39, Tryd.ntmps39
   go_wp2
   first | exact hq | (go_ret; exact hq)
 ·rw [if_neg hbig]
  obtain ⟨R, hR⟩ : ∃ R, cntL ks (d + 1) (n + 1) = R := ⟨_, rfl⟩
  rw [hR]
  obtain ⟨Q, hQ⟩ : ∃ Q : Ending → World → Prop, Q = fun e w' => e = .returned (.bool R.1) ∧ Boxed w' G 3 (.int .i64 R.2) ∧ w.grownBy w' (some G) := ⟨_, rfl⟩
  have hq : ∀ w', Boxed w' G 3 (.int .i64 R.2) → w.grownBy w' (some G) → Q (.returned (.bool R.1)) w' := fun w' a b => by rw [hQ]; exact ⟨rfl, a, b⟩
  rw [← hQ]
  have hkid : ∀ i, i < ks.length → ∃ ad, A = some ad ∧ ∀ W m, Below w0.heap.size w0 W → 0 ≤ m → m ≤ 256 → Boxed W G 3 (.int .i64 m) → Calls Tryd.prog 39 #[.pointer (some (ad.add (i * 6))), .int .i64 (d + 1), .pointer (some ⟨G, 0, none⟩)] W fun e w' => e = .returned (.bool (cntE (ks.getD i z26) (d + 1) m).1) ∧ Boxed w' G 3 (.int .i64 (cntE (ks.getD i z26) (d + 1) m).2) ∧ W.grownBy w' (some G) := by
   intro i hi
   obtain ⟨ad, e, hat, hm⟩ := AtE.kid hC i hi
   exact ⟨ad, e, fun W m hW a b hbW => ih _ hm (d + 1) m a b (by omega) (by omega) _ G w0 W hat hW hG hbW⟩
  have hn : ks.length ≤ 9223372036854775807 := hC.2.1
  have hbs : Below w0.heap.size w0 (w.setCell ⟨G, 0, none⟩ (.int .i64 (n + 1))) := below_set hb0 hG
  have HBs := Aside0.mk (⟨hbs, hbx.set (.int .i64 (n + 1)), grownBy_setCell' w G (.int .i64 (n + 1))⟩ : Below w0.heap.size w0 (w.setCell ⟨G, 0, none⟩ (.int .i64 (n + 1))) ∧ Boxed (w.setCell ⟨G, 0, none⟩ (.int .i64 (n + 1))) G 3 (.int .i64 (n + 1)) ∧ w.grownBy (w.setCell ⟨G, 0, none⟩ (.int .i64 (n + 1))) (some G))
  have HQ := Aside0.mk hq
  have HKid := Aside0.mk hkid
  have M5 := Aside0.mk m5
  have HG := Aside0.mk hG
  have m5s := pw_cell_below hbs m5
  have d1 : decide (256 < n + 1) = false := decide_eq_false (by omega)
  have d2 : decide (16 < d) = false := decide_eq_false (by omega)
  have HR := Aside0.mk hR
  have HN := Aside0.mk (show 0 ≤ n + 1 ∧ n + 1 ≤ 256 by omega)
  clear ih hp hb0 hG hC hl hkid hQ hq hR hbig m0 m1 m2 m3 m4 hbs m5
  go_enter Tryd.func39, Tryd.ntmps39
  go_wp2_with fail
  go_loopg [26] (ks.length) (fun kq v26 wr => ∃ (i : Nat) (m : Int), v26 = .int .i64 i ∧ Aside0 (i + kq = ks.length) ∧ Aside0 (0 ≤ m ∧ m ≤ 256) ∧ Aside0 (Below w0.heap.size w0 wr ∧ Boxed wr G 3 (.int .i64 m) ∧ w.grownBy wr (some G)) ∧ Aside0 (cntL (ks.drop i) (d + 1) m = R))
  case atStart => exact ⟨0, n + 1, rfl, ⟨by omega⟩, HN, HBs, HR⟩
  case round =>
   obtain ⟨i, m, rfl, HI, HM, HB, HD⟩ := hrel
   clear bc bf hbx m5s
   cases gk with
   | zero =>
    have hlb : decide (i < ks.length) = false := decide_eq_false (by have := HI.out; omega)
    have hd := HD.out
    rw [List.drop_eq_nil_of_le (by have := HI.out; omega), cntL] at hd
    subst hd
    go_wp2
    first | exact HQ.out _ HB.out.2.1 HB.out.2.2 | (go_ret; exact HQ.out _ HB.out.2.1 HB.out.2.2)
   | succ k1 =>
    have hi : i < ks.length := by have := HI.out; omega
    have hlb : decide (i < ks.length) = true := decide_eq_true hi
    have hD := HD.out
    rw [drop_getD ks i hi, cntL] at hD
    obtain ⟨ad, rfl, hc⟩ := HKid.out i hi
    have hcw := hc wr m HB.out.1 HM.out.1 HM.out.2 HB.out.2.1
    have hle := cntL_le (ks.getD i z26) (d + 1) m HM.out.2
    have m5r := pw_cell_below HB.out.1 M5.out
    generalize cntE (ks.getD i z26) (d + 1) m = M at hcw hD hle
    obtain ⟨B, M⟩ := M
    simp only at hcw hD hle
    cases B with
    | false =>
     rw [if_neg Bool.false_ne_true] at hD
     subst hD
     clear hle
     go_wp2_with (go_at_call 39; refine hcw.mono ?_; rintro e w2 ⟨rfl, hb2, hg2⟩; have HB2 := Aside0.mk (HQ.out _ hb2 (gb_transE HB.out.2.2 hg2)); clear hb2 hg2)
     first | exact HB2.out | (go_ret; exact HB2.out)
    | true =>
     rw [if_pos rfl] at hD
     have HD2 := Aside0.mk hD
     have HM2 := Aside0.mk (show 0 ≤ M ∧ M ≤ 256 by have := HM.out; have := hle.2.2 rfl; omega)
     clear hD hle
     go_wp2_with (go_at_call 39; refine hcw.mono ?_; rintro e w2 ⟨rfl, hb2, hg2⟩; have HB2 := Aside0.mk (⟨HB.out.1.grown hg2 (by have := HG.out; have := HB.out.2.1.lt; omega) (fun k e => by injection e with e; have := HG.out; omega), hb2, gb_transE HB.out.2.2 hg2⟩ : Below w0.heap.size w0 w2 ∧ Boxed w2 G 3 (.int .i64 M) ∧ w.grownBy w2 (some G)); clear hb2 hg2)
     go_roundg k1
     case measure => omega
     case rel => exact ⟨i + 1, M, by congr 1, ⟨by have := HI.out; omega⟩, HM2, HB2, HD2⟩
set_option maxHeartbeats 4000000 in
set_option maxRecDepth 100000 in
theorem Check_calls (x : Ex) (hgd : goodE x = true) (A : Option Addr) (c : Nat) (hl : x.f3.length ≤ c) (w : World) (hG : GlobE w) (hC : Kd.C k26 w A x.f3.length x.f3) :
  Calls Tryd.prog 17 #[.agg #[.int .i64 x.f0, .string x.f1, .int .i64 x.f2.f0, .int .i64 x.f2.f1, .string x.f2.f2, .slice A x.f3.length c]] w fun e w' => e = .returned (.int .i64 (chkE x)) ∧ Below w.heap.size w w' := by
 have hb : Below w.heap.size w (w.alloc (.cells #[.int .i64 x.f0, .string x.f1, .int .i64 x.f2.f0, .int .i64 x.f2.f1, .string x.f2.f2, .slice A x.f3.length c] 26)) := below_alloc (Below.refl _ _) _
 have hat : AtE (w.alloc (.cells #[.int .i64 x.f0, .string x.f1, .int .i64 x.f2.f0, .int .i64 x.f2.f1, .string x.f2.f2, .slice A x.f3.length c] 26)) ⟨w.heap.size, 0, none⟩ x :=
  AtE.box hl (Kd.C_below hC hb) (blk_new w _)
 obtain ⟨cs, hcs⟩ : ∃ cs : Array Value, cs = #[.int .i64 x.f0, .string x.f1, .int .i64 x.f2.f0, .int .i64 x.f2.f1, .string x.f2.f2, .slice A x.f3.length c] := ⟨_, rfl⟩
 have hsz : (w.alloc (.cells cs 26)).heap.size = w.heap.size + 1 := by simp
 rw [← hcs] at hb hat ⊢
 have hb2 : Below (w.alloc (.cells cs 26)).heap.size (w.alloc (.cells cs 26)) ((w.alloc (.cells cs 26)).alloc (.cells #[.int .i64 0] 3)) := below_alloc (Below.refl _ _) _
 have hc := count_calls x 0 0 (by omega) (by omega) (by omega) (by omega) _ (w.heap.size + 1) _ _ hat hb2 (by rw [hsz]; exact Nat.le_refl _) (by have := Boxed.new (w.alloc (.cells cs 26)) 3 (.int .i64 0); rwa [hsz] at this)
 have HW := Aside0.mk (below_step hb hb2)
 have ha := fun W (hW : Below w.heap.size w W) (h : AtE W ⟨w.heap.size, 0, none⟩ x) => all_calls x hgd ⟨w.heap.size, 0, none⟩ W (hG.below hW) h
 have HA := Aside0.mk ha
 have HAt := Aside0.mk (⟨hat, hb2⟩ : _ ∧ _)
 have HSz := Aside0.mk hsz
 clear ha hat hb hb2 hG hC hsz
 unfold chkE
 generalize cntE x 0 0 = R at hc ⊢
 obtain ⟨R, M⟩ := R
 simp only at hc ⊢
 cases R with
 | false =>
  rw [if_pos rfl]
  subst hcs
  go_enter Tryd.func17, Tryd.ntmps17
  go_wp2_with (go_at_call 39; refine hc.mono ?_; rintro e w2 ⟨rfl, hb2, hg2⟩; have HB2 := Aside0.mk (HW.out.grown hg2 HW.out.size (fun k e => by injection e with e; omega)); clear hb2 hg2)
  first | exact ⟨rfl, HB2.out⟩ | (go_ret; exact ⟨rfl, HB2.out⟩)
 | true =>
  rw [if_neg (show ¬ true = false by decide)]
  generalize allE x = L at HA ⊢
  cases L
  all_goals
   subst hcs
   go_enter Tryd.func17, Tryd.ntmps17
   go_wp2_with (first
    | (go_at_call 39; refine hc.mono ?_; rintro e w2 ⟨rfl, hb2, hg2⟩; have HB2 := Aside0.mk (HW.out.grown hg2 HW.out.size (fun k e => by injection e with e; omega)); have hq := HA.out w2 HB2.out (HAt.out.1.below (HAt.out.2.grown hg2 HAt.out.2.size (fun k e => by injection e with e; have := HSz.out; omega))); clear hb2 hg2)
    | (go_at_call 40; refine hq.mono ?_; rintro e w3 ⟨rfl, hb3⟩; have HB3 := Aside0.mk (below_step HB2.out hb3); clear hb3))
   first | exact ⟨rfl, HB3.out⟩ | (go_ret; exact ⟨rfl, HB3.out⟩)
end Go.Proofs.YtopolnbffmljaaaDoor.Q
namespace Go.Proofs.YtopolnbffmljaaaDoor.Q
mutual
def wfE : Ex → Prop
 | ⟨op, nm, v, ks⟩ => (Lit.int .i64 op).wf = true ∧ nm.size ≤ 140737488351232 ∧ ((Lit.int .i64 v.f0).wf = true ∧ (Lit.int .i64 v.f1).wf = true ∧ v.f2.size ≤ 140737488351232) ∧ (ks.length * 80 ≤ 140737488351232 ∧ wfL ks)
def wfL : List Ex → Prop
 | [] => True
 | k :: ks => wfE k ∧ wfL ks
end
theorem wfL_iff : ∀ ks : List Ex, wfL ks ↔ ∀ k ∈ ks, wfE k
 | [] => by rw [wfL]; simp
 | k :: ks => by rw [wfL, wfL_iff ks]; simp
theorem wfE_iff (x : Ex) : wfE x ↔ (Lit.int .i64 x.f0).wf = true ∧ x.f1.size ≤ 140737488351232 ∧ ((Lit.int .i64 x.f2.f0).wf = true ∧ (Lit.int .i64 x.f2.f1).wf = true ∧ x.f2.f2.size ≤ 140737488351232) ∧ (x.f3.length * 80 ≤ 140737488351232 ∧ ∀ k ∈ x.f3, wfE k) := by
 cases x with
 | mk op nm v ks => rw [wfE, wfL_iff]
mutual
def sizE : Ex → Int → Int → Int × Int
 | ⟨_, _, _, ks⟩, n, deep => sizL ks (n + 1) deep deep
def sizL : List Ex → Int → Int → Int → Int × Int
 | [], n, most, _ => (n, most)
 | k :: ks, n, most, deep => if n < 1000 ∧ deep < 1000 then sizL ks (sizE k n (deep + 1)).1 (mx most (sizE k n (deep + 1)).2) deep else (n, most)
end
theorem siz_le : ∀ x : Ex, ∀ n d : Int, 0 ≤ n → n ≤ 999 → n + 1 ≤ (sizE x n d).1 ∧ (sizE x n d).1 ≤ 1000 ∧ d ≤ (sizE x n d).2 := by
 refine Ex.ind fun x ih n d h0 h1 => ?_
 obtain ⟨op, nm, v, ks⟩ := x
 rw [sizE]
 have key : ∀ l : List Ex, (∀ k ∈ l, ∀ n d : Int, 0 ≤ n → n ≤ 999 → n + 1 ≤ (sizE k n d).1 ∧ (sizE k n d).1 ≤ 1000 ∧ d ≤ (sizE k n d).2) → ∀ m s : Int, 0 ≤ m → m ≤ 1000 → m ≤ (sizL l m s d).1 ∧ (sizL l m s d).1 ≤ 1000 ∧ s ≤ (sizL l m s d).2 := by
  intro l
  induction l with
  | nil => intro _ m s g0 g1; rw [sizL]; exact ⟨Int.le_refl _, g1, Int.le_refl _⟩
  | cons k l ihl =>
   intro hk m s g0 g1
   rw [sizL]
   by_cases hc : m < 1000 ∧ d < 1000
   ·rw [if_pos hc]
    have h2 := hk k List.mem_cons_self m (d + 1) g0 (by omega)
    have h3 := ihl (fun q hq => hk q (List.mem_cons_of_mem _ hq)) (sizE k m (d + 1)).1 (mx s (sizE k m (d + 1)).2) (by omega) h2.2.1
    have h4 : s ≤ mx s (sizE k m (d + 1)).2 := by unfold mx; split <;> omega
    omega
   ·rw [if_neg hc]; exact ⟨Int.le_refl _, g1, Int.le_refl _⟩
 have := key ks ih (n + 1) d (by omega) (by omega)
 omega
theorem ks_at (ks : List Ex) (i : Nat) (h : i < ks.length) : rd_T26 ks (i : Int) = ks.getD i z26 ∧ ks.getD i z26 ∈ ks := by
 refine ⟨by unfold rd_T26; rw [Int.toNat_natCast], ?_⟩
 rw [List.getD_eq_getElem?_getD, List.getElem?_eq_getElem h]
 exact List.getElem_mem h
theorem size_ev : ∀ x : Ex, wfE x → ∀ n d : Int, 0 ≤ n → n ≤ 999 → 0 ≤ d → d ≤ 1000 → Ev (fun k => headgateref13_size.f k x.f0 x.f1 x.f2.f0 x.f2.f1 x.f2.f2 x.f3 n d) (sizE x n d) := by
 refine Ex.ind fun x ih hwf n d h0 h1 g0 g1 => ?_
 have hw := (wfE_iff x).1 hwf
 obtain ⟨op, nm, v, ks⟩ := x
 simp only at ih hw ⊢
 rw [sizE]
 have hlen : ks.length ≤ 9223372036854775806 := by have := hw.2.2.2.1; omega
 ·have key : ∀ m i : Nat, i + m = ks.length → ∀ s t : Int, 0 ≤ s → s ≤ 1000 → Ev (fun k => headgateref13_size.l0 k s d t (i : Int) op nm v.f0 v.f1 v.f2 ks) (sizL (ks.drop i) s t d) := by
   intro m
   induction m with
   | zero =>
    intro i hi s t s0 s1
    rw [List.drop_eq_nil_of_le (by omega), sizL]
    refine Ev.step (Ev.const (f := fun k => headgateref13_size.j1 k s d t (i : Int) false op nm v.f0 v.f1 v.f2 ks) (fun k => ?_)) (fun k => ?_)
    ·simp only [headgateref13_size.j1]; rfl
    ·simp only [headgateref13_size.l0]; rw [if_neg (by omega)]
   | succ m ihm =>
    intro i hi s t s0 s1
    have hil : i < ks.length := by omega
    obtain ⟨hrd, hmem⟩ := ks_at ks i hil
    rw [drop_getD ks i hil, sizL]
    by_cases hc : s < 1000 ∧ d < 1000
    ·rw [if_pos hc]
     have hk := ih _ hmem (hw.2.2.2.2 _ hmem) s (d + 1) s0 (by omega) (by omega) (by omega)
     have hle := siz_le (ks.getD i z26) s (d + 1) s0 (by omega)
     have hrest := ihm (i + 1) (by omega) (sizE (ks.getD i z26) s (d + 1)).1 (mx t (sizE (ks.getD i z26) s (d + 1)).2) (by omega) hle.2.1
     refine Ev.step (Ev.bind1 (f := fun k => headgateref13_size.j1 k s d t (i : Int) true op nm v.f0 v.f1 v.f2 ks) (h := fun k r => headgateref13_size.l0 k r.1 d (mx t r.2) ((i + 1 : Nat) : Int) op nm v.f0 v.f1 v.f2 ks) hk hrest (fun k => ?_)) (fun k => ?_)
     ·simp only [headgateref13_size.j1]
      rw [if_pos trivial, if_pos (by omega), if_pos (by omega), hrd, w64n i (by omega), wrap_in (show in64 (d + 1) by unfold in64; omega)]
     ·simp only [headgateref13_size.l0]
      rw [if_pos (by omega), if_pos hc.1, decide_eq_true hc.2]
    ·rw [if_neg hc]
     refine Ev.step (Ev.const (f := fun k => headgateref13_size.j1 k s d t (i : Int) false op nm v.f0 v.f1 v.f2 ks) (fun k => ?_)) (fun k => ?_)
     ·simp only [headgateref13_size.j1]; rfl
     ·simp only [headgateref13_size.l0]
      rw [if_pos (by omega)]
      by_cases hs : s < 1000
      ·rw [if_pos hs, decide_eq_false (fun h => hc ⟨hs, h⟩)]
      ·rw [if_neg hs]
  have := key ks.length 0 (by omega) (n + 1) d (by omega) (by omega)
  refine Ev.step this fun k => ?_
  simp only [headgateref13_size.f]
  rw [wrap_in (show in64 (n + 1) by unfold in64; omega)]
  rfl
end Go.Proofs.YtopolnbffmljaaaDoor.Q
namespace Go.Proofs.YtopolnbffmljaaaDoor.Q
def arrK (pre : List Int) : Array Value := #[.int .i64 (pre.getD 0 0), .int .i64 (pre.getD 1 0), .int .i64 (pre.getD 2 0)]
theorem arrK_set (pre : List Int) (k : Int) (h : pre.length < 3) : (arrK pre).setIfInBounds pre.length (.int .i64 k) = arrK (pre ++ [k]) := by
 match pre, h with
 | [], _ => rfl
 | [a], _ => rfl
 | [a, b], _ => rfl
theorem arrK_get (pre : List Int) (i : Nat) (h : i < 3) : (arrK pre)[i]? = some (.int .i64 (pre.getD i 0)) := by
 match i, h with
 | 0, _ => rfl
 | 1, _ => rfl
 | 2, _ => rfl
theorem form_len {op : Int} {nm : ByteArray} {v : Va} {n : Nat} (h : formE op nm v n = true) : 1 ≤ op ∧ op ≤ 20 ∧ n ≤ 3 := by
 unfold formE at h
 by_cases h1 : op < 0 ∨ 21 ≤ op
 ·rw [if_pos h1] at h; cases h
 rw [if_neg h1] at h
 by_cases h2 : (n : Int) ≠ arT.getD op.toNat 0
 ·rw [if_pos h2] at h; cases h
 have key : ∀ m, m < 21 → (m = 0 → arT.getD m 0 = -1) ∧ arT.getD m 0 ≤ 3 := by decide
 have := key op.toNat (by omega)
 refine ⟨?_, by omega, by omega⟩
 by_cases h0 : op = 0
 ·have := this.1 (by omega)
  omega
 ·omega
set_option maxHeartbeats 16000000 in
set_option maxRecDepth 100000 in
theorem kind_calls : ∀ x : Ex, goodE x = true → allE x = true → ∀ (p : Addr) (w : World), GlobE w → AtE w p x → ∀ (B : Option Addr) (c2 : Nat) (l : List Co), l.length ≤ 140737488355328 → l.length ≤ c2 → Kd.C k58 w B l.length l →
  Calls Tryd.prog 33 #[.pointer (some p), .slice B l.length c2] w fun e w' => e = .returned (.tuple #[.int .i64 (kindE l x).1, .int .i64 (kindE l x).2]) ∧ Below w.heap.size w w' := by
 refine Ex.ind fun x ih hgd hall p w hG hp B c2 l hL hc2 hD => ?_
 obtain ⟨A, c, m0, m1, m2, m3, m4, m5, hl, hC⟩ := hp.cells
 have hg := (goodE_iff x).1 hgd
 have hform := form_len (allE_form hall)
 have hkd : ∀ k ∈ x.f3, allE k = true := fun k hk => allE_kid hall hk
 obtain ⟨op, nm, v, ks⟩ := x
 simp only at ih hg hform hkd m0 m1 m2 m3 m4 m5 hl hC ⊢
 rw [kindE]
 have hkid : ∀ i, i < ks.length → ∃ ad, A = some ad ∧ ∀ W, Below w.heap.size w W → Calls Tryd.prog 33 #[.pointer (some (ad.add (i * 6))), .slice B l.length c2] W fun e w' => e = .returned (.tuple #[.int .i64 (kindE l (ks.getD i z26)).1, .int .i64 (kindE l (ks.getD i z26)).2]) ∧ Below W.heap.size W w' := by
  intro i hi
  obtain ⟨ad, e, hat, hm⟩ := AtE.kid hC i hi
  exact ⟨ad, e, fun W hW => ih _ hm (hg.2.2.2 _ hm) (hkd _ hm) _ W (hG.below hW) (hat.below hW) B c2 l hL hc2 (Kd.C_below hD hW)⟩
 obtain ⟨RL, hRL⟩ : ∃ RL, (kindL l ks).1 = RL := ⟨_, rfl⟩
 obtain ⟨RE, hRE⟩ : ∃ RE, (kindL l ks).2 = RE := ⟨_, rfl⟩
 rw [hRL, hRE]
 obtain ⟨Q, hQ⟩ : ∃ Q : Ending → World → Prop, Q = fun e w' => e = .returned (.tuple #[.int .i64 (if RE ≠ 0 then (0, RE) else kindO l op nm v (RL.getD 0 0) (RL.getD 1 0) (RL.getD 2 0)).1, .int .i64 (if RE ≠ 0 then (0, RE) else kindO l op nm v (RL.getD 0 0) (RL.getD 1 0) (RL.getD 2 0)).2]) ∧ Below w.heap.size w w' := ⟨_, rfl⟩
 have hqe : RE ≠ 0 → ∀ w', Below w.heap.size w w' → Q (.returned (.tuple #[.int .i64 0, .int .i64 RE])) w' := fun h w' a => by rw [hQ, if_pos h]; exact ⟨rfl, a⟩
 have hqo : RE = 0 → ∀ r : Int × Int, kindO l op nm v (RL.getD 0 0) (RL.getD 1 0) (RL.getD 2 0) = r → ∀ w', Below w.heap.size w w' → Q (.returned (.tuple #[.int .i64 r.1, .int .i64 r.2])) w' := fun h r hr w' a => by rw [hQ, if_neg (by omega), hr]; exact ⟨rfl, a⟩
 show Calls Tryd.prog 33 _ w (fun e w' => e = .returned (.tuple #[.int .i64 (if RE ≠ 0 then (0, RE) else kindO l op nm v (RL.getD 0 0) (RL.getD 1 0) (RL.getD 2 0)).1, .int .i64 (if RE ≠ 0 then (0, RE) else kindO l op nm v (RL.getD 0 0) (RL.getD 1 0) (RL.getD 2 0)).2]) ∧ Below w.heap.size w w')
 rw [← hQ]
 have hW1 : Below w.heap.size w (w.alloc (.cells (arrK []) 85)) := below_alloc (Below.refl _ _) _
 have HW1 := Aside0.mk hW1
 have HBx := Aside0.mk (blk_new w (.cells (arrK []) 85))
 have HQE := Aside0.mk hqe
 have HQO := Aside0.mk hqo
 have HKid := Aside0.mk hkid
 have M := Aside0.mk (⟨m0, m1, m2, m5⟩ : _ ∧ _ ∧ _ ∧ _)
 have m5s : (w.alloc (.cells #[.int .i64 0, .int .i64 0, .int .i64 0] 85)).cell? ⟨p.block, p.off + 5, none⟩ = some (.slice A ks.length c) := pw_cell_below hW1 m5
 have HG := Aside0.mk hG
 have HD := Aside0.mk hD
 have HRL := Aside0.mk (show [] ++ (kindL l ks).1 = RL from hRL)
 have HRE := Aside0.mk hRE
 have HF := Aside0.mk hform
 have HNM := Aside0.mk hg.1
 have HL := Aside0.mk (And.intro hL hc2)
 have hn : ks.length ≤ 9223372036854775807 := hC.2.1
 clear ih hp hC hl hkid hQ hqe hqo hRL hRE m1 m2 m3 m4 m5 hg hform hkd hgd hall hG hD hL hc2 hW1 m0
 go_enter Tryd.func33, Tryd.ntmps33
 go_wp2_with fail
 go_loopg [18] (ks.length) (fun kq v18 wr => ∃ (i : Nat) (pre : List Int), v18 = .int .i64 i ∧ Aside0 (i + kq = ks.length ∧ pre.length = i) ∧ Aside0 (Below w.heap.size w wr) ∧ Aside0 (wr.heap[w.heap.size]? = some (.cells (arrK pre) 85 (0, 0))) ∧ Aside0 ((kindL l (ks.drop i)).2 = RE) ∧ Aside0 (pre ++ (kindL l (ks.drop i)).1 = RL))
 case atStart => exact ⟨0, [], rfl, ⟨by omega, rfl⟩, HW1, HBx, HRE, HRL⟩
 case round =>
  clear HRE HRL HBx HW1 m5s
  obtain ⟨i, pre, rfl, HI, HB, HX, HE, HR⟩ := hrel
  obtain ⟨m0, m1, m2, m5⟩ := M.out
  have r0 := pw_cell_below HB.out m0
  have r1 := pw_cell_below HB.out m1
  have r2 := pw_cell_below HB.out m2
  have r5 := pw_cell_below HB.out m5
  clear m0 m1 m2 m5
  cases gk with
  | succ k1 =>
   clear r0 r1 r2
   have hi : i < ks.length := by have := HI.out; omega
   have hlb : decide (i < ks.length) = true := decide_eq_true hi
   have hi3 : (i : Int) < 3 := by have := HF.out; omega
   obtain ⟨ad, rfl, hc⟩ := HKid.out i hi
   have hcw := hc wr HB.out
   have hE := HE.out
   have hR := HR.out
   rw [drop_getD ks i hi, kindL] at hE hR
   generalize kindE l (ks.getD i z26) = KE at hcw hE hR
   obtain ⟨k0, e0⟩ := KE
   simp only at hcw hE hR
   have hcell : ∀ w2 : World, w2.heap[w.heap.size]? = some (.cells (arrK pre) 85 (0, 0)) → w2.cell? ⟨w.heap.size, i, none⟩ = some (.int .i64 (pre.getD i 0)) ∧ w2.frozen? ⟨w.heap.size, i, none⟩ = false := fun w2 h => ⟨(blk_cell h i).trans (arrK_get pre i (by omega)), blk_frozen h i⟩
   by_cases he : e0 = 0
   ·rw [if_neg (show ¬ e0 ≠ 0 from fun h => h he)] at hE hR
    subst he
    have HE2 := Aside0.mk (show (kindL l (ks.drop (i + 1))).2 = RE from hE)
    have HR2 := Aside0.mk (show (pre ++ [k0]) ++ (kindL l (ks.drop (i + 1))).1 = RL by rw [List.append_assoc]; exact hR)
    have HS := Aside0.mk (arrK_set pre k0 (by have := HI.out; omega))
    clear hE hR
    go_wp2_with (go_at_call 33; refine hcw.mono ?_; rintro e w2 ⟨rfl, hb2⟩; have hx2 := blk_below HX.out hb2; have hcl := hcell w2 hx2; obtain ⟨hcl, hfr⟩ := hcl; have HX2 := Aside0.mk hx2; have HB2 := Aside0.mk (below_step HB.out hb2); clear hb2 hx2)
    have HX3 := Aside0.mk (show (w2.setCell ⟨w.heap.size, i, none⟩ (.int .i64 k0)).heap[w.heap.size]? = some (.cells (arrK (pre ++ [k0])) 85 (0, 0)) from blk_put HX2.out i _ (by rw [← HS.out, HI.out.2]))
    have HB3 := Aside0.mk (show Below w.heap.size w (w2.setCell ⟨w.heap.size, i, none⟩ (.int .i64 k0)) from below_set HB2.out (Nat.le_refl _))
    go_roundg k1
    case measure => omega
    case rel => exact ⟨i + 1, pre ++ [k0], by congr 1, ⟨by have := HI.out; omega, by rw [List.length_append, HI.out.2]; rfl⟩, HB3, HX3, HE2, HR2⟩
   ·rw [if_pos he] at hE
    have hE' : e0 = RE := hE
    clear hE hR
    have hne : (e0 != 0) = true := by simpa using he
    have HN := Aside0.mk (show RE ≠ 0 from hE' ▸ he)
    subst hE'
    clear he
    go_wp2_with (go_at_call 33; refine hcw.mono ?_; rintro e w2 ⟨rfl, hb2⟩; have hx2 := blk_below HX.out hb2; have hcl := hcell w2 hx2; obtain ⟨hcl, hfr⟩ := hcl; have HX2 := Aside0.mk hx2; have HB2 := Aside0.mk (below_step HB.out hb2); clear hb2 hx2)
    have HB3 := Aside0.mk (show Below w.heap.size w (w2.setCell ⟨w.heap.size, i, none⟩ (.int .i64 k0)) from below_set HB2.out (Nat.le_refl _))
    first | exact HQE.out HN.out _ HB3.out | (go_ret2; exact HQE.out HN.out _ HB3.out)
  | zero =>
   have hlb : decide (i < ks.length) = false := decide_eq_false (by have := HI.out; omega)
   have hE := HE.out
   have hR := HR.out
   rw [List.drop_eq_nil_of_le (by have := HI.out; omega), kindL] at hE hR
   have hE' : RE = 0 := hE.symm
   have hR' : RL = pre := hR.symm.trans (List.append_nil pre)
   clear hE hR HE HR
   have HO := Aside0.mk (HQO.out hE')
   clear HQO HQE
   subst hE' hR'
   have s0 : wr.cell? ⟨w.heap.size, 0, none⟩ = some (.int .i64 (RL.getD 0 0)) := (blk_cell HX.out 0).trans rfl
   have s1 : wr.cell? ⟨w.heap.size, 1, none⟩ = some (.int .i64 (RL.getD 1 0)) := (blk_cell HX.out 1).trans rfl
   have s2 : wr.cell? ⟨w.heap.size, 2, none⟩ = some (.int .i64 (RL.getD 2 0)) := (blk_cell HX.out 2).trans rfl
   clear HX
   generalize RL.getD 0 0 = a at s0 HO
   generalize RL.getD 1 0 = b at s1 HO
   generalize RL.getD 2 0 = d at s2 HO
   have hop : op = 1 ∨ op = 2 ∨ op = 3 ∨ op = 4 ∨ op = 5 ∨ op = 6 ∨ op = 7 ∨ op = 8 ∨ op = 9 ∨ op = 10 ∨ op = 11 ∨ op = 12 ∨ op = 13 ∨ op = 14 ∨ op = 15 ∨ op = 16 ∨ op = 17 ∨ op = 18 ∨ op = 19 ∨ op = 20 := by have := HF.out; omega
   rcases hop with rfl | rfl | rfl | rfl | rfl | rfl | rfl | rfl | rfl | rfl | rfl | rfl | rfl | rfl | rfl | rfl | rfl | rfl | rfl | rfl
   ·obtain ⟨z, hz⟩ : ∃ z, findN nm l 0 = z := ⟨_, rfl⟩
    have hzr := findN_le nm l 0 (by omega)
    have hfd : decode_Find.f l nm = some ((if z < 0 then 0 else z), decide (z ≥ 0)) := by
     unfold decode_Find.f
     rw [if_pos HL.out.1, hz]
    have hcf := decode_Find.calls B c2 l nm _ _ wr (Kd.C_below HD.out HB.out) HL.out.2 hfd
    by_cases hz0 : z < 0
    ·have hk := HO.out (0, 132) (by simp [kindO, hz, hz0])
     have HK := Aside0.mk hk
     have z1 : decide (z ≥ 0) = false := decide_eq_false (by omega)
     rw [if_pos hz0, z1] at hcf
     clear hk HO hfd hzr hz
     go_wp2_with (go_at_call 52; refine hcf.mono ?_; rintro e w2 ⟨rfl, hb2⟩; have HB2 := Aside0.mk (below_step HB.out hb2); clear hb2)
     first | exact HK.out _ HB2.out | (go_ret2; exact HK.out _ HB2.out)
    ·have hk := HO.out ((rd_T58 l z).f1, 0) (by simp [kindO, hz, hz0])
     have HK := Aside0.mk hk
     have z1 : decide (z ≥ 0) = true := decide_eq_true (by omega)
     rw [if_neg hz0, z1] at hcf
     have hzl : z < (l.length : Int) := by omega
     have hz00 : 0 ≤ z := by omega
     clear hk HO hfd hzr hz hz0
     go_wp2_with (go_at_call 52; refine hcf.mono ?_; rintro e w2 ⟨rfl, hb2⟩; have HB2 := Aside0.mk (below_step HB.out hb2); have hat := at_T58 (Kd.C_below HD.out HB2.out) z hz00 hzl; obtain ⟨adc, rfl, q0, q1⟩ := hat; clear hb2)
     first | exact HK.out _ HB2.out | (go_ret2; exact HK.out _ HB2.out)
   ·have hk := HO.out (v.f0, 0) (by simp [kindO])
    have HK := Aside0.mk hk
    clear hk HO
    go_wp2_with fail
    first | exact HK.out _ HB.out | (go_ret2; exact HK.out _ HB.out)
   ·have hk := HO.out (wordI nm, 0) (by simp [kindO])
    have HK := Aside0.mk hk
    obtain ⟨KC, hKC⟩ := word_ev nm
    have HC := Aside0.mk (fun n => Kd.C_below (HG.out.below HB.out).wordsC (pw_below_drewN (Below.refl wr.heap.size wr) n))
    clear hk HO
    go_wp2_with fail
    go_quiet (first | (go_at_call 54; refine (slices_Index_string_string.calls KC (some ⟨1, 0, none⟩) 4 wordT nm _ _ (HC.out _) (by decide) hKC).mono ?_; rintro e w1 ⟨rfl, ⟨⟨m, rfl⟩⟩⟩; exact ⟨rfl, _, by rw [World.drewN_drewN]⟩))
    go_wp2_with fail
    first | exact HK.out _ (pw_below_drewN HB.out _) | (go_ret2; exact HK.out _ (pw_below_drewN HB.out _))
   ·by_cases e1 : a = 1
    ·have e1b : (a == 1) = true := by simpa using e1
     by_cases e2 : b = 1
     ·have e2b : (b == 1) = true := by simpa using e2
      have hk := HO.out (1, 0) (by simp [kindO, e1, e2])
      have HK := Aside0.mk hk
      clear hk HO e1 e2
      go_wp2_with fail
      go_quiet (fail)
      go_wp2_with fail
      first | exact HK.out _ (pw_below_drewN HB.out _) | (go_ret2; exact HK.out _ (pw_below_drewN HB.out _))
     ·have e2b : (b == 1) = false := by simpa using e2
      have hk := HO.out (0, 133) (by simp [kindO, e1, e2])
      have HK := Aside0.mk hk
      clear hk HO e1 e2
      go_wp2_with fail
      go_quiet (fail)
      go_wp2_with fail
      first | exact HK.out _ (pw_below_drewN HB.out _) | (go_ret2; exact HK.out _ (pw_below_drewN HB.out _))
    ·have e1b : (a == 1) = false := by simpa using e1
     have hk := HO.out (0, 133) (by simp [kindO, e1])
     have HK := Aside0.mk hk
     clear hk HO e1
     go_wp2_with fail
     go_quiet (fail)
     go_wp2_with fail
     first | exact HK.out _ (pw_below_drewN HB.out _) | (go_ret2; exact HK.out _ (pw_below_drewN HB.out _))
   ·by_cases e1 : a = 1
    ·have e1b : (a == 1) = true := by simpa using e1
     by_cases e2 : b = 1
     ·have e2b : (b == 1) = true := by simpa using e2
      have hk := HO.out (1, 0) (by simp [kindO, e1, e2])
      have HK := Aside0.mk hk
      clear hk HO e1 e2
      go_wp2_with fail
      go_quiet (fail)
      go_wp2_with fail
      first | exact HK.out _ (pw_below_drewN HB.out _) | (go_ret2; exact HK.out _ (pw_below_drewN HB.out _))
     ·have e2b : (b == 1) = false := by simpa using e2
      have hk := HO.out (0, 133) (by simp [kindO, e1, e2])
      have HK := Aside0.mk hk
      clear hk HO e1 e2
      go_wp2_with fail
      go_quiet (fail)
      go_wp2_with fail
      first | exact HK.out _ (pw_below_drewN HB.out _) | (go_ret2; exact HK.out _ (pw_below_drewN HB.out _))
    ·have e1b : (a == 1) = false := by simpa using e1
     have hk := HO.out (0, 133) (by simp [kindO, e1])
     have HK := Aside0.mk hk
     clear hk HO e1
     go_wp2_with fail
     go_quiet (fail)
     go_wp2_with fail
     first | exact HK.out _ (pw_below_drewN HB.out _) | (go_ret2; exact HK.out _ (pw_below_drewN HB.out _))
   ·by_cases e1 : a = 1
    ·have e1b : (a == 1) = true := by simpa using e1
     by_cases e2 : b = 1
     ·have e2b : (b == 1) = true := by simpa using e2
      have hk := HO.out (1, 0) (by simp [kindO, e1, e2])
      have HK := Aside0.mk hk
      clear hk HO e1 e2
      go_wp2_with fail
      go_quiet (fail)
      go_wp2_with fail
      first | exact HK.out _ (pw_below_drewN HB.out _) | (go_ret2; exact HK.out _ (pw_below_drewN HB.out _))
     ·have e2b : (b == 1) = false := by simpa using e2
      have hk := HO.out (0, 133) (by simp [kindO, e1, e2])
      have HK := Aside0.mk hk
      clear hk HO e1 e2
      go_wp2_with fail
      go_quiet (fail)
      go_wp2_with fail
      first | exact HK.out _ (pw_below_drewN HB.out _) | (go_ret2; exact HK.out _ (pw_below_drewN HB.out _))
    ·have e1b : (a == 1) = false := by simpa using e1
     have hk := HO.out (0, 133) (by simp [kindO, e1])
     have HK := Aside0.mk hk
     clear hk HO e1
     go_wp2_with fail
     go_quiet (fail)
     go_wp2_with fail
     first | exact HK.out _ (pw_below_drewN HB.out _) | (go_ret2; exact HK.out _ (pw_below_drewN HB.out _))
   ·by_cases e1 : a = 1
    ·have e1b : (a == 1) = true := by simpa using e1
     by_cases e2 : b = 1
     ·have e2b : (b == 1) = true := by simpa using e2
      have hk := HO.out (1, 0) (by simp [kindO, e1, e2])
      have HK := Aside0.mk hk
      clear hk HO e1 e2
      go_wp2_with fail
      go_quiet (fail)
      go_wp2_with fail
      first | exact HK.out _ (pw_below_drewN HB.out _) | (go_ret2; exact HK.out _ (pw_below_drewN HB.out _))
     ·have e2b : (b == 1) = false := by simpa using e2
      have hk := HO.out (0, 133) (by simp [kindO, e1, e2])
      have HK := Aside0.mk hk
      clear hk HO e1 e2
      go_wp2_with fail
      go_quiet (fail)
      go_wp2_with fail
      first | exact HK.out _ (pw_below_drewN HB.out _) | (go_ret2; exact HK.out _ (pw_below_drewN HB.out _))
    ·have e1b : (a == 1) = false := by simpa using e1
     have hk := HO.out (0, 133) (by simp [kindO, e1])
     have HK := Aside0.mk hk
     clear hk HO e1
     go_wp2_with fail
     go_quiet (fail)
     go_wp2_with fail
     first | exact HK.out _ (pw_below_drewN HB.out _) | (go_ret2; exact HK.out _ (pw_below_drewN HB.out _))
   ·by_cases e1 : a = 1
    ·have e1b : (a == 1) = true := by simpa using e1
     by_cases e2 : b = 1
     ·have e2b : (b == 1) = true := by simpa using e2
      have hk := HO.out (1, 0) (by simp [kindO, e1, e2])
      have HK := Aside0.mk hk
      clear hk HO e1 e2
      go_wp2_with fail
      go_quiet (fail)
      go_wp2_with fail
      first | exact HK.out _ (pw_below_drewN HB.out _) | (go_ret2; exact HK.out _ (pw_below_drewN HB.out _))
     ·have e2b : (b == 1) = false := by simpa using e2
      have hk := HO.out (0, 133) (by simp [kindO, e1, e2])
      have HK := Aside0.mk hk
      clear hk HO e1 e2
      go_wp2_with fail
      go_quiet (fail)
      go_wp2_with fail
      first | exact HK.out _ (pw_below_drewN HB.out _) | (go_ret2; exact HK.out _ (pw_below_drewN HB.out _))
    ·have e1b : (a == 1) = false := by simpa using e1
     have hk := HO.out (0, 133) (by simp [kindO, e1])
     have HK := Aside0.mk hk
     clear hk HO e1
     go_wp2_with fail
     go_quiet (fail)
     go_wp2_with fail
     first | exact HK.out _ (pw_below_drewN HB.out _) | (go_ret2; exact HK.out _ (pw_below_drewN HB.out _))
   ·by_cases e1 : a = 1
    ·have e1b : (a == 1) = true := by simpa using e1
     have hk := HO.out (1, 0) (by simp [kindO, e1])
     have HK := Aside0.mk hk
     clear hk HO e1
     go_wp2_with fail
     go_quiet (fail)
     go_wp2_with fail
     first | exact HK.out _ (pw_below_drewN HB.out _) | (go_ret2; exact HK.out _ (pw_below_drewN HB.out _))
    ·have e1b : (a == 1) = false := by simpa using e1
     have hk := HO.out (0, 133) (by simp [kindO, e1])
     have HK := Aside0.mk hk
     clear hk HO e1
     go_wp2_with fail
     go_quiet (fail)
     go_wp2_with fail
     first | exact HK.out _ (pw_below_drewN HB.out _) | (go_ret2; exact HK.out _ (pw_below_drewN HB.out _))
   ·by_cases e1 : a = b
    ·have e1b : (a == b) = true := by simpa using e1
     have hk := HO.out (2, 0) (by simp [kindO, e1])
     have HK := Aside0.mk hk
     clear hk HO e1
     go_wp2_with fail
     go_quiet (fail)
     go_wp2_with fail
     first | exact HK.out _ (pw_below_drewN HB.out _) | (go_ret2; exact HK.out _ (pw_below_drewN HB.out _))
    ·have e1b : (a == b) = false := by simpa using e1
     have hk := HO.out (0, 133) (by simp [kindO, e1])
     have HK := Aside0.mk hk
     clear hk HO e1
     go_wp2_with fail
     go_quiet (fail)
     go_wp2_with fail
     first | exact HK.out _ (pw_below_drewN HB.out _) | (go_ret2; exact HK.out _ (pw_below_drewN HB.out _))
   ·by_cases e1 : a = b
    ·have e1b : (a == b) = true := by simpa using e1
     have hk := HO.out (2, 0) (by simp [kindO, e1])
     have HK := Aside0.mk hk
     clear hk HO e1
     go_wp2_with fail
     go_quiet (fail)
     go_wp2_with fail
     first | exact HK.out _ (pw_below_drewN HB.out _) | (go_ret2; exact HK.out _ (pw_below_drewN HB.out _))
    ·have e1b : (a == b) = false := by simpa using e1
     have hk := HO.out (0, 133) (by simp [kindO, e1])
     have HK := Aside0.mk hk
     clear hk HO e1
     go_wp2_with fail
     go_quiet (fail)
     go_wp2_with fail
     first | exact HK.out _ (pw_below_drewN HB.out _) | (go_ret2; exact HK.out _ (pw_below_drewN HB.out _))
   ·by_cases e1 : a = b
    ·have e1b : (a == b) = true := by simpa using e1
     have hk := HO.out (2, 0) (by simp [kindO, e1])
     have HK := Aside0.mk hk
     clear hk HO e1
     go_wp2_with fail
     go_quiet (fail)
     go_wp2_with fail
     first | exact HK.out _ (pw_below_drewN HB.out _) | (go_ret2; exact HK.out _ (pw_below_drewN HB.out _))
    ·have e1b : (a == b) = false := by simpa using e1
     have hk := HO.out (0, 133) (by simp [kindO, e1])
     have HK := Aside0.mk hk
     clear hk HO e1
     go_wp2_with fail
     go_quiet (fail)
     go_wp2_with fail
     first | exact HK.out _ (pw_below_drewN HB.out _) | (go_ret2; exact HK.out _ (pw_below_drewN HB.out _))
   ·by_cases e1 : a = b
    ·have e1b : (a == b) = true := by simpa using e1
     have hk := HO.out (2, 0) (by simp [kindO, e1])
     have HK := Aside0.mk hk
     clear hk HO e1
     go_wp2_with fail
     go_quiet (fail)
     go_wp2_with fail
     first | exact HK.out _ (pw_below_drewN HB.out _) | (go_ret2; exact HK.out _ (pw_below_drewN HB.out _))
    ·have e1b : (a == b) = false := by simpa using e1
     have hk := HO.out (0, 133) (by simp [kindO, e1])
     have HK := Aside0.mk hk
     clear hk HO e1
     go_wp2_with fail
     go_quiet (fail)
     go_wp2_with fail
     first | exact HK.out _ (pw_below_drewN HB.out _) | (go_ret2; exact HK.out _ (pw_below_drewN HB.out _))
   ·by_cases e1 : a = 2
    ·have e1b : (a == 2) = true := by simpa using e1
     by_cases e2 : b = 2
     ·have e2b : (b == 2) = true := by simpa using e2
      have hk := HO.out (2, 0) (by simp [kindO, e1, e2])
      have HK := Aside0.mk hk
      clear hk HO e1 e2
      go_wp2_with fail
      go_quiet (fail)
      go_wp2_with fail
      first | exact HK.out _ (pw_below_drewN HB.out _) | (go_ret2; exact HK.out _ (pw_below_drewN HB.out _))
     ·have e2b : (b == 2) = false := by simpa using e2
      have hk := HO.out (0, 133) (by simp [kindO, e1, e2])
      have HK := Aside0.mk hk
      clear hk HO e1 e2
      go_wp2_with fail
      go_quiet (fail)
      go_wp2_with fail
      first | exact HK.out _ (pw_below_drewN HB.out _) | (go_ret2; exact HK.out _ (pw_below_drewN HB.out _))
    ·have e1b : (a == 2) = false := by simpa using e1
     have hk := HO.out (0, 133) (by simp [kindO, e1])
     have HK := Aside0.mk hk
     clear hk HO e1
     go_wp2_with fail
     go_quiet (fail)
     go_wp2_with fail
     first | exact HK.out _ (pw_below_drewN HB.out _) | (go_ret2; exact HK.out _ (pw_below_drewN HB.out _))
   ·by_cases e1 : a = 2
    ·have e1b : (a == 2) = true := by simpa using e1
     by_cases e2 : b = 2
     ·have e2b : (b == 2) = true := by simpa using e2
      have hk := HO.out (2, 0) (by simp [kindO, e1, e2])
      have HK := Aside0.mk hk
      clear hk HO e1 e2
      go_wp2_with fail
      go_quiet (fail)
      go_wp2_with fail
      first | exact HK.out _ (pw_below_drewN HB.out _) | (go_ret2; exact HK.out _ (pw_below_drewN HB.out _))
     ·have e2b : (b == 2) = false := by simpa using e2
      have hk := HO.out (0, 133) (by simp [kindO, e1, e2])
      have HK := Aside0.mk hk
      clear hk HO e1 e2
      go_wp2_with fail
      go_quiet (fail)
      go_wp2_with fail
      first | exact HK.out _ (pw_below_drewN HB.out _) | (go_ret2; exact HK.out _ (pw_below_drewN HB.out _))
    ·have e1b : (a == 2) = false := by simpa using e1
     have hk := HO.out (0, 133) (by simp [kindO, e1])
     have HK := Aside0.mk hk
     clear hk HO e1
     go_wp2_with fail
     go_quiet (fail)
     go_wp2_with fail
     first | exact HK.out _ (pw_below_drewN HB.out _) | (go_ret2; exact HK.out _ (pw_below_drewN HB.out _))
   ·by_cases e1 : a = 2
    ·have e1b : (a == 2) = true := by simpa using e1
     have hk := HO.out (2, 0) (by simp [kindO, e1])
     have HK := Aside0.mk hk
     clear hk HO e1
     go_wp2_with fail
     go_quiet (fail)
     go_wp2_with fail
     first | exact HK.out _ (pw_below_drewN HB.out _) | (go_ret2; exact HK.out _ (pw_below_drewN HB.out _))
    ·have e1b : (a == 2) = false := by simpa using e1
     have hk := HO.out (0, 133) (by simp [kindO, e1])
     have HK := Aside0.mk hk
     clear hk HO e1
     go_wp2_with fail
     go_quiet (fail)
     go_wp2_with fail
     first | exact HK.out _ (pw_below_drewN HB.out _) | (go_ret2; exact HK.out _ (pw_below_drewN HB.out _))
   ·have hk := HO.out (2, 0) (by simp [kindO])
    have HK := Aside0.mk hk
    clear hk HO
    go_wp2_with fail
    first | exact HK.out _ HB.out | (go_ret2; exact HK.out _ HB.out)
   ·by_cases e1 : a = 2
    ·have e1b : (a == 2) = true := by simpa using e1
     by_cases e2 : b = d
     ·have e2b : (b == d) = true := by simpa using e2
      have hk := HO.out (b, 0) (by simp [kindO, e1, e2])
      have HK := Aside0.mk hk
      clear hk HO e1 e2
      go_wp2_with fail
      go_quiet (fail)
      go_wp2_with fail
      first | exact HK.out _ (pw_below_drewN HB.out _) | (go_ret2; exact HK.out _ (pw_below_drewN HB.out _))
     ·have e2b : (b == d) = false := by simpa using e2
      have hk := HO.out (0, 133) (by simp [kindO, e1, e2])
      have HK := Aside0.mk hk
      clear hk HO e1 e2
      go_wp2_with fail
      go_quiet (fail)
      go_wp2_with fail
      first | exact HK.out _ (pw_below_drewN HB.out _) | (go_ret2; exact HK.out _ (pw_below_drewN HB.out _))
    ·have e1b : (a == 2) = false := by simpa using e1
     have hk := HO.out (0, 133) (by simp [kindO, e1])
     have HK := Aside0.mk hk
     clear hk HO e1
     go_wp2_with fail
     go_quiet (fail)
     go_wp2_with fail
     first | exact HK.out _ (pw_below_drewN HB.out _) | (go_ret2; exact HK.out _ (pw_below_drewN HB.out _))
   ·by_cases e1 : a = b
    ·have e1b : (a == b) = true := by simpa using e1
     have hk := HO.out (a, 0) (by simp [kindO, e1])
     have HK := Aside0.mk hk
     clear hk HO e1
     go_wp2_with fail
     go_quiet (fail)
     go_wp2_with fail
     first | exact HK.out _ (pw_below_drewN HB.out _) | (go_ret2; exact HK.out _ (pw_below_drewN HB.out _))
    ·have e1b : (a == b) = false := by simpa using e1
     have hk := HO.out (0, 133) (by simp [kindO, e1])
     have HK := Aside0.mk hk
     clear hk HO e1
     go_wp2_with fail
     go_quiet (fail)
     go_wp2_with fail
     first | exact HK.out _ (pw_below_drewN HB.out _) | (go_ret2; exact HK.out _ (pw_below_drewN HB.out _))
   ·by_cases e1 : a = 3
    ·have e1b : (a == 3) = true := by simpa using e1
     have hk := HO.out (1, 0) (by simp [kindO, e1])
     have HK := Aside0.mk hk
     clear hk HO e1
     go_wp2_with fail
     go_quiet (fail)
     go_wp2_with fail
     first | exact HK.out _ (pw_below_drewN HB.out _) | (go_ret2; exact HK.out _ (pw_below_drewN HB.out _))
    ·have e1b : (a == 3) = false := by simpa using e1
     have hk := HO.out (0, 133) (by simp [kindO, e1])
     have HK := Aside0.mk hk
     clear hk HO e1
     go_wp2_with fail
     go_quiet (fail)
     go_wp2_with fail
     first | exact HK.out _ (pw_below_drewN HB.out _) | (go_ret2; exact HK.out _ (pw_below_drewN HB.out _))
end Go.Proofs.YtopolnbffmljaaaDoor.Q
namespace Go.Proofs.YtopolnbffmljaaaDoor.Q
theorem chk_all {x : Ex} (h : chkE x = 0) : allE x = true := by
 unfold chkE at h
 split at h
 ·cases h
 ·split at h
  ·cases h
  ·rename_i h2
   cases ha : allE x
   ·exact absurd ha h2
   ·rfl
set_option maxHeartbeats 4000000 in
set_option maxRecDepth 100000 in
theorem Kind_calls (x : Ex) (hgd : goodE x = true) (A : Option Addr) (c : Nat) (hl : x.f3.length ≤ c) (B : Option Addr) (c2 : Nat) (l : List Co) (hL : l.length ≤ 140737488355328) (hns : ∀ c ∈ l, c.f0.size ≤ 140737488355328) (hc2 : l.length ≤ c2)
  (w : World) (hG : GlobE w) (hC : Kd.C k26 w A x.f3.length x.f3) (hD : Kd.C k58 w B l.length l) :
  Calls Tryd.prog 12 #[.agg #[.int .i64 x.f0, .string x.f1, .int .i64 x.f2.f0, .int .i64 x.f2.f1, .string x.f2.f2, .slice A x.f3.length c], .slice B l.length c2] w fun e w' => e = .returned (.tuple #[.int .i64 (kindX l x).1, .int .i64 (kindX l x).2]) ∧ Below w.heap.size w w' := by
 have hb : Below w.heap.size w (w.alloc (.cells #[.int .i64 x.f0, .string x.f1, .int .i64 x.f2.f0, .int .i64 x.f2.f1, .string x.f2.f2, .slice A x.f3.length c] 26)) := below_alloc (Below.refl _ _) _
 have hbk := blk_new w (.cells #[.int .i64 x.f0, .string x.f1, .int .i64 x.f2.f0, .int .i64 x.f2.f1, .string x.f2.f2, .slice A x.f3.length c] 26)
 have hat : AtE (w.alloc (.cells #[.int .i64 x.f0, .string x.f1, .int .i64 x.f2.f0, .int .i64 x.f2.f1, .string x.f2.f2, .slice A x.f3.length c] 26)) ⟨w.heap.size, 0, none⟩ x := AtE.box hl (Kd.C_below hC hb) hbk
 obtain ⟨K, hK⟩ := (check_ev l hL hns).get
 have hck := decode_Check.calls K B c2 l _ _ (Kd.C_below hD hb) hc2 hK
 have HCh := Aside0.mk (fun W (hW : Below w.heap.size w W) => Check_calls x hgd A c hl W (hG.below hW) (Kd.C_below hC hW))
 have HKi := Aside0.mk (fun W (hW : Below w.heap.size w W) (h : AtE W ⟨w.heap.size, 0, none⟩ x) (ha : allE x = true) => kind_calls x hgd ha ⟨w.heap.size, 0, none⟩ W (hG.below hW) h B c2 l hL hc2 (Kd.C_below hD hW))
 have HB := Aside0.mk hb
 have HAt := Aside0.mk hat
 have HBk := Aside0.mk hbk
 clear hb hat hG hC hD hK hns hL hgd hbk
 unfold kindX
 generalize rightS l = R at hck ⊢
 cases R with
 | false =>
  rw [if_pos rfl]
  rw [if_neg (show ¬ false = true by decide)] at hck
  go_enter Tryd.func12, Tryd.ntmps12
  go_wp2_with (go_at_call 32; refine hck.mono ?_; rintro e w2 ⟨rfl, hb2⟩; have HB2 := Aside0.mk (below_step HB.out hb2); clear hb2)
  first | exact ⟨rfl, HB2.out⟩ | (go_ret2; exact ⟨rfl, HB2.out⟩)
 | true =>
  rw [if_pos rfl] at hck
  rw [if_neg (show ¬ true = false by decide)]
  obtain ⟨C, hCc⟩ : ∃ C, chkE x = C := ⟨_, rfl⟩
  rw [hCc] at HCh ⊢
  by_cases h0 : C = 0
  ·rw [if_neg (show ¬ C ≠ 0 from fun h => h h0)]
   subst h0
   have HA := Aside0.mk (chk_all hCc)
   clear hCc
   go_enter Tryd.func12, Tryd.ntmps12
   go_wp2_with (first
    | (go_at_call 32; refine hck.mono ?_; rintro e w2 ⟨rfl, hb2⟩; have HB2 := Aside0.mk (below_step HB.out hb2); have HAt2 := Aside0.mk (HAt.out.below hb2); have hbk2 := blk_below HBk.out hb2; have q0 : w2.cell? ⟨w.heap.size, 0, none⟩ = some (.int .i64 x.f0) := (blk_cell hbk2 0).trans rfl; have q1 : w2.cell? ⟨w.heap.size, 1, none⟩ = some (.string x.f1) := (blk_cell hbk2 1).trans rfl; have q2 : w2.cell? ⟨w.heap.size, 2, none⟩ = some (.int .i64 x.f2.f0) := (blk_cell hbk2 2).trans rfl; have q3 : w2.cell? ⟨w.heap.size, 3, none⟩ = some (.int .i64 x.f2.f1) := (blk_cell hbk2 3).trans rfl; have q4 : w2.cell? ⟨w.heap.size, 4, none⟩ = some (.string x.f2.f2) := (blk_cell hbk2 4).trans rfl; have q5 : w2.cell? ⟨w.heap.size, 5, none⟩ = some (.slice A x.f3.length c) := (blk_cell hbk2 5).trans rfl; clear hb2 hbk2)
    | (go_at_call 17; refine (HCh.out _ HB2.out).mono ?_; rintro e w3 ⟨rfl, hb3⟩; have HB3 := Aside0.mk (below_step HB2.out hb3); have HAt3 := Aside0.mk (HAt2.out.below hb3); clear hb3 q0 q1 q2 q3 q4 q5)
    | (go_at_call 33; refine (HKi.out _ HB3.out HAt3.out HA.out).mono ?_; rintro e w4 ⟨rfl, hb4⟩; have HB4 := Aside0.mk (below_step HB3.out hb4); clear hb4))
   first | exact ⟨rfl, HB4.out⟩ | (go_ret2; exact ⟨rfl, HB4.out⟩)
  ·rw [if_pos h0]
   have hne : (C != 0) = true := by simpa using h0
   clear h0 hCc
   go_enter Tryd.func12, Tryd.ntmps12
   go_wp2_with (first
    | (go_at_call 32; refine hck.mono ?_; rintro e w2 ⟨rfl, hb2⟩; have HB2 := Aside0.mk (below_step HB.out hb2); have HAt2 := Aside0.mk (HAt.out.below hb2); have hbk2 := blk_below HBk.out hb2; have q0 : w2.cell? ⟨w.heap.size, 0, none⟩ = some (.int .i64 x.f0) := (blk_cell hbk2 0).trans rfl; have q1 : w2.cell? ⟨w.heap.size, 1, none⟩ = some (.string x.f1) := (blk_cell hbk2 1).trans rfl; have q2 : w2.cell? ⟨w.heap.size, 2, none⟩ = some (.int .i64 x.f2.f0) := (blk_cell hbk2 2).trans rfl; have q3 : w2.cell? ⟨w.heap.size, 3, none⟩ = some (.int .i64 x.f2.f1) := (blk_cell hbk2 3).trans rfl; have q4 : w2.cell? ⟨w.heap.size, 4, none⟩ = some (.string x.f2.f2) := (blk_cell hbk2 4).trans rfl; have q5 : w2.cell? ⟨w.heap.size, 5, none⟩ = some (.slice A x.f3.length c) := (blk_cell hbk2 5).trans rfl; clear hb2 hbk2)
    | (go_at_call 17; refine (HCh.out _ HB2.out).mono ?_; rintro e w3 ⟨rfl, hb3⟩; have HB3 := Aside0.mk (below_step HB2.out hb3); clear hb3 q0 q1 q2 q3 q4 q5))
   first | exact ⟨rfl, HB3.out⟩ | (go_ret2; exact ⟨rfl, HB3.out⟩)
end Go.Proofs.YtopolnbffmljaaaDoor.Q
namespace Go.Proofs.YtopolnbffmljaaaDoor.Q
mutual
def totE : Ex → Nat
 | ⟨_, _, _, ks⟩ => totL ks + 1
def totL : List Ex → Nat
 | [] => 0
 | k :: ks => totE k + totL ks
end
mutual
def depE : Ex → Nat
 | ⟨_, _, _, ks⟩ => depL ks
def depL : List Ex → Nat
 | [] => 0
 | k :: ks => max (depE k + 1) (depL ks)
end
theorem totE_pos : ∀ x : Ex, 1 ≤ totE x
 | ⟨_, _, _, ks⟩ => by rw [totE]; omega
theorem len_tot : ∀ ks : List Ex, ks.length ≤ totL ks
 | [] => by rw [totL]; exact Nat.le_refl _
 | k :: ks => by rw [totL, List.length_cons]; have := len_tot ks; have := totE_pos k; omega
theorem mx_max (a b : Int) : mx a b = max a b := by unfold mx; split <;> omega
theorem siz_tot : ∀ x : Ex, ∀ n d : Int, (sizE x n d).1 < 1000 → (sizE x n d).2 < 1000 → 0 ≤ n → sizE x n d = (n + totE x, d + depE x) := by
 refine Ex.ind fun x ih n d h1 h2 h0 => ?_
 obtain ⟨op, nm, v, ks⟩ := x
 rw [sizE] at h1 h2 ⊢
 rw [totE, depE]
 have key : ∀ l : List Ex, (∀ k ∈ l, ∀ n d : Int, (sizE k n d).1 < 1000 → (sizE k n d).2 < 1000 → 0 ≤ n → sizE k n d = (n + totE k, d + depE k)) →
   ∀ m s : Int, d ≤ s → (sizL l m s d).1 < 1000 → (sizL l m s d).2 < 1000 → 0 ≤ m → (sizL l m s d) = (m + totL l, mx s (d + depL l)) := by
  intro l
  induction l with
  | nil =>
   intro _ m s hs _ _ _
   rw [sizL, totL, depL]
   simp only [mx_max, Prod.mk.injEq]
   exact ⟨by simp, by simp; omega⟩
  | cons k l ihl =>
   intro hk m s hs g1 g2 g0
   rw [sizL] at g1 g2 ⊢
   by_cases hc : m < 1000 ∧ d < 1000
   ·rw [if_pos hc] at g1 g2 ⊢
    have hle := siz_le k m (d + 1) g0 (by omega)
    have hmono : ∀ (l : List Ex) (m s : Int), 0 ≤ m → m ≤ 1000 → m ≤ (sizL l m s d).1 ∧ s ≤ (sizL l m s d).2 := by
     intro l
     induction l with
     | nil => intro m s _ _; rw [sizL]; exact ⟨Int.le_refl _, Int.le_refl _⟩
     | cons k l ih2 =>
      intro m s hm hm1
      rw [sizL]
      by_cases hc : m < 1000 ∧ d < 1000
      ·rw [if_pos hc]
       have h3 := siz_le k m (d + 1) hm (by omega)
       have h4 := ih2 (sizE k m (d + 1)).1 (mx s (sizE k m (d + 1)).2) (by omega) h3.2.1
       have h5 : s ≤ mx s (sizE k m (d + 1)).2 := by unfold mx; split <;> omega
       omega
      ·rw [if_neg hc]; exact ⟨Int.le_refl _, Int.le_refl _⟩
    have hm := hmono l (sizE k m (d + 1)).1 (mx s (sizE k m (d + 1)).2) (by omega) hle.2.1
    have h6 : (sizE k m (d + 1)).2 ≤ mx s (sizE k m (d + 1)).2 := by unfold mx; split <;> omega
    have hs6 : s ≤ mx s (sizE k m (d + 1)).2 := by unfold mx; split <;> omega
    have hk2 := hk k List.mem_cons_self m (d + 1) (by omega) (by omega) g0
    have hl2 := ihl (fun q hq => hk q (List.mem_cons_of_mem _ hq)) (sizE k m (d + 1)).1 (mx s (sizE k m (d + 1)).2) (by omega) g1 g2 (by omega)
    rw [hl2, hk2, totL, depL]
    have e1 : ((max (depE k + 1) (depL l) : Nat) : Int) = max ((depE k : Int) + 1) (depL l : Int) := by omega
    rw [e1]
    simp only [mx_max, Prod.mk.injEq]
    exact ⟨by rw [Int.natCast_add]; omega, by omega⟩
   ·exfalso
    rw [if_neg hc] at g1 g2
    simp only at g1 g2
    omega
 have hh := key ks ih (n + 1) d (Int.le_refl _) h1 h2 (by omega)
 rw [hh]
 simp only [mx_max, Prod.mk.injEq]
 exact ⟨by rw [Int.natCast_add]; omega, by omega⟩
theorem cnt_tot : ∀ x : Ex, ∀ d n : Int, 0 ≤ n → 0 ≤ d → ((cntE x d n).1 = true ↔ n + totE x ≤ 256 ∧ d + depE x ≤ 16) ∧ ((cntE x d n).1 = true → (cntE x d n).2 = n + totE x) := by
 refine Ex.ind fun x ih d n h0 hd => ?_
 obtain ⟨op, nm, v, ks⟩ := x
 rw [cntE, totE, depE]
 have key : ∀ l : List Ex, (∀ k ∈ l, ∀ d n : Int, 0 ≤ n → 0 ≤ d → ((cntE k d n).1 = true ↔ n + totE k ≤ 256 ∧ d + depE k ≤ 16) ∧ ((cntE k d n).1 = true → (cntE k d n).2 = n + totE k)) →
   ∀ m : Int, 0 ≤ m → m ≤ 256 → d ≤ 16 → ((cntL l (d + 1) m).1 = true ↔ m + totL l ≤ 256 ∧ d + depL l ≤ 16) ∧ ((cntL l (d + 1) m).1 = true → (cntL l (d + 1) m).2 = m + totL l) := by
  intro l
  induction l with
  | nil => intro _ m g0 g1 g2; rw [cntL, totL, depL]; refine ⟨⟨fun _ => ⟨by simpa using g1, by simpa using g2⟩, fun _ => rfl⟩, fun _ => by simp⟩
  | cons k l ihl =>
   intro hk m g0 g1 g2
   rw [cntL, totL, depL]
   have hk1 := hk k List.mem_cons_self (d + 1) m g0 (by omega)
   by_cases hc : (cntE k (d + 1) m).1 = true
   ·rw [if_pos hc, hk1.2 hc]
    have hk2 := hk1.1.1 hc
    have h3 := ihl (fun q hq => hk q (List.mem_cons_of_mem _ hq)) (m + totE k) (by omega) hk2.1 g2
    refine ⟨⟨fun h => ?_, fun h => ?_⟩, fun h => ?_⟩
    ·have := h3.1.1 h; omega
    ·exact h3.1.2 (by omega)
    ·rw [h3.2 h]; omega
   ·rw [if_neg hc]
    refine ⟨⟨fun h => by simp at h, fun h => absurd (hk1.1.2 (by omega)) hc⟩, fun h => by simp at h⟩
 by_cases hc : n + 1 > 256 ∨ d > 16
 ·rw [if_pos hc]
  refine ⟨⟨fun h => by simp at h, fun h => by omega⟩, fun h => by simp at h⟩
 ·rw [if_neg hc]
  have := key ks ih (n + 1) (by omega) (by omega) (by omega)
  refine ⟨⟨fun h => ?_, fun h => this.1.2 (by omega)⟩, fun h => ?_⟩
  ·have := this.1.1 h; omega
  ·rw [this.2 h]; omega
theorem long_ev : ∀ x : Ex, wfE x → (totE x < 1000) → ∃ b, Ev (fun k => headgateref13_long.f k x.f0 x.f1 x.f2.f0 x.f2.f1 x.f2.f2 x.f3) b ∧ (b = false → goodE x = true) := by
 refine Ex.ind fun x ih hwf ht => ?_
 have hw := (wfE_iff x).1 hwf
 obtain ⟨op, nm, v, ks⟩ := x
 simp only at ih hw ⊢
 rw [totE] at ht
 by_cases hn : (nm.size : Int) > 1000
 ·refine ⟨true, Ev.step (Ev.const (f := fun k => headgateref13_long.j0 k true op nm v.f0 v.f1 v.f2 ks) (fun k => ?_)) (fun k => ?_), fun h => by cases h⟩
  ·simp only [headgateref13_long.j0]; rfl
  ·simp only [headgateref13_long.f]; rw [if_pos hn]
 ·by_cases hv : (v.f2.size : Int) > 1000
  ·refine ⟨true, Ev.step (Ev.const (f := fun k => headgateref13_long.j0 k true op nm v.f0 v.f1 v.f2 ks) (fun k => ?_)) (fun k => ?_), fun h => by cases h⟩
   ·simp only [headgateref13_long.j0]; rfl
   ·simp only [headgateref13_long.f]; rw [if_neg hn, decide_eq_true hv]
  ·have key : ∀ m i : Nat, i + m = ks.length → ∃ b, Ev (fun k => headgateref13_long.l0 k (i : Int) op nm v.f0 v.f1 v.f2 ks) b ∧ (b = false → ∀ k ∈ ks.drop i, goodE k = true) := by
    have hlt := len_tot ks
    intro m
    induction m with
    | zero =>
     intro i hi
     refine ⟨false, Ev.step (Ev.const (f := fun k => headgateref13_long.j2 k (i : Int) false op nm v.f0 v.f1 v.f2 ks) (fun k => ?_)) (fun k => ?_), fun _ k hk => ?_⟩
     ·simp only [headgateref13_long.j2]; rfl
     ·simp only [headgateref13_long.l0]; rw [if_neg (by omega)]
     ·rw [List.drop_eq_nil_of_le (by omega)] at hk; cases hk
    | succ m ihm =>
     intro i hi
     have hil : i < ks.length := by omega
     obtain ⟨hrd, hmem⟩ := ks_at ks i hil
     have htk : totE (ks.getD i z26) < 1000 := by
      have : ∀ (l : List Ex) (k : Ex), k ∈ l → totE k ≤ totL l := by
       intro l
       induction l with
       | nil => intro k hk; cases hk
       | cons q l ihq =>
        intro k hk
        rw [totL]
        rcases List.mem_cons.1 hk with rfl | hk
        ·omega
        ·have := ihq k hk; omega
      have := this ks _ hmem
      omega
     obtain ⟨b1, hb1, hg1⟩ := ih _ hmem (hw.2.2.2.2 _ hmem) htk
     obtain ⟨b2, hb2, hg2⟩ := ihm (i + 1) (by omega)
     refine ⟨if b1 = true then true else b2, Ev.step (Ev.bind1 (f := fun k => headgateref13_long.j2 k (i : Int) true op nm v.f0 v.f1 v.f2 ks) (h := fun k t => if t = true then some true else headgateref13_long.l0 k ((i + 1 : Nat) : Int) op nm v.f0 v.f1 v.f2 ks) hb1 ?_ (fun k => ?_)) (fun k => ?_), fun h k hk => ?_⟩
     ·cases b1
      ·exact hb2
      ·exact Ev.const' fun k => rfl
     ·simp only [headgateref13_long.j2]
      rw [if_pos trivial, if_pos (by omega), if_pos (by omega), hrd, w64n i (by omega)]
     ·simp only [headgateref13_long.l0]
      rw [if_pos (by omega), decide_eq_true (by omega)]
     ·rw [drop_getD ks i hil] at hk
      cases b1
      ·rcases List.mem_cons.1 hk with rfl | hk
       ·exact hg1 rfl
       ·exact hg2 h k hk
      ·cases h
   obtain ⟨b, hb, hg⟩ := key ks.length 0 (by omega)
   refine ⟨b, Ev.step (Ev.step (f := fun k => headgateref13_long.j0 k false op nm v.f0 v.f1 v.f2 ks) hb (fun k => ?_)) (fun k => ?_), fun h => ?_⟩
   ·simp only [headgateref13_long.j0]; rfl
   ·simp only [headgateref13_long.f]; rw [if_neg hn, decide_eq_false hv]
   ·rw [goodE_iff]
    refine ⟨by show nm.size ≤ 1000; omega, by show v.f2.size ≤ 1000; omega, ?_, fun k hk => hg h k (by simpa using hk)⟩
    have := hw.2.2.1.2.1
    exact wf64 this
theorem huge_ev (x : Ex) (hwf : wfE x) : ∃ b, Ev (fun k => headgateref13_Huge.f k x.f0 x.f1 x.f2.f0 x.f2.f1 x.f2.f2 x.f3) b ∧ (b = false → goodE x = true ∧ sizE x 0 0 = ((totE x : Int), (depE x : Int))) := by
 have hs := size_ev x hwf 0 0 (by omega) (by omega) (by omega) (by omega)
 by_cases h1 : (sizE x 0 0).1 ≥ 1000
 ·exact ⟨true, Ev.bind hs (h := fun k bt => if bt.1 ≥ 1000 then some true else if bt.2 ≥ 1000 then some true else (headgateref13_long.f k x.f0 x.f1 x.f2.f0 x.f2.f1 x.f2.f2 x.f3).bind fun t => some t) (Ev.const' fun k => by rw [if_pos h1]) (fun k => rfl), fun h => by cases h⟩
 ·by_cases h2 : (sizE x 0 0).2 ≥ 1000
  ·exact ⟨true, Ev.bind hs (h := fun k bt => if bt.1 ≥ 1000 then some true else if bt.2 ≥ 1000 then some true else (headgateref13_long.f k x.f0 x.f1 x.f2.f0 x.f2.f1 x.f2.f2 x.f3).bind fun t => some t) (Ev.const' fun k => by rw [if_neg h1, if_pos h2]) (fun k => rfl), fun h => by cases h⟩
  ·have ht := siz_tot x 0 0 (by omega) (by omega) (by omega)
   have ht1 : totE x < 1000 := by
    have : (sizE x 0 0).1 = 0 + (totE x : Int) := by rw [ht]
    omega
   obtain ⟨b, hb, hg⟩ := long_ev x hwf ht1
   refine ⟨b, Ev.bind hs (h := fun k bt => if bt.1 ≥ 1000 then some true else if bt.2 ≥ 1000 then some true else (headgateref13_long.f k x.f0 x.f1 x.f2.f0 x.f2.f1 x.f2.f2 x.f3).bind fun t => some t) (Ev.same hb fun k => ?_) (fun k => rfl), fun h => ⟨hg h, ?_⟩⟩
   ·show (if _ then _ else _) = _
    rw [if_neg h1, if_neg h2]
    cases headgateref13_long.f k x.f0 x.f1 x.f2.f0 x.f2.f1 x.f2.f2 x.f3 <;> rfl
   ·rw [ht]; simp
end Go.Proofs.YtopolnbffmljaaaDoor.Q
namespace Go.Proofs.YtopolnbffmljaaaDoor.Q
theorem kids_ev (op : Int) : Ev (fun k => headgateref13_kids.f k op) (if op < 0 ∨ 21 ≤ op then -1 else arT.getD op.toNat 0) := by
 refine ⟨3, fun k hk => ?_⟩
 obtain ⟨j, rfl⟩ : ∃ j, k = j + 3 := ⟨k - 3, by omega⟩
 by_cases h : op < 0 ∨ 21 ≤ op
 ·rw [if_pos h]
  have e19 : (op == 19) = false := beq_eq_false_iff_ne.2 (by omega)
  have e20 : (op == 20) = false := beq_eq_false_iff_ne.2 (by omega)
  have e9 : op ≠ 9 := by omega
  have e16 : op ≠ 16 := by omega
  have e17 : op ≠ 17 := by omega
  have e18 : op ≠ 18 := by omega
  rcases h with h | h
  ·simp only [headgateref13_kids.f, headgateref13_kids.j0, headgateref13_kids.j1, headgateref13_kids.j2]
   rw [if_neg (show ¬ op ≥ 1 by omega), if_neg (show ¬ op ≥ 4 by omega), if_neg (show ¬ op ≥ 10 by omega), e19, e20, if_neg e9, if_neg e16, if_neg e17, if_neg e18]
   simp
  ·simp only [headgateref13_kids.f, headgateref13_kids.j0, headgateref13_kids.j1, headgateref13_kids.j2]
   rw [if_pos (show op ≥ 1 by omega), decide_eq_false (show ¬ op ≤ 3 by omega), if_pos (show op ≥ 4 by omega), if_neg (show ¬ op ≤ 8 by omega), if_pos (show op ≥ 10 by omega), if_neg (show ¬ op ≤ 15 by omega), e19, e20, if_neg e9, if_neg e16, if_neg e17, if_neg e18]
   simp
 ·rw [if_neg h]
  have hc : op = 0 ∨ op = 1 ∨ op = 2 ∨ op = 3 ∨ op = 4 ∨ op = 5 ∨ op = 6 ∨ op = 7 ∨ op = 8 ∨ op = 9 ∨ op = 10 ∨ op = 11 ∨ op = 12 ∨ op = 13 ∨ op = 14 ∨ op = 15 ∨ op = 16 ∨ op = 17 ∨ op = 18 ∨ op = 19 ∨ op = 20 := by omega
  rcases hc with rfl | rfl | rfl | rfl | rfl | rfl | rfl | rfl | rfl | rfl | rfl | rfl | rfl | rfl | rfl | rfl | rfl | rfl | rfl | rfl | rfl <;> rfl
theorem str_is (s : ByteArray) (l : List UInt8) : s.toList = l ↔ s = ⟨l.toArray⟩ := by
 constructor
 ·intro h
  have e : s.data.toList = l := by rw [← Lib.toList_data]; exact h
  cases s with
  | mk d => rw [← e]
 ·rintro rfl
  exact (Lib.toList_data _).trans (by simp)
theorem refWord_eq (s : ByteArray) : headgateref13_word.f s = some (if 0 < wordI s then wordI s else 0) := by
 unfold headgateref13_word.f
 simp only [str_is]
 by_cases h1 : s = ⟨#[105, 110, 116]⟩
 ·subst h1; rfl
 ·rw [if_neg h1]
  by_cases h2 : s = ⟨#[98, 111, 111, 108]⟩
  ·subst h2; rfl
  ·rw [if_neg h2]
   by_cases h3 : s = ⟨#[116, 101, 120, 116]⟩
   ·subst h3; rfl
   ·rw [if_neg h3]
    unfold wordI
    rw [if_neg h1, if_neg h2, if_neg h3]
    split <;> rfl
theorem empI (s : ByteArray) : (!s.toList.isEmpty) = !(decide (s = ⟨#[]⟩)) := by
 by_cases h : s = ⟨#[]⟩
 ·subst h
  rw [show (⟨#[]⟩ : ByteArray).toList = [] from (str_is _ []).2 rfl]
  rfl
 ·rw [(str_ne h).2.1, decide_eq_false h]
theorem nulB (v : Va) : (!(v.f0 == 0) || (!(v.f1 == 0) || (!v.f2.toList.isEmpty))) = !(decide (v = nullV)) := by
 rw [empI]
 have : (v = nullV) ↔ v.f0 = 0 ∧ v.f1 = 0 ∧ v.f2 = ⟨#[]⟩ := by
  cases v
  unfold nullV
  rw [S23.mk.injEq]
 rw [show decide (v = nullV) = decide (v.f0 = 0 ∧ v.f1 = 0 ∧ v.f2 = ⟨#[]⟩) from by rw [decide_eq_decide]; exact this]
 by_cases h0 : v.f0 = 0 <;> by_cases h1 : v.f1 = 0 <;> by_cases h2 : v.f2 = ⟨#[]⟩ <;> simp [h0, h1, h2]
theorem form_ev : ∀ x : Ex, wfE x → goodE x = true → Ev (fun k => headgateref13_form.f k x.f0 x.f1 x.f2.f0 x.f2.f1 x.f2.f2 x.f3) (allE x) := by
 refine Ex.ind fun x ih hwf hgd => ?_
 have hw := (wfE_iff x).1 hwf
 have hg := (goodE_iff x).1 hgd
 rw [allE_eq]
 obtain ⟨op, nm, v, ks⟩ := x
 simp only at ih hw hg ⊢
 have hlen : ks.length ≤ 9223372036854775806 := by have := hw.2.2.2.1; omega
 -- the kids
 have key : ∀ m i : Nat, i + m = ks.length → Ev (fun k => headgateref13_form.l0 k (i : Int) op nm v.f0 v.f1 v.f2 ks) ((ks.drop i).all allE) := by
  intro m
  induction m with
  | zero =>
   intro i hi
   rw [List.drop_eq_nil_of_le (by omega)]
   refine Ev.const fun k => ?_
   simp only [headgateref13_form.l0]
   rw [if_neg (by omega)]
   rfl
  | succ m ihm =>
   intro i hi
   have hil : i < ks.length := by omega
   obtain ⟨hrd, hmem⟩ := ks_at ks i hil
   rw [drop_getD ks i hil, List.all_cons]
   have h1 := ih _ hmem (hw.2.2.2.2 _ hmem) (hg.2.2.2 _ hmem)
   refine Ev.bind1 (h := fun k t => if t = true then headgateref13_form.l0 k ((i + 1 : Nat) : Int) op nm v.f0 v.f1 v.f2 ks else some false) h1 ?_ (fun k => ?_)
   ·cases hA : allE (ks.getD i z26)
    ·exact Ev.const' fun k => rfl
    ·rw [Bool.true_and]
     exact ihm (i + 1) (by omega)
   ·simp only [headgateref13_form.l0]
    rw [if_pos (by omega), if_pos (by omega), hrd, w64n i (by omega)]
 have hk : Ev (fun k => headgateref13_form.j1 k op nm v.f0 v.f1 v.f2 ks) (ks.all allE) := Ev.step (key ks.length 0 (by omega)) (fun k => by simp only [headgateref13_form.j1]; rfl)
 have hj : ∀ b : Bool, Ev (fun k => headgateref13_form.j0 k b op nm v.f0 v.f1 v.f2 ks) (!b && ks.all allE) := fun b => by
  cases b
  ·exact Ev.step hk (fun k => by simp only [headgateref13_form.j0]; rfl)
  ·exact Ev.const (fun k => by simp only [headgateref13_form.j0]; rfl)
 have hn : ∀ b : Bool, Ev (fun k => if b = true then some false else headgateref13_form.j1 k op nm v.f0 v.f1 v.f2 ks) (!b && ks.all allE) := fun b => by
  cases b
  ·exact hk
  ·exact Ev.const' fun k => rfl
 have hkd := kids_ev op
 unfold formE
 have hfk : ∀ k, headgateref13_form.f (k + 1) op nm v.f0 v.f1 v.f2 ks = (headgateref13_kids.f k op).bind fun t => _ := fun k => by
  simp only [headgateref13_form.f]
  rw [nulB]
 refine Ev.bind1 hkd ?_ hfk
 by_cases ho : op < 0 ∨ 21 ≤ op
 ·simp only [if_pos ho]
  refine Ev.const' fun k => ?_
  rw [if_neg (by omega)]
  rfl
 ·simp only [if_neg ho]
  by_cases ha : (ks.length : Int) = arT.getD op.toNat 0
  ·simp only [if_pos ha, if_neg (not_not_intro ha)]
   by_cases h1 : op = 1
   ·simp only [if_pos h1]
    refine Ev.bind (h := fun k t => if t = true then (if (!decide (v = nullV)) = true then some false else headgateref13_form.j1 k op nm v.f0 v.f1 v.f2 ks) else some false) (refName_ev nm (by omega)) ?_ (fun k => rfl)
    cases nameS nm
    ·exact Ev.const' fun k => rfl
    ·have := hn (!decide (v = nullV))
     rw [Bool.not_not] at this
     exact this
   ·simp only [if_neg h1]
    by_cases h2 : op = 2
    ·simp only [if_pos h2]
     by_cases he : nm = ⟨#[]⟩
     ·have he' := (str_is nm []).2 he
      simp only [if_pos he', decide_eq_true he, Bool.true_and]
      by_cases h0 : v.f0 = 0
      ·simp only [if_pos h0]
       rw [decide_eq_false (fun h => h h0)]
       exact hj true
      ·simp only [if_neg h0]
       rw [decide_eq_true h0, Bool.true_and]
       refine Ev.bind (h := fun k t => headgateref13_form.j0 k (t != 0) op nm v.f0 v.f1 v.f2 ks) (refChk_ev v.f0 v.f1 v.f2) ?_ (fun k => rfl)
       have := hj (chkV v != 0)
       rw [show decide (chkV v = 0) = !(chkV v != 0) from by by_cases hz : chkV v = 0 <;> simp [hz]]
       exact this
     ·have he' := fun h => he ((str_is nm []).1 h)
      simp only [if_neg he']
      rw [decide_eq_false he, Bool.false_and]
      exact hj true
    ·simp only [if_neg h2]
     by_cases h3 : op = 3
     ·simp only [if_pos h3, refWord_eq, Option.bind_some]
      by_cases hwd : 0 < wordI nm
      ·simp only [if_pos hwd]
       have hne : nm ≠ ⟨#[]⟩ := fun h => by rw [h] at hwd; exact absurd hwd (by decide)
       rw [show decide (nm ≠ ⟨#[]⟩) = true from decide_eq_true hne, decide_eq_true (show 0 ≤ wordI nm by omega), Bool.true_and, Bool.true_and]
       refine Ev.same (hn (!decide (v = nullV))) (fun k => ?_) |> fun h => by rw [Bool.not_not] at h; exact h
       rw [if_neg (by omega)]
      ·simp only [if_neg hwd]
       refine Ev.const' fun k => ?_
       rw [if_pos trivial]
       have : (decide (nm ≠ ⟨#[]⟩) && decide (0 ≤ wordI nm)) = false := by
        by_cases hz : 0 ≤ wordI nm
        ·have h0 : wordI nm = 0 := by omega
         have : nm = ⟨#[]⟩ := by
          unfold wordI at h0
          by_cases q : nm = ⟨#[]⟩
          ·exact q
          ·rw [if_neg q] at h0
           exfalso
           revert h0
           split
           ·decide
           ·split
            ·decide
            ·split <;> decide
         rw [show decide (nm ≠ ⟨#[]⟩) = false from decide_eq_false (fun h => h this)]
         rfl
        ·rw [decide_eq_false hz, Bool.and_false]
       rw [← Bool.and_assoc, this]
       rfl
     ·simp only [if_neg h3]
      by_cases he : nm = ⟨#[]⟩
      ·have he' := (str_is nm []).2 he
       simp only [if_pos he', decide_eq_true he, Bool.true_and]
       have := hn (!decide (v = nullV))
       rw [Bool.not_not] at this
       exact this
      ·have he' := fun h => he ((str_is nm []).1 h)
       simp only [if_neg he']
       rw [decide_eq_false he]
       exact Ev.const' fun k => rfl
  ·simp only [if_neg ha, if_pos ha]
   exact Ev.const' fun k => rfl
theorem refCheck_ev (x : Ex) (hwf : wfE x) (hgd : goodE x = true) (hs : sizE x 0 0 = ((totE x : Int), (depE x : Int))) : Ev (fun k => headgateref13_Check.f k x.f0 x.f1 x.f2.f0 x.f2.f1 x.f2.f2 x.f3) (chkE x) := by
 have h1 := size_ev x hwf 0 0 (by omega) (by omega) (by omega) (by omega)
 have hc := (cnt_tot x 0 0 (by omega) (by omega)).1
 have hf := form_ev x hwf hgd
 have hj : ∀ b : Bool, Ev (fun k => headgateref13_Check.j0 k b x.f0 x.f1 x.f2.f0 x.f2.f1 x.f2.f2 x.f3) (if b = true then 131 else if allE x = false then 130 else 0) := fun b => by
  cases b
  ·refine Ev.bind1 (h := fun k t => if t = true then some 0 else some 130) hf ?_ (fun k => by simp only [headgateref13_Check.j0]; rfl)
   cases allE x <;> exact Ev.const' fun k => rfl
  ·exact Ev.const (fun k => by simp only [headgateref13_Check.j0]; rfl)
 rw [hs] at h1
 refine Ev.bind (h := fun k bt => if bt.1 > 256 then headgateref13_Check.j0 k true x.f0 x.f1 x.f2.f0 x.f2.f1 x.f2.f2 x.f3 else headgateref13_Check.j0 k (decide (bt.2 > 16)) x.f0 x.f1 x.f2.f0 x.f2.f1 x.f2.f2 x.f3) h1 ?_ (fun k => rfl)
 simp only
 unfold chkE
 by_cases hb : (cntE x 0 0).1 = true
 ·have hb2 := hc.1 hb
  rw [hb, if_neg (by decide)]
  refine Ev.same (hj false) (fun k => ?_)
  rw [if_neg (by omega), decide_eq_false (by omega)]
 ·rw [Bool.not_eq_true] at hb
  rw [if_pos hb]
  by_cases ht : (totE x : Int) > 256
  ·exact Ev.same (hj true) (fun k => by rw [if_pos ht])
  ·have hd : (depE x : Int) > 16 := by
    rcases Int.lt_or_le 16 (depE x : Int) with h | h
    ·exact h
    ·have := hc.2 ⟨by omega, by omega⟩
     rw [hb] at this
     cases this
   exact Ev.same (hj true) (fun k => by rw [if_neg ht, decide_eq_true hd])
end Go.Proofs.YtopolnbffmljaaaDoor.Q
namespace Go.Proofs.YtopolnbffmljaaaDoor.Q
theorem form_op {op : Int} {nm : ByteArray} {v : Va} {n : Nat} (h : formE op nm v n = true) : 1 ≤ op ∧ op ≤ 20 ∧ (n : Int) = arT.getD op.toNat 0 := by
 unfold formE at h
 split at h
 ·cases h
 ·rename_i ho
  split at h
  ·cases h
  ·rename_i hn
   have hn2 : (n : Int) = arT.getD op.toNat 0 := Decidable.of_not_not hn
   refine ⟨?_, by omega, hn2⟩
   rcases Int.lt_or_le op 1 with h0 | h0
   ·exfalso
    have : op = 0 := by omega
    subst this
    have : arT.getD (0 : Int).toNat 0 = -1 := rfl
    omega
   ·exact h0
end Go.Proofs.YtopolnbffmljaaaDoor.Q
namespace Go.Proofs.YtopolnbffmljaaaDoor.Q
def Ok (k : Int) (y : Va) : Prop := y = nullV ∨ (y.f0 = k ∧ chkV y = 0)
def Wt (k : Int) (r : Wo) : Prop := (r.2 ≠ 0 ∧ r.1 = nullV ∧ (r.2 = 10 ∨ r.2 = 11)) ∨ (r.2 = 0 ∧ Ok k r.1)
theorem emp0 : (⟨#[]⟩ : ByteArray).toList = [] := (str_is _ []).2 rfl
theorem chk_two (n : Int) (h : n = 0 ∨ n = 1) : chkV ⟨2, n, ⟨#[]⟩⟩ = 0 := by simp [chkV, emp0, h]
theorem chk_bool (b : Bool) : chkV (boolV b) = 0 := by
 cases b
 ·exact chk_two 0 (.inl rfl)
 ·exact chk_two 1 (.inr rfl)
theorem chk_int (n : Int) : chkV (intV n) = 0 := by simp [chkV, intV, emp0]
theorem Ok.bools {y : Va} (h : Ok 2 y) : y = nullV ∨ y = boolV true ∨ y = boolV false := by
 rcases h with h | ⟨h1, h2⟩
 ·exact .inl h
 ·obtain ⟨a, b, c⟩ := y
  simp only at h1
  subst h1
  unfold chkV at h2
  simp only at h2
  rw [if_neg (by decide), if_neg (by decide), if_pos trivial] at h2
  split at h2
  ·rename_i hh
   obtain ⟨h3, h4⟩ := hh
   have h5 := (str_is c []).1 h4
   subst h5
   rcases h3 with rfl | rfl
   ·exact .inr (.inr rfl)
   ·exact .inr (.inl rfl)
  ·cases h2
theorem Wt.nul (k : Int) : Wt k (nullV, 0) := .inr ⟨rfl, .inl rfl⟩
theorem Wt.ok {k : Int} {y : Va} (h : Ok k y) : Wt k (y, 0) := .inr ⟨rfl, h⟩
theorem Wt.bool (b : Bool) : Wt 2 (boolV b, 0) := .inr ⟨rfl, .inr ⟨rfl, chk_bool b⟩⟩
theorem Wt.int (n : Int) : Wt 1 (intV n, 0) := .inr ⟨rfl, .inr ⟨rfl, chk_int n⟩⟩
theorem Wt.bind {j k : Int} {a : Wo} {f : Va → Wo} (h : Wt j a) (hf : ∀ y, Ok j y → Wt k (f y)) : Wt k (bindW a f) := by
 unfold bindW
 rcases h with ⟨h1, h2, h3⟩ | ⟨h1, h2⟩
 ·rw [if_pos h1]; exact .inl ⟨h1, rfl, h3⟩
 ·rw [if_neg (not_not_intro h1)]; exact hf _ h2
theorem doS_err (op a b : Int) (ho : op = 4 ∨ op = 5 ∨ op = 6 ∨ op = 7 ∨ op = 8) : (doS op a b).2 = 0 ∨ (doS op a b).2 = 10 ∨ (doS op a b).2 = 11 := by
 unfold doS fit
 repeat' split
 all_goals first | (exfalso; omega) | (simp; done)
theorem Wt.reck (op : Int) (a b : Va) (ho : op = 4 ∨ op = 5 ∨ op = 6 ∨ op = 7 ∨ op = 8) : Wt 1 (reckS op a b) := by
 unfold reckS
 split
 ·exact Wt.nul 1
 ·split
  ·rename_i h
   refine .inl ⟨h, rfl, ?_⟩
   rcases doS_err op a.f1 b.f1 ho with e | e
   ·exact absurd e h
   ·exact e
  ·exact Wt.int _
theorem chk_null {v : Va} (h : chkV v = 0) (h0 : v.f0 = 0) : v = nullV := by
 unfold chkV at h
 rw [if_pos h0] at h
 split at h
 ·rename_i hh
  obtain ⟨a, b, c⟩ := v
  simp only at h0 hh
  obtain ⟨rfl, h2⟩ := hh
  subst h0
  unfold nullV
  rw [(str_is c []).1 h2]
 ·cases h
theorem kindL_ok (l : List Co) : ∀ ks : List Ex, (kindL l ks).2 = 0 → (∀ k ∈ ks, (kindE l k).2 = 0) ∧ (kindL l ks).1 = ks.map (fun k => (kindE l k).1)
 | [], _ => ⟨by simp, by rw [kindL]; rfl⟩
 | k :: ks, h => by
  rw [kindL] at h ⊢
  by_cases hk : (kindE l k).2 = 0
  ·rw [if_neg (not_not_intro hk)] at h ⊢
   obtain ⟨h1, h2⟩ := kindL_ok l ks h
   refine ⟨fun q hq => ?_, ?_⟩
   ·rcases List.mem_cons.1 hq with rfl | hq
    ·exact hk
    ·exact h1 q hq
   ·rw [h2]; rfl
  ·rw [if_pos hk] at h
   exact absurd h hk
theorem fits_at : ∀ (l : List Co) (row : List Va), fitsL l row = true → ∀ i : Nat, i < l.length → Ok (rd_T58 l (i : Int)).f1 (rd_T23 row (i : Int))
 | [], _, _, i, hi => absurd hi (by simp)
 | c :: l, [], h, _, _ => by simp [fitsL] at h
 | c :: l, v :: row, h, i, hi => by
  simp only [fitsL, Bool.and_eq_true, Bool.or_eq_true, decide_eq_true_eq] at h
  obtain ⟨⟨h1, h2⟩, h3⟩ := h
  cases i with
  | zero =>
   show Ok c.f1 v
   rcases h2 with h2 | h2
   ·exact .inl (chk_null h1 h2)
   ·exact .inr ⟨h2, h1⟩
  | succ i =>
   have := fits_at l row h3 i (by simpa using hi)
   exact this
theorem worth_typed (l : List Co) (row : List Va) (hf : fitsL l row = true) : ∀ x : Ex, allE x = true → (kindE l x).2 = 0 → Wt (kindE l x).1 (worthE l row x) := by
 refine Ex.ind fun x ih ha hk => ?_
 have hfm := allE_form ha
 obtain ⟨op, nm, v, ks⟩ := x
 simp only at ih hfm
 obtain ⟨g0, g1, g2⟩ := form_op hfm
 rw [kindE] at hk ⊢
 by_cases hL : (kindL l ks).2 = 0
 ·rw [if_neg (not_not_intro hL)] at hk ⊢
  obtain ⟨k1, k2⟩ := kindL_ok l ks hL
  rw [k2] at hk ⊢
  have hkid : ∀ q ∈ ks, Wt (kindE l q).1 (worthE l row q) := fun q hq => ih q hq (allE_kid ha hq) (k1 q hq)
  rw [worthE, worthL_map]
  clear k1 k2 ih ha
  have hc : op = 1 ∨ op = 2 ∨ op = 3 ∨ op = 4 ∨ op = 5 ∨ op = 6 ∨ op = 7 ∨ op = 8 ∨ op = 9 ∨ op = 10 ∨ op = 11 ∨ op = 12 ∨ op = 13 ∨ op = 14 ∨ op = 15 ∨ op = 16 ∨ op = 17 ∨ op = 18 ∨ op = 19 ∨ op = 20 := by omega
  have one : ∀ n : Int, n = 1 → (ks.length : Int) = n → ∃ p, ks = [p] := fun n hn hl => by
   match ks, hl with
   | [p], _ => exact ⟨p, rfl⟩
   | [], h => simp at h; omega
   | _ :: _ :: _, h => simp at h; omega
  have two : ∀ n : Int, n = 2 → (ks.length : Int) = n → ∃ p q, ks = [p, q] := fun n hn hl => by
   match ks, hl with
   | [p, q], _ => exact ⟨p, q, rfl⟩
   | [], h => simp at h; omega
   | [_], h => simp at h; omega
   | _ :: _ :: _ :: _, h => simp at h; omega
  have three : ∀ n : Int, n = 3 → (ks.length : Int) = n → ∃ p q r, ks = [p, q, r] := fun n hn hl => by
   match ks, hl with
   | [p, q, r], _ => exact ⟨p, q, r, rfl⟩
   | [], h => simp at h; omega
   | [_], h => simp at h; omega
   | [_, _], h => simp at h; omega
   | _ :: _ :: _ :: _ :: _, h => simp at h; omega
  by_cases e1 : op = 1
  ·subst e1
   unfold kindO at hk ⊢
   unfold worthO
   rw [if_pos rfl] at hk ⊢
   rw [if_pos rfl]
   by_cases hz : findN nm l 0 < 0
   ·rw [if_pos hz] at hk; cases hk
   ·rw [if_neg hz]
    rw [if_neg hz]
    have hb := findN_le nm l 0 (by omega)
    obtain ⟨i, hi⟩ : ∃ i : Nat, findN nm l 0 = (i : Int) := ⟨(findN nm l 0).toNat, by omega⟩
    rw [hi]
    exact Wt.ok (fits_at l row hf i (by omega))
  ·by_cases e2 : op = 2
   ·subst e2
    have h2 : chkV v = 0 := by
     unfold formE at hfm
     rw [if_neg (by omega), if_neg (not_not_intro g2), if_neg (by omega), if_pos rfl] at hfm
     simp only [Bool.and_eq_true, decide_eq_true_eq] at hfm
     exact hfm.2.2
    exact Wt.ok (.inr ⟨rfl, h2⟩)
   ·by_cases e3 : op = 3
    ·subst e3
     exact Wt.nul _
    ·by_cases t1 : op = 9 ∨ op = 16 ∨ op = 17 ∨ op = 20
     ·obtain ⟨p, rfl⟩ : ∃ p, ks = [p] := one _ (by rcases t1 with rfl | rfl | rfl | rfl <;> rfl) g2
      have hp := hkid p List.mem_cons_self
      simp only [List.map_cons, List.map_nil, List.getD_cons_zero, List.getD_cons_succ, List.getD_nil] at hk ⊢
      generalize kindE l p = kp at hk hp ⊢
      generalize worthE l row p = wp at hp ⊢
      rcases t1 with rfl | rfl | rfl | rfl
      ·show Wt (if kp.1 = 1 then ((1, 0) : Int × Int) else (0, 133)).1 (bindW wp fun x => reckS 5 (intV 0) x)
       have hk : (if kp.1 = 1 then ((1, 0) : Int × Int) else (0, 133)).2 = 0 := hk
       split at hk
       ·rename_i h; rw [if_pos h]; exact hp.bind fun y _ => Wt.reck _ _ _ (by decide)
       ·cases hk
      ·show Wt (if kp.1 = 2 then ((2, 0) : Int × Int) else (0, 133)).1 (bindW wp fun x => if x = nullV then (x, 0) else (⟨x.f0, wrap64 (1 - x.f1), x.f2⟩, 0))
       have hk : (if kp.1 = 2 then ((2, 0) : Int × Int) else (0, 133)).2 = 0 := hk
       split at hk
       ·rename_i h
        rw [if_pos h]
        refine hp.bind fun y hy => ?_
        split
        ·exact Wt.ok (.inl ‹_›)
        ·rw [h] at hy
         rcases hy.bools with hy | hy | hy
         ·exact absurd hy ‹_›
         ·subst hy; exact Wt.ok (.inr ⟨rfl, chk_two (wrap64 (1 - 1)) (.inl (by rw [wrap_in (by unfold in64; omega)]; rfl))⟩)
         ·subst hy; exact Wt.ok (.inr ⟨rfl, chk_two (wrap64 (1 - 0)) (.inr (by rw [wrap_in (by unfold in64; omega)]; rfl))⟩)
       ·cases hk
      ·show Wt 2 (bindW wp fun x => (boolV (decide (x = nullV)), 0))
       exact hp.bind fun y _ => Wt.bool _
      ·show Wt (if kp.1 = 3 then ((1, 0) : Int × Int) else (0, 133)).1 (bindW wp fun x => if x = nullV then (nullV, 0) else (intV x.f2.size, 0))
       have hk : (if kp.1 = 3 then ((1, 0) : Int × Int) else (0, 133)).2 = 0 := hk
       split at hk
       ·rename_i h
        rw [if_pos h]
        refine hp.bind fun y hy => ?_
        split
        ·exact Wt.nul _
        ·exact Wt.int _
       ·cases hk
     ·by_cases t3 : op = 18
      ·subst t3
       obtain ⟨p, q, r, rfl⟩ := three _ rfl g2
       have hp := hkid p List.mem_cons_self
       have hq := hkid q (by simp)
       have hr := hkid r (by simp)
       simp only [List.map_cons, List.map_nil, List.getD_cons_zero, List.getD_cons_succ, List.getD_nil] at hk ⊢
       generalize kindE l p = kp at hk hp ⊢
       generalize kindE l q = kq at hk hq ⊢
       generalize kindE l r = kr at hk hr ⊢
       generalize worthE l row p = wp at hp ⊢
       generalize worthE l row q = wq at hq ⊢
       generalize worthE l row r = wr at hr ⊢
       show Wt (if kp.1 = 2 ∧ kq.1 = kr.1 then (kq.1, 0) else (0, 133)).1 (bindW wp fun x => if x = boolV true then wq else wr)
       have hk : (if kp.1 = 2 ∧ kq.1 = kr.1 then (kq.1, (0 : Int)) else (0, 133)).2 = 0 := hk
       split at hk
       ·rename_i h
        rw [if_pos h]
        refine hp.bind fun y _ => ?_
        split
        ·exact hq
        ·show Wt kq.1 wr
         rw [h.2]; exact hr
       ·cases hk
      ·obtain ⟨p, q, rfl⟩ : ∃ p q, ks = [p, q] := two _ (by
        have : op = 4 ∨ op = 5 ∨ op = 6 ∨ op = 7 ∨ op = 8 ∨ op = 10 ∨ op = 11 ∨ op = 12 ∨ op = 13 ∨ op = 14 ∨ op = 15 ∨ op = 19 := by omega
        rcases this with rfl | rfl | rfl | rfl | rfl | rfl | rfl | rfl | rfl | rfl | rfl | rfl <;> rfl) g2
       have hp := hkid p List.mem_cons_self
       have hq := hkid q (by simp)
       simp only [List.map_cons, List.map_nil, List.getD_cons_zero, List.getD_cons_succ, List.getD_nil] at hk ⊢
       generalize kindE l p = kp at hk hp ⊢
       generalize kindE l q = kq at hk hq ⊢
       generalize worthE l row p = wp at hp ⊢
       generalize worthE l row q = wq at hq ⊢
       by_cases a1 : op = 4 ∨ op = 5 ∨ op = 6 ∨ op = 7 ∨ op = 8
       ·have hk : (if kp.1 = 1 ∧ kq.1 = 1 then ((1, 0) : Int × Int) else (0, 133)).2 = 0 := by rcases a1 with rfl | rfl | rfl | rfl | rfl <;> exact hk
        have hg : Wt (if kp.1 = 1 ∧ kq.1 = 1 then ((1, 0) : Int × Int) else (0, 133)).1 (bindW wp fun x => bindW wq fun y => reckS op x y) := by
         split at hk
         ·rename_i h; rw [if_pos h]; exact hp.bind fun y _ => hq.bind fun z _ => Wt.reck _ _ _ a1
         ·cases hk
        rcases a1 with rfl | rfl | rfl | rfl | rfl <;> exact hg
       ·by_cases a2 : op = 10 ∨ op = 11 ∨ op = 12 ∨ op = 13
        ·have hk : (if kp.1 = kq.1 then ((2, 0) : Int × Int) else (0, 133)).2 = 0 := by rcases a2 with rfl | rfl | rfl | rfl <;> exact hk
         have hg : Wt (if kp.1 = kq.1 then ((2, 0) : Int × Int) else (0, 133)).1 (bindW wp fun x => bindW wq fun y => if x = nullV ∨ y = nullV then (nullV, 0) else (boolV (relS op (cmpV x y)), 0)) := by
          split at hk
          ·rename_i h
           rw [if_pos h]
           refine hp.bind fun y _ => hq.bind fun z _ => ?_
           split
           ·exact Wt.nul _
           ·exact Wt.bool _
          ·cases hk
         rcases a2 with rfl | rfl | rfl | rfl <;> exact hg
        ·by_cases a3 : op = 14 ∨ op = 15
         ·have hk : (if kp.1 = 2 ∧ kq.1 = 2 then ((2, 0) : Int × Int) else (0, 133)).2 = 0 := by rcases a3 with rfl | rfl <;> exact hk
          have hg : Wt (if kp.1 = 2 ∧ kq.1 = 2 then ((2, 0) : Int × Int) else (0, 133)).1 (bindW wp fun x => if x = boolV (decide (op = 15)) then (x, 0) else bindW wq fun y => if y = boolV (decide (op = 15)) then (y, 0) else if x = nullV ∨ y = nullV then (nullV, 0) else (boolV (decide (op = 14)), 0)) := by
           split at hk
           ·rename_i h
            rw [if_pos h]
            rw [h.1] at hp
            rw [h.2] at hq
            refine hp.bind fun y hy => ?_
            split
            ·exact Wt.ok hy
            ·refine hq.bind fun z hz => ?_
             split
             ·exact Wt.ok hz
             ·split
              ·exact Wt.nul _
              ·exact Wt.bool _
           ·cases hk
          rcases a3 with rfl | rfl <;> exact hg
         ·have a4 : op = 19 := by omega
          subst a4
          show Wt (if kp.1 = kq.1 then (kp.1, 0) else (0, 133)).1 (bindW wp fun x => if x = nullV then wq else (x, 0))
          have hk : (if kp.1 = kq.1 then (kp.1, (0 : Int)) else (0, 133)).2 = 0 := hk
          split at hk
          ·rename_i h
           rw [if_pos h]
           refine hp.bind fun y hy => ?_
           split
           ·show Wt kp.1 wq
            rw [h]; exact hq
           ·exact Wt.ok hy
          ·cases hk
 ·rw [if_pos hL] at hk
  exact absurd hk hL
end Go.Proofs.YtopolnbffmljaaaDoor.Q
namespace Go.Proofs.YtopolnbffmljaaaDoor.Q
def nz (y : Va) : Prop := y.f0 = 0 → y = nullV
theorem Ok.nz {k : Int} {y : Va} (h : Ok k y) : nz y := fun h0 => by
 rcases h with h | ⟨h1, h2⟩
 ·exact h
 ·exact chk_null h2 h0
theorem nz_intV (n : Int) : nz (intV n) := fun h => absurd (show (1 : Int) = 0 from h) (by decide)
theorem refReck_eq (k : Nat) (op : Int) (a b : Va) (na : nz a) (nb : nz b) (ha : in64 a.f1) (hb : in64 b.f1) : headgateref13_reckon.f (k + 1) op a.f0 a.f1 a.f2 b.f0 b.f1 b.f2 = some ((reckS op a b).1.f0, (reckS op a b).1.f1, (reckS op a b).1.f2, (reckS op a b).2) := by
 unfold headgateref13_reckon.f reckS
 by_cases h0 : a.f0 = 0
 ·rw [if_pos h0, if_pos (.inl (na h0))]
  rfl
 ·rw [if_neg h0]
  have h0' : ¬ a = nullV := fun e => h0 (by rw [e]; rfl)
  by_cases h1 : b.f0 = 0
  ·rw [if_pos (.inr (nb h1)), h1]
   rfl
  ·have h1' : ¬ b = nullV := fun e => h1 (by rw [e]; rfl)
   rw [if_neg (fun e => e.elim h0' h1'), beq_eq_false_iff_ne.2 h1]
   simp only [headgateref13_reckon.j0]
   rw [if_neg (by decide), ref_Do_eq op _ _ ha hb]
   show (if (doS op a.f1 b.f1).2 = 0 then _ else _) = _
   by_cases h2 : (doS op a.f1 b.f1).2 = 0
   ·rw [if_pos h2, if_neg (not_not_intro h2)]
    rfl
   ·rw [if_neg h2, if_pos h2]
    rfl
theorem fitsL_ln : ∀ (l : List Co) (row : List Va), fitsL l row = true → row.length = l.length
 | [], [], _ => rfl
 | [], _ :: _, h => by simp [fitsL] at h
 | _ :: _, [], h => by simp [fitsL] at h
 | c :: l, v :: row, h => by
  simp only [fitsL, Bool.and_eq_true] at h
  have := fitsL_ln l row h.2
  simp [this]
end Go.Proofs.YtopolnbffmljaaaDoor.Q
namespace Go.Proofs.YtopolnbffmljaaaDoor.Q
def notW (r : Wo) : Wo := bindW r fun x => if x = nullV then (x, 0) else (⟨x.f0, wrap64 (1 - x.f1), x.f2⟩, 0)
theorem Wt.forms {r : Wo} (h : Wt 2 r) : (∃ e, e ≠ 0 ∧ r = (nullV, e)) ∨ r = (nullV, 0) ∨ r = (boolV true, 0) ∨ r = (boolV false, 0) := by
 obtain ⟨v, e⟩ := r
 rcases h with ⟨h1, h2, _⟩ | ⟨h1, h2⟩
 ·exact .inl ⟨e, h1, by rw [show v = nullV from h2]⟩
 ·have h1 : e = 0 := h1
  subst h1
  rcases (Ok.bools h2) with h | h | h
  ·exact .inr (.inl (by rw [show v = nullV from h]))
  ·exact .inr (.inr (.inl (by rw [show v = boolV true from h])))
  ·exact .inr (.inr (.inr (by rw [show v = boolV false from h])))
theorem bind_err {e : Int} (he : e ≠ 0) (f : Va → Wo) : bindW (nullV, e) f = (nullV, e) := if_pos he
theorem bind_ok (v : Va) (f : Va → Wo) : bindW (v, 0) f = f v := if_neg (by simp)
theorem not_err {e : Int} (he : e ≠ 0) : notW (nullV, e) = (nullV, e) := bind_err he _
theorem not_null : notW (nullV, 0) = (nullV, 0) := by decide +kernel
theorem not_true : notW (boolV true, 0) = (boolV false, 0) := by decide +kernel
theorem not_false_ : notW (boolV false, 0) = (boolV true, 0) := by decide +kernel
theorem Wt.not {r : Wo} (h : Wt 2 r) : Wt 2 (notW r) := by
 rcases h.forms with ⟨e, he, rfl⟩ | rfl | rfl | rfl
 ·rw [not_err he]; exact h
 ·rw [not_null]; exact h
 ·rw [not_true]; exact Wt.bool _
 ·rw [not_false_]; exact Wt.bool _
theorem chkE_all {x : Ex} (h : chkE x = 0) : allE x = true := by
 unfold chkE at h
 split at h
 ·cases h
 ·split at h
  ·cases h
  ·rename_i g; simpa using g
end Go.Proofs.YtopolnbffmljaaaDoor.Q
