/- Texts of the claim, put together. -/
import Derived.Test.YtopolnbffmljaaaDoorZExprWorth12
import Derived.Test.YtopolnbffmljaaaDoorRows
import Derived.Test.YtopolnbffmljaaaDoorZExprWorth5
import Derived.Stop.LaidErr
import Derived.Lib.LaidTab
import Derived.Deep.Strs
open Go.RowKit Go.Proofs.YtopolnbffmljaaaDoorW.PrintWords Go.Proofs.YtopolnbffmljaaaDoorW.PrintLast Go.Proofs.YtopolnbffmljaaaDoorW.PrintMore
set_option linter.unusedVariables false
set_option linter.unusedSimpArgs false
namespace Go.Proofs.YtopolnbffmljaaaDoor.Q
open Go.RowKit Go.Proofs.YtopolnbffmljaaaDoorR Go.Proofs.YtopolnbffmljaaaDoorW.PrintWords
theorem cells_of_strs {H : Type} {enc : TypeId × Value → H} {P : Program} {w : World} {base : Nat} {sp : Nat → Bool} {held : Bool} {fuel : Nat} {t e : TypeId} {n : Nat} {cs : List Value} {zs : List (List UInt8)} {p : List MemPlace}
  (ht : P.underlying t = some (.array n e)) (he : P.underlying e = some .string) (hce : P.cellsOf e = 1) (hct : P.cellsOf t = n)
  (h : DataW.trod enc P w base sp held fuel t cs = some (.agg (zs.map fun z => .lit (.string z)), p)) : cs = zs.map fun z => Value.string ⟨z.toArray⟩ := by
 cases fuel with
 | zero => simp [DataW.trod] at h
 | succ fuel =>
  simp only [DataW.trod, ht, hce, hct, Nat.mul_one] at h
  split at h
  ·rename_i hl
   obtain ⟨xs, hm, hx⟩ := Option.map_eq_some_iff.1 h
   have hxs : xs.map (·.1) = zs.map fun z => (DataW.lit (.string z) : DataW H) := by
    have := congrArg Prod.fst hx
    simpa using this
   have hxl : xs.length = n := by simpa using Lib.mapM_length hm
   have hzl : zs.length = n := by
    have := congrArg List.length hxs
    simp at this
    omega
   apply List.ext_getElem?
   intro i
   by_cases hi : i < n
   ·obtain ⟨b, hb, hf⟩ := Lib.mapM_at hm i i (by simp [hi])
    obtain ⟨z, hc, rfl, _⟩ := DataW.trod_string he hf
    have h1 : cs[i]? = some (.string z) := by
     have := congrArg (·[0]?) hc
     simpa [List.getElem?_take, List.getElem?_drop] using this
    have h2 : (xs.map (·.1))[i]? = some (DataW.lit (.string z.data.toList) : DataW H) := by simp [hb]
    rw [hxs] at h2
    simp only [List.getElem?_map, Option.map_eq_some_iff, DataW.lit.injEq, Lit.string.injEq] at h2
    obtain ⟨z', hz', rfl⟩ := h2
    simp [h1, hz']
   ·rw [List.getElem?_eq_none (by omega), List.getElem?_eq_none (by simp; omega)]
  ·cases h
theorem gW : Tryd.prog.globalNamed "headgate/expr.words" = some 1 := by kernel_rfl
theorem gWt : (Tryd.prog.globals[(1 : Nat)]?).map (·.type) = some 87 := by kernel_rfl
theorem gA : Tryd.prog.globalNamed "headgate/expr.arity" = some 2 := by kernel_rfl
theorem gAt : (Tryd.prog.globals[(2 : Nat)]?).map (·.type) = some 106 := by kernel_rfl
theorem gN : Tryd.prog.globalNamed "headgate/expr.null" = some 0 := by kernel_rfl
theorem gNt : (Tryd.prog.globals[(0 : Nat)]?).map (·.type) = some 23 := by kernel_rfl
theorem ce_str : Tryd.prog.cellsOf 9 = 1 := by kernel_rfl
theorem ce_int : Tryd.prog.cellsOf 3 = 1 := by kernel_rfl
theorem ct_words : Tryd.prog.cellsOf 87 = 4 := by kernel_rfl
theorem ct_ar : Tryd.prog.cellsOf 106 = 21 := by kernel_rfl
theorem words_eq : (Rows.laid_headgate_expr_words : DataW Unit) = .agg (([[], [105, 110, 116], [98, 111, 111, 108], [116, 101, 120, 116]] : List (List UInt8)).map fun z => .lit (.string z)) := by kernel_rfl
theorem arity_eq : (Rows.laid_headgate_expr_arity : DataW Unit) = Lib.tabData .i64 arT := by kernel_rfl
theorem null_eq : (Rows.laid_headgate_expr_null : DataW Unit) = .agg [.lit (.int .i64 0), .lit (.int .i64 0), .lit (.string [])] := by kernel_rfl
theorem glob_of_laid (W : World) (h : laidMet Tryd.prog [("headgate/expr.words", Rows.laid_headgate_expr_words), ("headgate/expr.arity", Rows.laid_headgate_expr_arity), ("headgate/expr.null", Rows.laid_headgate_expr_null)] W) : GlobE W := by
 have h2 := h.tail
 have h3 := h2.tail
 rw [words_eq] at h
 rw [arity_eq] at h2
 rw [null_eq] at h3
 have hA := Lib.tabIs_of_head (P := Tryd.prog) gA gAt Tryd.underlying106 Tryd.underlying3 ce_int ct_ar h2
 obtain ⟨_, ⟨g1, t1, cs1, f1, p1, q1, hg1, ht1, hv1, hd1, _, _⟩, _⟩ := h
 obtain rfl := Option.some.inj (gW.symm.trans hg1)
 obtain rfl := Option.some.inj (gWt.symm.trans ht1)
 have e1 := cells_of_strs Tryd.underlying87 Tryd.underlying9 ce_str ct_words hd1
 obtain ⟨_, ⟨g3, t3, cs3, f3, p3, q3, hg3, ht3, hv3, hd3, _, _⟩, _⟩ := h3
 obtain rfl := Option.some.inj (gN.symm.trans hg3)
 obtain rfl := Option.some.inj (gNt.symm.trans ht3)
 obtain ⟨y0, y1, y2, m, hx, hl, e0, e4, e5⟩ := Go.Deep.trod_struct3 Tryd.underlying23 hd3
 obtain ⟨z0, c0, rfl, _⟩ := DataW.trod_int Tryd.underlying3 e0
 obtain ⟨z1, c1, rfl, _⟩ := DataW.trod_int Tryd.underlying2 e4
 obtain ⟨z2, c2, rfl, _⟩ := DataW.trod_string Tryd.underlying9 e5
 have hc := congrArg Prod.fst hx
 simp only [DataW.agg.injEq, List.cons.injEq, DataW.lit.injEq, Lit.int.injEq, Lit.string.injEq, true_and, and_true] at hc
 obtain ⟨rfl, rfl, hz2⟩ := hc
 have hz2' : z2 = ⟨#[]⟩ := by
  cases z2 with
  | mk d => exact congrArg ByteArray.mk (Array.ext' hz2.symm)
 subst hz2'
 have n0 := World.var?_cell gN hv3 0
 have n1 := World.var?_cell gN hv3 1
 have n2 := World.var?_cell gN hv3 2
 have k0 := congrArg (·[0]?) c0
 have k1 := congrArg (·[0]?) c1
 have k2 := congrArg (·[0]?) c2
 refine ⟨?_, ?_, ?_, fun i hi => ?_, fun i hi => ?_⟩
 ·rw [n0]; simp [List.getElem?_take, List.getElem?_drop] at k0; exact k0.2
 ·rw [n1]; simp [List.getElem?_take, List.getElem?_drop] at k1; exact k1.2
 ·rw [n2]; simp [List.getElem?_take, List.getElem?_drop] at k2; exact k2.2
 ·rw [World.var?_cell gW hv1 i]
  have e1' : cs1 = (([[], [105, 110, 116], [98, 111, 111, 108], [116, 101, 120, 116]] : List (List UInt8)).map fun z => Value.string ⟨z.toArray⟩).toArray := by rw [← e1]
  rw [e1']
  match i, hi with
  | 0, _ => rfl
  | 1, _ => rfl
  | 2, _ => rfl
  | 3, _ => rfl
 ·exact hA.cell gA i hi
theorem gbytes26 : Tryd.prog.bytesOf 26 = 80 := by kernel_rfl
theorem gopens23 (W : World) : Opens Tryd.prog W 23 k23 (fun x => ((Lit.int .i64 x.f0).wf = true) ∧ ((Lit.int .i64 x.f1).wf = true) ∧ (x.f2.size ≤ 140737488351232)) :=
 opens_struct (f := fun x : Va => (x.f0, x.f1, x.f2)) Tryd.underlying23 (by kernel_rfl) (fun m => (opensF_cons rfl (by kernel_rfl) ((opens_int Tryd.underlying3) m) (opensF_cons rfl (by kernel_rfl) ((opens_int Tryd.underlying2) m) (opensF_one rfl (by kernel_rfl) ((opens_string Tryd.underlying9) m))))) (fun p => ⟨p.1, p.2.1, p.2.2⟩) (fun _ => rfl)
theorem fold26 {w : World} {x : Ex} {cs : List Value} (h : (F26 k26).K w x cs) : k26.K w x cs := by
 obtain ⟨_, _, rfl, rfl, ⟨_, _, rfl, rfl, ⟨_, _, rfl, s2, ⟨A5, c5, rfl, l5, g5⟩⟩⟩⟩ := h
 obtain rfl := k23_open s2
 exact k26_mk w x l5 g5
theorem opens26 (W : World) : Opens Tryd.prog W 26 k26 wfE := by
 intro n
 induction n using Nat.strongRecOn with
 | _ n ih =>
  have h := opensN_struct (P := Tryd.prog) (W := W) (n := n) (f := fun x : Ex => (x.f0, x.f1, x.f2, x.f3)) Tryd.underlying26 (d := Kd.pair (Kd.int .i64) (Kd.pair Kd.string (Kd.pair k23 (Kd.slice 26 k26)))) (by kernel_rfl)
   (fun m hm => opensF_cons rfl (by kernel_rfl) ((opens_int Tryd.underlying3) m) (opensF_cons rfl (by kernel_rfl) ((opens_string Tryd.underlying9) m) (opensF_cons rfl (by kernel_rfl) (gopens23 W m)
    (opensF_one rfl (by kernel_rfl) (opensN_slice Tryd.underlying24 (by kernel_rfl) (fun j hj => ih j (by omega)))))))
   (fun p => ⟨p.1, p.2.1, p.2.2.1, p.2.2.2⟩) (fun _ => rfl)
  intro H enc cs y ps ht hw
  obtain ⟨x, hk, hg⟩ := h H enc cs y ps ht hw
  refine ⟨x, fold26 hk, (wfE_iff x).2 ?_⟩
  simpa only [gbytes26] using hg
end Go.Proofs.YtopolnbffmljaaaDoor.Q
