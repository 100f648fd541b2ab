/- Within a round: a region that draws its order and only reads, walked once in the text's order; a store of some cells. -/
import Derived.Test.YtindffllmlifiaaDoorZValueAll12
import Derived.BigQuiet
namespace Go.Proofs.YtindffllmlifiaaDoor.Q
open Go.RowKit Go.Shelf Go.Proofs.YtindffllmlifiaaDoorW.PrintWords Go.Proofs.YtindffllmlifiaaDoorW.PrintLast Go.Proofs.YtindffllmlifiaaDoorW.PrintMore
set_option linter.unusedVariables false
set_option linter.unusedSimpArgs false
section
variable {n r : Nat} {P : Program} {ops : Array Oper} {md : Region.Mode} {C : World → Prop}
theorem wpIn_of_quiet_round {o : Oper} {a : Act} {K : Act → Prop} {K' : Act → World → Prop} {Q' : Exit → Act → World → Prop} {w : World} (hnd : ∀ c, o.op ≠ .defer c) (hw : C w) (h : ∀ a w', C w' → K a → K' a w')
    (hh : o.quiet P a C K) : o.wpIn (Fence.wide.inRound r) n P a w K' Q' := by
  obtain ⟨v, h1, h2⟩ := hh
  have h3 := h1 w hw
  unfold Oper.quietAt at h3
  unfold Oper.wpIn
  refine ⟨fun _ _ => trivial, ?_⟩
  rw [Oper.semAt_plain _ _ _ hnd]
  generalize (execOp a.eval o).run P w = R at *
  cases R with
  | ok x w' =>
    cases x <;> simp only [Oper.quietUpon] at h3 <;> simp only [Oper.uponIn]
    case value u =>
      obtain ⟨e1, e2⟩ := h3
      rw [e1, e2]
      exact h _ _ hw h2
    case skip =>
      obtain ⟨e1, e2⟩ := h3
      rw [e1, ← e2]
      exact h _ _ hw h2
    case enter f args =>
      obtain ⟨e1, hc⟩ := h3
      rw [e1]
      have hc' := CallsIn.inRound r ((callsIn_wide (n := n - 1)).2 hc)
      refine ⟨(fun e => by cases e), hc'.mono ?_⟩
      rintro e w'' ⟨he, hw''⟩
      subst he
      exact h _ _ hw'' h2
  | halt x w' => simp only [Oper.quietUpon] at h3
theorem wpOpIn_of_qOp_round {i : Nat} {a : Act} {K : Act → Prop} {K' : Act → World → Prop} {Q' : Exit → Act → World → Prop} {w : World} (hnd : ∀ (j : Nat) o, ops[j]? = some o → ∀ c, o.op ≠ .defer c) (hC : C w) (h : ∀ a w', C w' → K a → K' a w')
    (hh : qOp P ops C i K a) : wpOpIn (Fence.wide.inRound r) n P ops Q' i K' a w := by
  unfold qOp at hh
  unfold wpOpIn
  split
  · rename_i ho; simp only [ho] at hh; exact h _ _ hC hh
  · rename_i o ho
    simp only [ho] at hh
    split
    · rename_i hw; simp only [hw, if_true] at hh; exact wpIn_of_quiet_round (hnd i o ho) hC h hh
    · rename_i hw; simp only [hw] at hh; exact ⟨fun _ _ => trivial, h _ _ hC hh⟩
theorem wpAnyIn_of_quiet_round {Q : Act → Prop} {Q' : Exit → Act → World → Prop} (hnd : ∀ (j : Nat) o, ops[j]? = some o → ∀ c, o.op ≠ .defer c) (hQ : ∀ a w, C w → Q a → Q' .normal a w) : ∀ (fuel : Nat) (listed : Array Bool) (a : Act) (w : World), C w →
    wpAnyQ P md ops C Q fuel listed a → wpAnyIn (Fence.wide.inRound r) n P md ops Q' fuel listed a w
  | 0, _, _, _, hw, h => ⟨h.1, hQ _ _ hw h.2⟩
  | fuel + 1, _, _, _, hw, h => ⟨fun h0 => hQ _ _ hw (h.1 h0), fun i hi => wpOpIn_of_qOp_round hnd hw (fun a' w' hw' => wpAnyIn_of_quiet_round hnd hQ fuel _ a' w' hw') (h.2 i hi)⟩
def noDefer (l : List Oper) : Bool := l.all fun o => match o.op with | .defer _ => false | _ => true
theorem noDefer_at {l : List Oper} (h : noDefer l = true) : ∀ (j : Nat) o, l.toArray[j]? = some o → ∀ c, o.op ≠ .defer c := by
  intro j o hj c hc
  have hm : o ∈ l := List.mem_of_getElem? (by simpa using hj)
  have := List.all_eq_true.1 h o hm
  rw [hc] at this
  cases this
/-- ONE WALK IN THE TEXT'S ORDER SERVES EVERY ORDER, within a round. -/
theorem wpIn_region_quiet_round {id : Nat} {Q : Exit → Act → World → Prop} {a : Act} {w : World} {l : List Oper} (hm : P.follows .mixedOrders = true) (hB : Region.lexB .any l.toArray = true) (hnd : noDefer l = true)
    (h : wpQuiet P l.toArray (fun w' => ∃ n, w' = w.drewN n) (fun a' => ∀ w', (∃ n, w' = w.drewN n) → Q .normal a' w') l a) : (Code.region id l.toArray true).wpIn (Fence.wide.inRound r) n P Q a w := by
  simp only [Region.lexB, Bool.and_eq_true] at hB
  refine wpIn_region_any hm (wpAnyIn_of_quiet_round (C := fun w' => ∃ n, w' = w.drewN n) (Q := fun a' => ∀ w', (∃ n, w' = w.drewN n) → Q .normal a' w') (noDefer_at hnd) (fun _ w' hw' h => h w' hw') _ _ _ _ ⟨1, rfl⟩ ?_)
  have := wpAnyQ_lex (C := fun w' => ∃ n, w' = w.drewN n) (md := .any) hB.1 l 0 (Array.replicate l.toArray.size false) a (by simp) (by simpa using hB.2) h
  simpa using this
end
section
variable {F : Fence} {n : Nat} {P : Program} {ops : Array Oper} {rest : List Oper} {o : Oper} {a : Act} {Q : Exit → Act → World → Prop}
/-- A gate ahead of an arm that names a world. -/
theorem gateIn_ {w : World} (op : Op) (_ho : o.op = op) (h : wpListIn F n P ops Q (o :: rest) a w) : wpListIn F n P ops Q (o :: rest) a w := h
theorem wpIn_store_run (w : World) (hN : o.dst = none) (hgd : o.guard = none) (t : TypeId) (p x : Operand) (ho : o.op = .store t p x) (g off : Nat) (e : TypeId) (cur : Array Value) (u : Value) (seg : List Value)
    (haddr : a.eval p = .pointer (some ⟨g, off, none⟩)) (hx : a.eval x = u) (hh : w.heap[g]? = some (.cells cur e (0, 0))) (hu : u.cells.toList = seg) (ht : (P.info? t).map (·.size) = some seg.length) (hfit : off + seg.length ≤ cur.size) (h1 : ∀ q ∈ seg, q.oneCell' = true)
    (h : ∀ w' cur', w'.heap[g]? = some (.cells cur' e (0, 0)) → cur'.size = cur.size → w.grownBy w' (some g) → w'.heap.size = w.heap.size → wpListIn F n P ops Q rest a w') : wpListIn F n P ops Q (o :: rest) a w := by
  obtain ⟨cur', h3, h4, h5⟩ := setCells_row seg off w cur hh hfit
  obtain ⟨s1, s2, s3, s4⟩ := setCells_same g seg off w
  refine wpListIn_plain hgd fun K hK => ?_
  have hrun := run_store_run (P := P) t u seg hh hu ht hfit h1
  unfold Oper.wpIn
  refine ⟨?_, ?_⟩
  · simp [Oper.about, ho, resolve, Target.leads, Sem.run_pure]
  · rw [Oper.semAt_plain F _ _ (by rw [ho]; intro c hc'; cases hc')]
    have hq : (execOp a.eval o).run P w = .ok .skip (w.setCells g off seg) := by
      unfold execOp
      simp only [ho, haddr, hx, Sem.run_bind, Sem.run_pure, Result.andThen_ok, hrun]
    rw [hq]
    show K (a.put o.dst undef) _
    refine hK _ _ ?_
    rw [hN]
    exact h _ cur' h3 h4 ⟨s1, s2, s3, by omega, fun k hk hne => setCells_far seg _ k (fun e => hne (by rw [e]))⟩ (by omega)
end
end Go.Proofs.YtindffllmlifiaaDoor.Q
