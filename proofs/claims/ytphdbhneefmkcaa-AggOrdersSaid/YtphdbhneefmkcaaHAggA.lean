/- agg.merges: which function it hands out: walked. The blocks of a walk. -/
import Derived.Test.YtphdbhneefmkcaaBx
import Derived.Test.YtphdbhneefmkcaaHNum
import Derived.WalkLawsBesides
import Derived.Laws.EntriesVeiled
namespace Go.Proofs.Ytphdbhneefmkcaa.Q
open Go.RowKit Go.Proofs.YtphdbhneefmkcaaW.PrintWords Go.Proofs.YtphdbhneefmkcaaW.PrintLast Go.Proofs.YtphdbhneefmkcaaW.PrintMore
set_option linter.unusedVariables false
set_option linter.unusedSimpArgs false

theorem mkf : ∀ (fn : Fn) (first cap : Array Value) (w : World), (Instr.makeFunc fn first cap).run Try.prog w = .ok (.func fn first cap) w := fun _ _ _ _ => rfl
theorem fn_eq : ∀ (fn : Fn) (first cap : Array Value) (w : World), (binOp .eql 66 (.func fn first cap) .nilFunc).run Try.prog w = .ok (.bool false) w := fun _ _ _ _ => by kernel_rfl
theorem nil_eq : ∀ (w : World), (binOp .eql 66 .nilFunc .nilFunc).run Try.prog w = .ok (.bool true) w := fun _ => by kernel_rfl
/-- Which function merges hands out. -/
def MergeOf (kind : Int) (v : Value) (w : World) (B : Nat) : Prop :=
  ((kind = 1 ∨ kind = 2) ∧ v = .func (.func 42) #[] #[]) ∨ (kind = 3 ∧ v = .func (.func 43) #[] #[]) ∨
  (∃ g s, ((kind = 4 ∧ s = 1) ∨ (kind = 5 ∧ s = -1)) ∧ v = .func (.func 40) #[] #[.pointer (some ⟨g, 0, none⟩)] ∧ B ≤ g ∧ w.heap[g]? = some (.cells #[.int .i64 s] 3 (0, 0))) ∨
  ((kind < 1 ∨ kind > 5) ∧ v = .nilFunc)
set_option maxHeartbeats 8000000 in
set_option maxRecDepth 100000 in
theorem merges_calls (kind : Int) (w : World) : Calls Try.prog 29 #[.int .i64 kind] w fun e w' => (∃ v, e = .returned v ∧ MergeOf kind v w' w.heap.size) ∧ Below w.heap.size w w' := by
  have hmf := mkf
  obtain ⟨Q, hQ⟩ : ∃ Q : Ending → World → Prop, Q = fun e w' => (∃ v, e = .returned v ∧ MergeOf kind v w' w.heap.size) ∧ Below w.heap.size w w' := ⟨_, rfl⟩
  rw [← hQ]
  have hQ' : ∀ v w', MergeOf kind v w' w.heap.size → Below w.heap.size w w' → Q (.returned v) w' := fun v w' h1 h2 => by rw [hQ]; exact ⟨⟨v, rfl, h1⟩, h2⟩
  clear hQ
  by_cases h0 : kind < 0
  · go_enter Try.func29, Try.ntmps29
    go_wp2
    exact hQ' _ _ (.inr (.inr (.inr ⟨.inl (by omega), rfl⟩))) (by repeat (first | exact Below.refl _ _ | apply below_alloc))
  by_cases h6 : kind ≥ 6
  · go_enter Try.func29, Try.ntmps29
    go_wp2
    exact hQ' _ _ (.inr (.inr (.inr ⟨.inr (by omega), rfl⟩))) (by repeat (first | exact Below.refl _ _ | apply below_alloc))
  rcases (show kind = 0 ∨ kind = 1 ∨ kind = 2 ∨ kind = 3 ∨ kind = 4 ∨ kind = 5 by omega) with rfl | rfl | rfl | rfl | rfl | rfl
  all_goals
    clear h0 h6
    go_enter Try.func29, Try.ntmps29
    go_wp2
  · exact hQ' _ _ (.inr (.inr (.inr ⟨.inl (by omega), rfl⟩))) (by repeat (first | exact Below.refl _ _ | apply below_alloc))
  · exact hQ' _ _ (.inl ⟨by omega, rfl⟩) (by repeat (first | exact Below.refl _ _ | apply below_alloc))
  · exact hQ' _ _ (.inl ⟨by omega, rfl⟩) (by repeat (first | exact Below.refl _ _ | apply below_alloc))
  · exact hQ' _ _ (.inr (.inl ⟨rfl, rfl⟩)) (by repeat (first | exact Below.refl _ _ | apply below_alloc))
  · exact hQ' _ _ (.inr (.inr (.inl ⟨w.heap.size, 1, .inl ⟨rfl, rfl⟩, rfl, Nat.le_refl _, blk_alloc (blk_alloc (blk_new w _) _) _⟩))) (by repeat (first | exact Below.refl _ _ | apply below_alloc))
  · exact hQ' _ _ (.inr (.inr (.inl ⟨w.heap.size + 1, -1, .inr ⟨rfl, rfl⟩, rfl, Nat.le_succ _, by have := blk_alloc (blk_new (w.alloc (.cells #[.int .i64 1] 3)) (.cells #[.int .i64 (-1)] 3)) (.cells #[.nilFunc, .func (.func 42) #[] #[], .func (.func 42) #[] #[], .func (.func 43) #[] #[], .func (.func 40) #[] #[.pointer (some ⟨w.heap.size, 0, none⟩)], .func (.func 40) #[] #[.pointer (some ⟨w.heap.size + 1, 0, none⟩)]] 76); rwa [World.size_alloc] at this⟩))) (by repeat (first | exact Below.refl _ _ | apply below_alloc))
/-- A block of three that were laid one behind the other, behind a call. -/
theorem blk3 {w w1 : World} {o1 o2 o3 : Obj} (hb : Below (((w.alloc o1).alloc o2).alloc o3).heap.size (((w.alloc o1).alloc o2).alloc o3) w1) :
    w1.heap[w.heap.size]? = some o1 ∧ w1.heap[w.heap.size + 1]? = some o2 ∧ w1.heap[w.heap.size + 1 + 1]? = some o3 ∧ Below w.heap.size w w1 ∧ w.heap.size + 1 + 1 < w1.heap.size := by
  refine ⟨blk_below (blk_alloc (blk_alloc (blk_new w _) _) _) hb, ?_, ?_, below_step (by repeat (first | exact Below.refl _ _ | apply below_alloc)) hb, ?_⟩
  · have := blk_below (blk_alloc (blk_new (w.alloc o1) o2) o3) hb
    rwa [World.size_alloc] at this
  · have := blk_below (blk_new ((w.alloc o1).alloc o2) o3) hb
    rwa [World.size_alloc, World.size_alloc] at this
  · have := hb.size
    simp at this
    omega
theorem blk2 {w w1 : World} {o1 o2 : Obj} (hb : Below ((w.alloc o1).alloc o2).heap.size ((w.alloc o1).alloc o2) w1) :
    w1.heap[w.heap.size]? = some o1 ∧ w1.heap[w.heap.size + 1]? = some o2 ∧ Below w.heap.size w w1 ∧ w.heap.size + 1 < w1.heap.size := by
  refine ⟨blk_below (blk_alloc (blk_new w _) _) hb, ?_, below_step (by repeat (first | exact Below.refl _ _ | apply below_alloc)) hb, ?_⟩
  · have := blk_below (blk_new (w.alloc o1) o2) hb
    rwa [World.size_alloc] at this
  · have := hb.size
    simp at this
    omega
theorem blk_put6 {w : World} {g : Nat} {t : TypeId} {x0 x1 x2 x3 x4 x5 : Value} (h : w.heap[g]? = some (.cells #[x0, x1, x2, x3, x4, x5] t (0, 0))) (y0 y1 y2 y3 y4 y5 : Value) :
    ((((((w.setCell ⟨g, 0, none⟩ y0).setCell ⟨g, 1, none⟩ y1).setCell ⟨g, 2, none⟩ y2).setCell ⟨g, 3, none⟩ y3).setCell ⟨g, 4, none⟩ y4).setCell ⟨g, 5, none⟩ y5).heap[g]? = some (.cells #[y0, y1, y2, y3, y4, y5] t (0, 0)) :=
  blk_set (cs := #[y0, y1, y2, y3, y4, x5]) (blk_set (cs := #[y0, y1, y2, y3, x4, x5]) (blk_set (cs := #[y0, y1, y2, x3, x4, x5]) (blk_set (cs := #[y0, y1, x2, x3, x4, x5]) (blk_set (cs := #[y0, x1, x2, x3, x4, x5]) (blk_set h 0 y0) 1 y1) 2 y2) 3 y3) 4 y4) 5 y5
theorem blk_put3 {w : World} {g : Nat} {t : TypeId} {x0 x1 x2 : Value} (h : w.heap[g]? = some (.cells #[x0, x1, x2] t (0, 0))) (y0 y1 y2 : Value) :
    (((w.setCell ⟨g, 0, none⟩ y0).setCell ⟨g, 1, none⟩ y1).setCell ⟨g, 2, none⟩ y2).heap[g]? = some (.cells #[y0, y1, y2] t (0, 0)) :=
  blk_set (cs := #[y0, y1, x2]) (blk_set (cs := #[y0, x1, x2]) (blk_set h 0 y0) 1 y1) 2 y2
end Go.Proofs.Ytphdbhneefmkcaa.Q
