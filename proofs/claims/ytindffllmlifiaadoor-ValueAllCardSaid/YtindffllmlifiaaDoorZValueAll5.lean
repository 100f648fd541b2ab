/- append(b, s...) and append(b, x) on bytes that the call owns, plain and within a fence, in the words of the kinds. -/
import Derived.Test.YtindffllmlifiaaDoorK
import Derived.Lib.AppendStr
import Derived.OwnWalkIn
import Derived.Maps.AppendAt
namespace Go.Proofs.YtindffllmlifiaaDoor.Q
open Go.RowKit Go.Proofs.YtindffllmlifiaaDoorW.PrintWords Go.Proofs.YtindffllmlifiaaDoorW.PrintLast Go.Proofs.YtindffllmlifiaaDoorW.PrintMore
set_option linter.unusedVariables false
set_option linter.unusedSimpArgs false
/-- Bytes that the call owns. -/
def RB (w : World) (base : Nat) (e : TypeId) (v : Value) (xs : List Int) : Prop := w.ownsRow base e 1 v xs.length (nums .u8 xs)
theorem strCells_nums (s : ByteArray) : Lib.strCells s = nums .u8 (bytesOf s) := by
  unfold Lib.strCells nums bytesOf
  rw [List.map_map]
  rfl
theorem RB.nil (w : World) (base : Nat) (e : TypeId) : RB w base e (.slice none 0 0) [] := World.ownsRow_nil _ _ _ _
theorem RB.of_R {w : World} {base : Nat} {e : TypeId} {ok : Nat → Prop} {v : Value} {xs : List Int} (h : Kd.R (Kd.int .u8) e w base ok v xs) : RB w base e v xs := Kd.own_of_R h
theorem RB.R {w : World} {base : Nat} {e : TypeId} {v : Value} {xs : List Int} (h : RB w base e v xs) : Kd.R (Kd.int .u8) e w base (fun _ => True) v xs := Kd.R_of_own (enc := Value.int .u8) (h1 := fun _ => rfl) h (fun _ _ => trivial)
theorem RB.slice {w : World} {base : Nat} {e : TypeId} {v : Value} {xs : List Int} (h : RB w base e v xs) : ∃ A c, v = .slice A xs.length c := Kd.R_slice h.R
theorem RB.below {w w' : World} {base : Nat} {e : TypeId} {v : Value} {xs : List Int} (h : RB w base e v xs) (hb : Below w.heap.size w w') : RB w' base e v xs := RB.of_R (Kd.R_below h.R hb)
theorem RB.alloc {w : World} {base : Nat} {e : TypeId} {v : Value} {xs : List Int} (h : RB w base e v xs) (o : Obj) : RB (w.alloc o) base e v xs := RB.of_R (Kd.R_alloc h.R o)
section
variable {P : Program} {ops : Array Oper} {rest : List Oper} {o : Oper} {a : Act} {Q : Exit → Act → World → Prop}
theorem wp_append_text (w0 w : World) (base : Nat) (hgd : o.guard = none) (sl x : Operand) (t u e : TypeId)
    (ho : o.op = .call { callee := .builtin .append, args := #[sl, x], argTypes := #[t, u] })
    (ht : P.underlying t = some (.slice e)) (hu : P.underlying u = some .string) (hinfo : (P.info? e).map (fun i => (i.zero, i.size, i.bytes)) = some (some (.int .u8 0), 1, 1))
    (v : Value) (xs : List Int) (hs : a.eval sl = v) (hown : RB w base e v xs) (s : ByteArray) (hx : a.eval x = .string s) (hbytes : xs.length + s.size ≤ 140737488355328) (hB : Below base w0 w) (hbase : base ≤ w.heap.size)
    (h : ∀ v' w', RB w' base e v' (xs ++ bytesOf s) → Below base w0 w' → base ≤ w'.heap.size → w.grownBy w' v.ownBlock → wpList P ops Q rest (a.put o.dst v') w') : wpList P ops Q (o :: rest) a w := by
  obtain ⟨i0, hi, hzz⟩ := Option.map_eq_some_iff.1 hinfo
  simp only [Prod.mk.injEq] at hzz
  obtain ⟨hz0, hz1, hz2⟩ := hzz
  refine Lib.wpList_append_own_string w hgd sl x t u ho base e i0 ht hu hi hz0 hz1 hz2 v xs.length (nums .u8 xs) hs hown s hx (by simp only [maxLen]; omega) hbytes hbase ?_
  intro v' w' ho' hg _
  refine h v' w' ?_ (hB.grown hg hbase (fun k hk => own_base hown k hk)) (by have := hg.size; omega) hg
  unfold RB
  rw [nums_append, List.length_append, bytesOf_length, ← strCells_nums]
  exact ho'
variable {F : Fence} {n : Nat}
theorem wpIn_append_text (w : World) (base : Nat) (hgd : o.guard = none) (sl x : Operand) (t u e : TypeId)
    (ho : o.op = .call { callee := .builtin .append, args := #[sl, x], argTypes := #[t, u] })
    (ht : P.underlying t = some (.slice e)) (hu : P.underlying u = some .string) (hinfo : (P.info? e).map (fun i => (i.zero, i.size, i.bytes)) = some (some (.int .u8 0), 1, 1))
    (v : Value) (xs : List Int) (hs : a.eval sl = v) (hown : RB w base e v xs) (s : ByteArray) (hx : a.eval x = .string s) (hbytes : xs.length + s.size ≤ 140737488355328) (hbase : base ≤ w.heap.size)
    (h : ∀ v' w', RB w' base e v' (xs ++ bytesOf s) → w.grownBy w' v.ownBlock → wpListIn F n P ops Q rest (a.put o.dst v') w') : wpListIn F n P ops Q (o :: rest) a w := by
  obtain ⟨i0, hi, hzz⟩ := Option.map_eq_some_iff.1 hinfo
  simp only [Prod.mk.injEq] at hzz
  obtain ⟨hz0, hz1, hz2⟩ := hzz
  refine wpListIn_plain hgd fun K hK => ?_
  obtain ⟨v', w', hr, h2, h3, h4⟩ := Lib.run_append_own_string (P := P) w base t u o.type e i0 ht hu hi hz0 hz1 hz2 v xs.length (nums .u8 xs) hown s (by simp only [maxLen]; omega) hbytes hbase
  unfold Oper.wpIn
  refine ⟨?_, ?_⟩
  · simp [Oper.about, ho, resolve, Target.leads, Sem.run_pure]
  · rw [Oper.semAt_plain F _ _ (by rw [ho]; intro c hc'; cases hc')]
    simp [execOp, ho, resolve, invoke, builtin, hs, hx, hr, Result.andThen]
    refine hK _ _ (h v' w' ?_ h3)
    unfold RB
    rw [nums_append, List.length_append, bytesOf_length, ← strCells_nums]
    exact h2
/-- Behind the literal's own block. -/
theorem wpIn_append_byte (w : World) (base : Nat) (g : Nat) (hgw : g = w.heap.size) (hgd : o.guard = none) (sl x : Operand) (t e : TypeId)
    (ho : o.op = .call { callee := .builtin .append, args := #[sl, x], argTypes := #[t, t] })
    (ht : P.underlying t = some (.slice e)) (hinfo : (P.info? e).map (fun i => (i.zero, i.size, i.bytes)) = some (some (.int .u8 0), 1, 1))
    (v : Value) (xs ys : List Int) (hs : a.eval sl = v) (hown : RB w base e v xs) (hx : a.eval x = .slice (some ⟨g, 0, none⟩) ys.length ys.length) (hbytes : xs.length + ys.length ≤ 140737488355328) (hbase : base ≤ w.heap.size)
    (h : ∀ v' w', RB w' base e v' (xs ++ ys) → (w.alloc (.cells (nums .u8 ys).toArray e)).grownBy w' v.ownBlock → wpListIn F n P ops Q rest (a.put o.dst v') w') : wpListIn F n P ops Q (o :: rest) a (w.alloc (.cells (nums .u8 ys).toArray e)) := by
  subst hgw
  obtain ⟨i0, hi, hzz⟩ := Option.map_eq_some_iff.1 hinfo
  simp only [Prod.mk.injEq] at hzz
  obtain ⟨hz0, hz1, hz2⟩ := hzz
  refine wpListIn_append_own _ hgd sl x t ho base e i0 (.int .u8 0) 1 1 ht hi hz0 hz1 hz2 rfl (by decide) v xs.length (nums .u8 xs) hs (hown.alloc _) ⟨w.heap.size, 0, none⟩ ys.length ys.length (nums .u8 ys) hx (by rw [nums_length]; omega) ?_ ?_ (by simp only [maxLen]; omega) (by omega) (by rw [World.size_alloc]; omega) ?_
  · intro j u hj
    have hjl : j < (nums .u8 ys).length := (List.getElem?_eq_some_iff.1 hj).1
    have ha : (⟨w.heap.size, 0, none⟩ : Addr).add j = ⟨w.heap.size, j, none⟩ := by unfold Addr.add; split <;> simp_all
    rw [ha]
    exact (blk_cell (blk_new w _) j).trans (by simpa using hj)
  · intro u hu
    unfold nums at hu
    obtain ⟨x, _, rfl⟩ := List.mem_map.1 hu
    rfl
  · intro v' w' ho' hg _
    refine h v' w' ?_ hg
    unfold RB
    rw [nums_append, List.length_append]
    exact ho'
end
end Go.Proofs.YtindffllmlifiaaDoor.Q
