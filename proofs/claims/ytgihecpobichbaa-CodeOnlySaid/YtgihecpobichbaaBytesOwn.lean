/- A row of bytes that a conversion of a string lays, and what is appended to it: the row's mark stands where nothing is written. -/
import Derived.Test.YtgihecpobichbaaWMore
import Derived.Below
import Derived.Lib.FrozenHead
import Derived.Laws.BytesArg
namespace Go.Proofs.Ytgihecpobichbaa.Q
open Go.RowKit Go.Proofs.YtgihecpobichbaaW.PrintWords Go.Proofs.YtgihecpobichbaaW.PrintLast Go.Proofs.YtgihecpobichbaaW.PrintMore
set_option linter.unusedVariables false
set_option linter.unusedSimpArgs false

/-- v owns the bytes xs, in a block from base on. -/
def OwnB (w : World) (base : Nat) (e : TypeId) (v : Value) (xs : List Int) : Prop :=
  ∃ g cap cur fz, v = .slice (some ⟨g, 0, none⟩) xs.length cap ∧ base ≤ g ∧ w.heap[g]? = some (.cells cur e fz) ∧ (fz.2 ≤ xs.length ∨ cap ≤ fz.1) ∧ xs.length ≤ cap ∧ cap ≤ maxLen ∧ cur.size = cap ∧ cur.toList.take xs.length = nums .u8 xs
theorem nums_bytesOf (s : ByteArray) : nums .u8 (bytesOf s) = Lib.strCells s := by
  simp [nums, bytesOf, Lib.strCells]
theorem ownB_bytes (W : World) (base : Nat) (e : TypeId) (s : ByteArray) (hb : base ≤ W.heap.size) (hs : s.size ≤ maxLen) :
    OwnB (Lib.bytesWorld W e s) base e (.slice (some ⟨W.heap.size, 0, none⟩) s.size (grownCap W s.size 0 e)) (bytesOf s) := by
  have hl := bytesOf_length s
  have hge := grownCap_ge W s.size 0 e
  have hle := grownCap_le_maxLen W s.size 0 e hs
  have hsz : (Lib.bytesCells W e s).size = grownCap W s.size 0 e := by
    unfold Lib.bytesCells
    have : s.data.size = s.size := rfl
    simp
    omega
  refine ⟨W.heap.size, grownCap W s.size 0 e, Lib.bytesCells W e s, _, by rw [hl], hb, Lib.bytesWorld_at_new W e s, .inr ?_, by omega, hle, hsz, ?_⟩
  · rw [hsz]
    exact Nat.le_refl _
  · rw [nums_bytesOf, hl]
    unfold Lib.bytesCells
    have h : (s.data.map fun b => Value.int .u8 b.toNat).toList = Lib.strCells s := by simp [Lib.strCells]
    rw [Array.toList_append, h]
    have hl2 : s.size = (Lib.strCells s).length := (Lib.strCells_length s).symm
    conv => lhs; arg 1; rw [hl2]
    exact List.take_left
theorem OwnB.slice {w : World} {base : Nat} {e : TypeId} {v : Value} {xs : List Int} (h : OwnB w base e v xs) : ∃ A c, v = .slice A xs.length c := by
  obtain ⟨g, cap, cur, fz, h, _⟩ := h
  exact ⟨_, _, h⟩
theorem OwnB.lt {w : World} {base : Nat} {e : TypeId} {v : Value} {xs : List Int} (h : OwnB w base e v xs) : ∀ k, v.ownBlock = some k → base ≤ k ∧ k < w.heap.size := by
  intro k hk
  obtain ⟨g, cap, cur, fz, rfl, hb, hg, _⟩ := h
  simp [Value.ownBlock] at hk
  subst hk
  exact ⟨hb, (Array.getElem?_eq_some_iff.1 hg).1⟩
theorem OwnB.kept {w w' : World} {base : Nat} {e : TypeId} {v : Value} {xs : List Int} (h : OwnB w base e v xs) (hb : Below w.heap.size w w') : OwnB w' base e v xs := by
  obtain ⟨g, cap, cur, fz, rfl, h1, hg, rest⟩ := h
  refine ⟨g, cap, cur, fz, rfl, h1, ?_, rest⟩
  rw [hb.block g (Array.getElem?_eq_some_iff.1 hg).1]
  exact hg
theorem OwnB.cells {w : World} {base : Nat} {e : TypeId} {v : Value} {xs : List Int} (h : OwnB w base e v xs) {g : Nat} (hg : v.ownBlock = some g) : ∀ j u, (nums .u8 xs)[j]? = some u → w.cell? ((⟨g, 0, none⟩ : Addr).add j) = some u := by
  intro j u hu
  obtain ⟨g', cap, cur, fz, rfl, _, hgg, _, _, _, _, htake⟩ := h
  simp [Value.ownBlock] at hg
  subst hg
  have hadd : (⟨g', 0, none⟩ : Addr).add j = ⟨g', j, none⟩ := by unfold Addr.add; split <;> simp_all
  rw [hadd, cell_of_row w g' j cur e fz hgg]
  rw [← htake, List.getElem?_take] at hu
  split at hu
  · simpa using hu
  · cases hu
theorem OwnB.string {P : Program} {w : World} {base : Nat} {e' src dst e : TypeId} {v : Value} {xs : List Int} (hs : P.underlying src = some (.slice e)) (he : P.underlying e = some (.int .u8)) (hd : P.underlying dst = some .string)
    (h : OwnB w base e' v xs) : (convert src dst v).run P w = .ok (.string (strOfNums xs)) w := by
  have hc := fun g => h.cells (g := g)
  obtain ⟨g, cap, cur, fz, rfl, _⟩ := h
  refine run_convert_bytes_arg w src e hs he g 0 xs.length cap xs rfl (fun i hi => ?_) dst hd
  have hc := hc g rfl i (.int .u8 (xs.getD i 0)) (by simp [nums, List.getElem?_eq_getElem (show i < xs.length by omega), List.getD_eq_getElem?_getD])
  have ha : (⟨g, 0, none⟩ : Addr).add i = ⟨g, 0 + i, none⟩ := by unfold Addr.add; split <;> simp_all
  rwa [ha] at hc
/-- Cells are written where no mark stands. -/
theorem store_between (P : Program) (g o : Nat) (t : TypeId) (fz : Nat × Nat) : ∀ (vs : List Value) (i : Nat) (cur : Array Value) (w : World), w.heap[g]? = some (.cells cur t fz) → (fz.2 ≤ o + i ∨ cur.size ≤ fz.1) → o + i + vs.length ≤ cur.size → (∀ v ∈ vs, v.oneCell' = true) →
    (storeCells ⟨g, o, none⟩ vs i).run P w = .ok () (w.setRow g (cur.toList.take (o + i) ++ vs ++ cur.toList.drop (o + i + vs.length)).toArray)
  | [], i, cur, w, hg, _, _, _ => by
    simp only [storeCells, List.append_nil, List.length_nil, Nat.add_zero, List.take_append_drop, Array.toArray_toList]
    rw [setRow_self w g cur t fz hg]
    rfl
  | v :: rest, i, cur, w, hg, hfz, hl, h1 => by
    have hi : o + i < cur.size := by simp at hl; omega
    have hadd : (⟨g, o, none⟩ : Addr).add i = ⟨g, o + i, none⟩ := by unfold Addr.add; split <;> simp_all
    have hcell : w.cell? ⟨g, o + i, none⟩ = some cur[o + i] := by simp [World.cell?, hg, hi]
    have hfro : w.frozen? ⟨g, o + i, none⟩ = false := by
      obtain ⟨lo, hi'⟩ := fz
      simp only [World.frozen?, hg, Bool.and_eq_false_iff, decide_eq_false_iff_not]
      simp only at hfz
      omega
    have hst : (store ((⟨g, o, none⟩ : Addr).add i) v).run P w = .ok () (w.setRow g (cur.setIfInBounds (o + i) v)) := by
      rw [hadd, run_store P w _ v _ (h1 v (by simp)), hcell]
      simp [hfro, setCell_eq_setRow w g (o + i) cur t fz v hg]
    have ih := store_between P g o t fz rest (i + 1) (cur.setIfInBounds (o + i) v) (w.setRow g (cur.setIfInBounds (o + i) v)) (setRow_heap w g cur _ t _ hg) (by rw [Array.size_setIfInBounds]; omega) (by simp at hl ⊢; omega) (fun x hx => h1 x (by simp [hx]))
    simp only [storeCells, Sem.run_bind, hst, Result.andThen_ok, ih, setRow_setRow]
    congr 3
    have e := list_seg_step cur.toList (o + i) v rest (by simp at hl ⊢; omega)
    simpa [Array.toList_setIfInBounds, Nat.add_assoc] using e
section
variable {P : Program} {ops : Array Oper} {rest : List Oper} {o : Oper} {a : Act} {Q : Exit → Act → World → Prop}
theorem run_append_ownB (w : World) (base : Nat) (t u ty e : TypeId) (i : TypeInfo) (ht : P.underlying t = some (.slice e)) (hu : P.underlying u = some .string) (hi : P.info? e = some i) (hz : i.zero = some (.int .u8 0))
    (hsize : i.size = 1) (hby : i.bytes = 1) (v : Value) (xs : List Int) (hown : OwnB w base e v xs) (s : ByteArray) (hbytes : xs.length + s.size ≤ 140737488355328) (hbase : base ≤ w.heap.size) :
    ∃ v' w', (Builtin.append_ #[t, u] ty #[v, .string s]).run P w = .ok v' w' ∧ OwnB w' base e v' (xs ++ bytesOf s) ∧ w.grownBy w' v.ownBlock := by
  have hc := fun g => hown.cells (g := g)
  obtain ⟨g, cap, cur, fz, rfl, hbg, hg, hfz, hnc, hcm, hcs, htake⟩ := hown
  have hlen : (nums .u8 xs ++ Lib.strCells s).length = xs.length + s.size := by rw [List.length_append, nums_length, Lib.strCells_length]
  have hl2 : (xs ++ bytesOf s).length = xs.length + s.size := by rw [List.length_append, bytesOf_length]
  have hn2 : nums .u8 (xs ++ bytesOf s) = nums .u8 xs ++ Lib.strCells s := by rw [← nums_bytesOf]; simp [nums]
  by_cases hroom : xs.length + s.size ≤ cap
  · have hf := Lib.run_firstCells_string (P := P) w 1 s
    have hst := store_between P g xs.length e fz (Lib.strCells s) 0 cur w hg (by rw [hcs]; simpa using hfz) (by rw [Lib.strCells_length]; omega) (Lib.strCells_oneCell s)
    simp only [Nat.add_zero, Lib.strCells_length] at hst
    refine ⟨_, _, (by simp [Builtin.append_, run_underlying ht, run_underlying hu, sizeOf, typeInfo, hi, hsize, Builtin.lenOf, hroom, hf, Addr.add_lit, hst] : (Builtin.append_ #[t, u] ty #[.slice (some ⟨g, 0, none⟩) xs.length cap, .string s]).run P w = .ok (.slice (some ⟨g, 0, none⟩) (xs.length + s.size) cap) (w.setRow g (cur.toList.take xs.length ++ Lib.strCells s ++ cur.toList.drop (xs.length + s.size)).toArray)), ⟨g, cap, _, fz, by rw [hl2], hbg, setRow_heap w g cur _ e _ hg, ?_, by omega, hcm, ?_, ?_⟩, ⟨rfl, rfl, rfl, by simp, fun k _ hk => setRow_other w g k _ (fun e => hk (by simp [Value.ownBlock, e]))⟩⟩
    · rcases hfz with h | h
      · exact .inl (by omega)
      · exact .inr h
    · simp only [List.size_toArray, List.length_append, List.length_take, List.length_drop, Array.length_toList, Lib.strCells_length]
      omega
    · rw [htake, hl2, hn2, ← hlen]
      exact List.take_left
  · have hm : xs.length + s.size ≤ maxLen := by simp only [maxLen]; omega
    have hr := Lib.run_append_grow_string (P := P) w t u ty e i (.int .u8 0) ht hu hi hz ⟨g, 0, none⟩ xs.length cap (nums .u8 xs) (by rw [hsize, nums_length]; omega) (hc g rfl) s (by omega) (by simp only [maxLen] at hm; omega) (by rw [hby]; exact growslice_fits (by omega) (by omega))
    have hge := grownCap_ge w (xs.length + s.size) cap e
    have hcm2 : grownCap w (xs.length + s.size) cap e ≤ maxLen := grownCap_le_maxLen w (xs.length + s.size) cap e hm
    refine ⟨_, _, hr, ⟨w.heap.size, _, _, (0, 0), by rw [hl2], hbase, heap_alloc_new w.drew _, .inl (Nat.zero_le _), by omega, hcm2, ?_, ?_⟩, ⟨rfl, rfl, rfl, by simp, fun k hk _ => heap_alloc_old w.drew _ hk⟩⟩
    · have hz1 : (Value.int IntKind.u8 0).cells.size = 1 := rfl
      simp only [Array.size_append, List.size_toArray, size_zeroCells, hz1, nums_length, Lib.strCells_length]
      omega
    · simp only [Array.toList_append, List.append_assoc]
      rw [← List.append_assoc, hl2, hn2, ← hlen]
      exact List.take_left
/-- The operation, for the walk: behind 'at_builtin'. -/
theorem wp_append_ownB (w0 w : World) (base : Nat) (hgd : o.guard = none) (sl x : Operand) (t u e : TypeId)
    (ho : o.op = .call { callee := .builtin .append, args := #[sl, x], argTypes := #[t, u] })
    (ht : P.underlying t = some (.slice e)) (hu : P.underlying u = some .string) (hinfo : (P.info? e).map (fun i => (i.zero, i.size, i.bytes)) = some (some (.int .u8 0), 1, 1))
    (v : Value) (xs : List Int) (hs : a.eval sl = v) (hown : OwnB w base e v xs) (s : ByteArray) (hx : a.eval x = .string s) (hbytes : xs.length + s.size ≤ 140737488355328) (hB : Below base w0 w) (hbase : base ≤ w.heap.size)
    (h : ∀ v' w', OwnB w' base e v' (xs ++ bytesOf s) → Below base w0 w' → base ≤ w'.heap.size → wpList P ops Q rest (a.put o.dst v') w') : wpList P ops Q (o :: rest) a w := by
  obtain ⟨i0, hi, hzz⟩ := Option.map_eq_some_iff.1 hinfo
  simp only [Prod.mk.injEq] at hzz
  obtain ⟨hz0, hz1, hz2⟩ := hzz
  refine wpList_plain hgd fun K hK => ?_
  obtain ⟨v', w', hr, h2, h3⟩ := run_append_ownB (P := P) w base t u o.type e i0 ht hu hi hz0 hz1 hz2 v xs hown s hbytes hbase
  unfold Oper.wp execOp
  simp only [ho, resolve, invoke, builtin, Sem.run_bind, Sem.run_pure, Result.andThen_ok, List.map_toArray, List.map_cons, List.map_nil, hs, hx, hr]
  exact hK _ _ (h v' w' h2 (hB.grown h3 hbase (fun k hk => (hown.lt k hk).1)) (by have := h3.size; omega))
end
theorem strNums_bytesOf (s : ByteArray) : strOfNums (bytesOf s) = s := by
  apply ByteArray.ext
  apply Array.ext'
  unfold strOfNums bytesOf
  simp [List.map_map]
  conv => rhs; rw [← List.map_id s.data.toList]
  apply List.map_congr_left
  intro b _
  have := b.toNat_lt
  apply UInt8.toNat_inj.1
  simp
end Go.Proofs.Ytgihecpobichbaa.Q
