/- Texts of the claim, put together. -/
import Derived.Test.YtopolnbffmljaaaDoorZExprWorth2
import Derived.SizedLaws
import Derived.ChangeSlices
import Derived.Deep.Slices
namespace Go.Proofs.YtopolnbffmljaaaDoorR
open Go.RowKit Go.ChangeShapes Go.WideShapes Go.Proofs.YtopolnbffmljaaaDoorW.PrintWords
def OpensN (P : Program) (W : World) (n : Nat) (t : TypeId) {α : Type} (d : Kd α) (G : α → Prop) : Prop :=
 ∀ (H : Type) (enc : TypeId × Value → H) (cs : List Value) (y : DataW H) (ps : List MemPlace), DataW.trod enc P W 0 (fun _ => true) true n t cs = some (y, ps) →
  (∀ b ∈ y.weights P t, b ≤ reachBytes) → ∃ a, d.K W a cs ∧ G a
def Opens (P : Program) (W : World) (t : TypeId) {α : Type} (d : Kd α) (G : α → Prop) : Prop := ∀ n, OpensN P W n t d G
section
variable {P : Program} {W : World} {t e : TypeId}
theorem opens_int {k : IntKind} (hu : P.underlying t = some (.int k)) : Opens P W t (Kd.int k) (fun x => (Lit.int k x).wf = true) := by
 intro n H enc cs y ps h _
 obtain ⟨x, rfl, _, hw⟩ := DataW.trod_int hu h
 exact ⟨x, rfl, hw⟩
theorem opens_string (hu : P.underlying t = some .string) : Opens P W t Kd.string (fun s => s.size ≤ 140737488351232) := by
 intro n H enc cs y ps h hw
 obtain ⟨s, rfl, hy, _⟩ := DataW.trod_string hu h
 obtain ⟨rfl, _⟩ := Prod.mk.inj hy
 refine ⟨s, rfl, ?_⟩
 have := hw s.data.toList.length (by simp [DataW.weights])
 simpa [reachBytes] using this
theorem list_of {α : Type} {p : Nat → α → Prop} : ∀ n : Nat, (∀ i, i < n → ∃ x, p i x) → ∃ xs : List α, xs.length = n ∧ ∀ i x, xs[i]? = some x → p i x
 | 0, _ => ⟨[], rfl, fun i x h => by simp at h⟩
 | n + 1, h => by
  obtain ⟨xs, hl, hx⟩ := list_of n (fun i hi => h i (by omega))
  obtain ⟨x, hp⟩ := h n (by omega)
  refine ⟨xs ++ [x], by simp [hl], fun i y hy => ?_⟩
  rcases Nat.lt_trichotomy i n with h1 | h1 | h1
  ·rw [List.getElem?_append_left (by omega)] at hy
   exact hx i y hy
  ·subst h1
   rw [List.getElem?_append_right (by omega), hl] at hy
   simp at hy
   exact hy ▸ hp
  ·rw [List.getElem?_eq_none (by simp; omega)] at hy
   cases hy
theorem weights_mem_all {H : Type} : ∀ {ds : List (DataW H)} {d : DataW H}, d ∈ ds → ∀ b ∈ d.weights P e, b ∈ DataW.weightsAll P e ds
 | d0 :: ds, d, hd, b, hb => by
  simp only [DataW.weightsAll, List.mem_append]
  rcases List.mem_cons.1 hd with rfl | h
  ·exact .inl hb
  ·exact .inr (weights_mem_all h b hb)
 | [], _, hd, _, _ => by simp at hd
theorem opensN_slice {α : Type} {d : Kd α} {G : α → Prop} {n : Nat} (hu : P.underlying t = some (.slice e)) (hc : P.cellsOf e = d.sz) (ho : ∀ m, m < n → OpensN P W m e d G) :
  OpensN P W n t (Kd.slice e d) (fun xs => xs.length * P.bytesOf e ≤ 140737488351232 ∧ ∀ x ∈ xs, G x) := by
 intro H enc cs y ps h hw
 rcases DataW.trod_slice hu h with ⟨rfl, _⟩ | ⟨a, len, cap, elems, rest, m, rfl, rfl, hx, _, hl, hm, hlen, hel, _, _⟩
 ·exact ⟨[], ⟨none, 0, rfl, Nat.le_refl _, rfl, by simp, fun h => absurd h (Nat.lt_irrefl 0)⟩, by simp, by simp⟩
 obtain ⟨rfl, _⟩ := Prod.mk.inj hx
 simp only [DataW.weights, hu, List.mem_cons, List.mem_append] at hw
 have hw0 := hw _ (.inl rfl)
 have each : ∀ i, i < len → ∃ x : α, (∃ cs', cs'.length = d.sz ∧ d.K W x cs' ∧ ∀ j u, cs'[j]? = some u → W.cell? (a.add (i * d.sz + j)) = some u) ∧ G x := by
  intro i hi
  have h1 := hel i hi
  rw [List.getElem?_eq_getElem (show i < elems.length by omega)] at h1
  obtain ⟨cs', h2, h3⟩ := Option.bind_eq_some_iff.1 h1
  obtain ⟨x, hk, hg⟩ := ho m (by omega) H enc cs' elems[i].1 elems[i].2 h3 (fun b hb => hw b (.inr (.inl (weights_mem_all (List.mem_map.2 ⟨elems[i], List.getElem_mem _, rfl⟩) b hb))))
  obtain ⟨_, hl2, hcell⟩ := World.cells?_some h2
  refine ⟨x, ⟨cs', d.K_len hk, hk, fun j u hj => ?_⟩, hg⟩
  have hj2 : j < P.cellsOf e := by
   have := (List.getElem?_eq_some_iff.1 hj).1
   omega
  have h4 := hcell j hj2
  rw [Deep.add_add, hc] at h4
  rw [h4, hj]
 obtain ⟨xs, hxl, hxs⟩ := list_of len each
 refine ⟨xs, ⟨some a, cap, by rw [hxl], by omega, rfl, ?_, fun _ => ⟨a, rfl, fun j p hj => (hxs j p hj).1⟩⟩, ?_, fun x hx => ?_⟩
 ·unfold maxLen at hm; omega
 ·rw [hxl]
  have : len * P.bytesOf e ≤ (elems.length + rest.length) * P.bytesOf e := Nat.mul_le_mul_right _ (by omega)
  unfold reachBytes at hw0
  simp only [List.length_map] at hw0
  omega
 ·obtain ⟨i, hi, rfl⟩ := List.getElem_of_mem hx
  exact (hxs i _ (List.getElem?_eq_getElem hi)).2
theorem opens_slice {α : Type} {d : Kd α} {G : α → Prop} (hu : P.underlying t = some (.slice e)) (hc : P.cellsOf e = d.sz) (ho : Opens P W e d G) :
  Opens P W t (Kd.slice e d) (fun xs => xs.length * P.bytesOf e ≤ 140737488351232 ∧ ∀ x ∈ xs, G x) := fun _ => opensN_slice hu hc (fun m _ => ho m)
def OpensF (P : Program) (W : World) (n o : Nat) (fs : List Field) {α : Type} (d : Kd α) (G : α → Prop) : Prop :=
 ∀ (H : Type) (enc : TypeId × Value → H) (cs : List Value) (xs : List (DataW H × List MemPlace)), xs.length = fs.length →
  (∀ (i : Nat) (f : Field), fs[i]? = some f → DataW.trod enc P W 0 (fun _ => true) true n f.type ((cs.drop f.offset).take (P.cellsOf f.type)) = xs[i]?) →
  (∀ b ∈ DataW.weightsEach P (fs.map (·.type)) (xs.map (·.1)), b ≤ reachBytes) → ∃ a, d.K W a ((cs.drop o).take d.sz) ∧ G a
theorem opensF_one {α : Type} {d : Kd α} {G : α → Prop} {n o : Nat} {f : Field} (ho : f.offset = o) (hc : P.cellsOf f.type = d.sz) (h : OpensN P W n f.type d G) : OpensF P W n o [f] d G := by
 intro H enc cs xs hl hx hw
 obtain ⟨x, rfl⟩ : ∃ x, xs = [x] := by
  match xs, hl with
  | [x], _ => exact ⟨x, rfl⟩
 have h1 := hx 0 f rfl
 subst ho
 rw [hc] at h1
 exact h H enc _ x.1 x.2 h1 (fun b hb => hw b (by simp [DataW.weightsEach, hb]))
theorem opensF_cons {α β : Type} {d0 : Kd α} {d1 : Kd β} {G0 : α → Prop} {G1 : β → Prop} {n o : Nat} {f : Field} {fs : List Field} (ho : f.offset = o) (hc : P.cellsOf f.type = d0.sz) (h0 : OpensN P W n f.type d0 G0)
  (h1 : OpensF P W n (o + d0.sz) fs d1 G1) : OpensF P W n o (f :: fs) (Kd.pair d0 d1) (fun p => G0 p.1 ∧ G1 p.2) := by
 intro H enc cs xs hl hx hw
 obtain ⟨x, xs', rfl⟩ : ∃ x xs', xs = x :: xs' := by
  match xs, hl with
  | x :: xs', _ => exact ⟨x, xs', rfl⟩
 have h2 := hx 0 f rfl
 subst ho
 rw [hc] at h2
 obtain ⟨a, ka, ga⟩ := h0 H enc _ x.1 x.2 h2 (fun b hb => hw b (by simp [DataW.weightsEach, hb]))
 obtain ⟨b, kb, gb⟩ := h1 H enc cs xs' (by simpa using hl) (fun i g hg => by have := hx (i + 1) g (by simpa using hg); simpa using this) (fun b hb => hw b (by simp [DataW.weightsEach, hb]))
 refine ⟨(a, b), ⟨_, _, ?_, ka, kb⟩, ga, gb⟩
 show (cs.drop f.offset).take (d0.sz + d1.sz) = _
 rw [List.take_add, List.drop_drop]
theorem opensN_struct {α β : Type} {d : Kd α} {G : α → Prop} {n : Nat} {fs : Array Field} {f : β → α} (hu : P.underlying t = some (.struct fs)) (hs : P.cellsOf t = d.sz) (h : ∀ m, m < n → OpensF P W m 0 fs.toList d G)
  (g : α → β) (hg : ∀ a, f (g a) = a) : OpensN P W n t (Kd.iso d f) (fun b => G (f b)) := by
 intro H enc cs y ps ht hw
 obtain ⟨xs, m, rfl, hx, hl, hxl, hel⟩ := DataW.trod_struct hu ht
 obtain ⟨rfl, _⟩ := Prod.mk.inj hx
 obtain ⟨a, ka, ga⟩ := h m (by omega) H enc cs xs (by simpa using hxl) (fun i q hq => hel i q (by simpa using hq)) (fun b hb => hw b (by simp only [DataW.weights, hu]; exact hb))
 refine ⟨g a, ?_, by show G (f (g a)); rw [hg]; exact ga⟩
 show d.K W (f (g a)) cs
 rw [hg]
 have e1 : (cs.drop 0).take d.sz = cs := by rw [List.drop_zero, ← hs, ← hl, List.take_length]
 rw [e1] at ka
 exact ka
theorem opens_struct {α β : Type} {d : Kd α} {G : α → Prop} {fs : Array Field} {f : β → α} (hu : P.underlying t = some (.struct fs)) (hs : P.cellsOf t = d.sz) (h : ∀ m, OpensF P W m 0 fs.toList d G)
  (g : α → β) (hg : ∀ a, f (g a) = a) : Opens P W t (Kd.iso d f) (fun b => G (f b)) := fun _ => opensN_struct hu hs (fun m _ => h m) g hg
theorem Opens.imp {α : Type} {d : Kd α} {G G' : α → Prop} (h : Opens P W t d G) (hg : ∀ a, G a → G' a) : Opens P W t d G' := fun n H enc cs y ps ht hw => by
 obtain ⟨a, ka, ga⟩ := h n H enc cs y ps ht hw
 exact ⟨a, ka, hg a ga⟩
theorem open_arg {H : Type} {enc : TypeId × Value → H} {α : Type} {d : Kd α} {G : α → Prop} (ho : Opens P W t d G) {ts : List TypeId} {ds : List (DataW H)} {j : Nat} {v : Value} {y : DataW H} {ps : List MemPlace}
  (h : DataW.Trod enc P W 0 (fun _ => true) true t v y ps) (hsz : (DataW.weightsEach P ts ds).all (· ≤ reachBytes) = true) (ht : ts[j]? = some t) (hd : ds[j]? = some y) : ∃ a, d.K W a v.cells.toList ∧ G a := by
 obtain ⟨n, hn⟩ := h
 exact ho n H enc _ y ps hn (fun b hb => by
  have := List.all_eq_true.1 hsz b (DataW.weights_mem_each ht hd b hb)
  simpa using this)
theorem agg_form {v : Value} {l : List Value} (h : v.cells.toList = l) (hl : 2 ≤ l.length) : v = .agg l.toArray := by
 subst h
 cases v with
 | agg cs => simp [Value.cells]
 | _ => simp [Value.cells] at hl
end
end Go.Proofs.YtopolnbffmljaaaDoorR
