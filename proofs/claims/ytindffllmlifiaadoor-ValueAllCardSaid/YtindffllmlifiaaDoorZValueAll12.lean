/- value.All's iterator: what it hands to its loop: walked. -/
import Derived.Test.YtindffllmlifiaaDoorZValueAll5
import Derived.Test.YtindffllmlifiaaDoorZValueAll1
import Derived.RangeFuncNested
import Derived.RangeFuncBox
import Derived.RangeFuncLeaves
import Derived.Shelf.Abstract
import Derived.WalkKit
import Derived.TacticsInMore
import Derived.LoopNIn
import Derived.LoopIn
namespace Go.Proofs.YtindffllmlifiaaDoor.Q
open Go.RowKit Go.Shelf Go.Proofs.YtindffllmlifiaaDoorW.PrintWords Go.Proofs.YtindffllmlifiaaDoorW.PrintLast Go.Proofs.YtindffllmlifiaaDoorW.PrintMore
set_option linter.unusedVariables false
set_option linter.unusedSimpArgs false
attribute [local go_sem] Oper.semAt_some
theorem wide_fn (f : Nat) : Fence.wide.fn f = True := rfl
attribute [local go_sem] wide_fn
abbrev Va := S23
/-- What value.All hands out: places and values. -/
def allOf (l : List Va) : List (Nat × Va) := (List.range l.length).map fun i => (i, rd_T23 l (i : Int))
def encIV (x : Nat × Va) : Array Value := #[.int .i64 (x.1 : Int), .agg #[.int .i64 x.2.f0, .int .i64 x.2.f1, .string x.2.f2]]
theorem allOf_length (l : List Va) : (allOf l).length = l.length := by simp [allOf]
set_option maxHeartbeats 4000000 in
set_option maxRecDepth 100000 in
theorem all1_in {β : Type} (pj : β → Nat × Va) (ws : List β) (n : Nat) (hn : 1 ≤ n) (lp Bx g : Nat) (A : Option Addr) (c : Nat) (l : List Va) (V : World) (hV : Kd.C k23 V A l.length l) (hg : ∀ ad, A = some ad → ad.block = g) (hlen : l.length ≤ 140737488355328) (Kp : World → World → Prop) (hKp : ∀ {A C : World}, Kp A C → C.heap[g]? = A.heap[g]?) (J Jx : List β → World → Prop) (hws : ws.map pj = allOf l)
    (hY : ∀ pre x W, J pre W → pre.length < ws.length → YieldAt Fence.wide (n - 1) Tryd.prog lp (encIV (pj x)) W fun e W' =>
      (e = .returned (.bool true) ∧ J (pre ++ [x]) W' ∧ Kp W W') ∨ (e = .returned (.bool false) ∧ Jx (pre ++ [x]) W'))
    (W : World) (hW : W.heap[g]? = V.heap[g]?) (h1 : W.cell? ⟨Bx, 0, none⟩ = some (.slice A l.length c)) (hJ : AbidesFrom W.heap.size J) (h0 : J [] W) :
    CallsIn Fence.wide n Tryd.prog 34 #[.func (.yield lp) #[] #[], .pointer (some ⟨Bx, 0, none⟩)] W fun e W' => (∃ v, e = .returned v) ∧
      ((∃ ys, ys = ws ∧ J ys W') ∨ (∃ pre, pre <+: ws ∧ Jx pre W')) := by
  have hwl : ws.length = l.length := by rw [← List.length_map (f := pj), hws, allOf_length]
  refine callsIn_of_wp Tryd.func34 rfl trivial ?_ rfl
  simp only [Tryd.ntmps34, List.size_toArray, List.length_cons, List.length_nil, Nat.reduceAdd, Nat.reduceSub, Array.replicate_succ, Array.replicate_zero, List.push_toArray, List.append_toArray, List.nil_append, List.cons_append]
  have HS := Aside0.mk (Nat.le_refl W.heap.size)
  gi_wp2
  gi_loopw [7] (fun x wr => ∃ i : Nat, x = .int .i64 (i : Int) ∧ i ≤ l.length ∧ J (ws.take i) wr ∧ wr.heap[g]? = V.heap[g]?)
    (fun x wr => match x with | .int _ z => ((l.length : Int) - z).toNat | _ => 0)
  case atStart =>
    exact ⟨0, by simp, by omega, by simpa using h0, hW⟩
  case round =>
    obtain ⟨i, rfl, hi, hJi, hgr⟩ := hrel
    by_cases hlt : i < l.length
    · have hlb : decide ((i : Int) < (l.length : Int)) = true := decide_eq_true (by omega)
      have hlb2 : decide (i < l.length) = true := decide_eq_true hlt
      obtain ⟨ad, rfl, x0, x1, x2⟩ := at_T23 hV (i : Int) (by omega) (by omega)
      have hgb := hg ad rfl
      have hab : ∀ k, (ad.add k).block = g := fun k => by rw [← hgb]; unfold Addr.add; split <;> rfl
      have hpx : pj (ws[i]'(by omega)) = (i, rd_T23 l (i : Int)) := by
        have h1 : (ws.map pj)[i]'(by rw [List.length_map]; omega) = pj (ws[i]'(by omega)) := List.getElem_map _
        rw [← h1]
        simp only [hws]
        simp [allOf]
      have htk : ws.take (i + 1) = ws.take i ++ [ws[i]'(by omega)] := List.take_succ_eq_append_getElem (by omega)
      obtain ⟨x, hx⟩ : ∃ x, ws[i]'(by omega) = x := ⟨_, rfl⟩
      rw [hx] at hpx htk
      clear hx
      obtain ⟨v, hv⟩ : ∃ v, rd_T23 l (i : Int) = v := ⟨_, rfl⟩
      rw [hv] at x0 x1 x2 hpx
      clear hv
      rw [Int.toNat_natCast] at x0 x1 x2
      replace x0 := (World.cell?_of_block (w := V) (w' := wr) (a := ad.add (i * 3)) (by rw [hab]; exact hgr)).trans x0
      replace x1 := (World.cell?_of_block (w := V) (w' := wr) (a := ⟨(ad.add (i * 3)).block, (ad.add (i * 3)).off + 1, none⟩) (by rw [hab]; exact hgr)).trans x1
      replace x2 := (World.cell?_of_block (w := V) (w' := wr) (a := ⟨(ad.add (i * 3)).block, (ad.add (i * 3)).off + 2, none⟩) (by rw [hab]; exact hgr)).trans x2
      have hgl : g < wr.heap.size := by have := World.block_lt_of_cell? wr _ x0; rw [hab] at this; exact this
      obtain ⟨wq, hwq⟩ : ∃ wq, wr.alloc (.cells #[.int .i64 v.f0, .int .i64 v.f1, .string v.f2] 23) = wq := ⟨_, rfl⟩
      have hJq : J (ws.take i) wq := by rw [← hwq]; exact hJ _ _ _ none hJi (World.grownBy_alloc wr _ none) (fun r e => by cases e)
      have hgq : wq.heap[g]? = V.heap[g]? := by rw [← hwq, ← hgr]; exact (World.grownBy_alloc wr _ none).block g hgl (by simp)
      obtain ⟨fn, tmps, assign, body, hy, hR⟩ := hY _ x wq hJq (by rw [List.length_take]; omega)
      rw [hpx] at hy
      dsimp only [encIV] at hy
      rw [← hwq] at hy hR
      have hil : (i : Int) < (l.length : Int) := by omega
      rw [← hwq] at hgq
      have HQ := Aside0.mk hgq
      clear hab hgb hlt hV hwq hgq hJq hpx
      gi_wp2
      refine hR.mono ?_
      rintro e W3 (⟨rfl, hJ4, hk4⟩ | ⟨rfl, hJx4⟩)
      · have h3 := hKp hk4
        gi_wp2
        go_roundw
        case rel => exact ⟨i + 1, by congr 1, by omega, by rw [htk]; exact hJ4, h3.trans HQ.out⟩
        case measure => simp; omega
      · gi_wp2
        refine bodyPost_ret (results_none rfl _ _ _) rfl ?_
        exact ⟨⟨_, rfl⟩, .inr ⟨_, by rw [← htk]; exact List.take_prefix _ _, hJx4⟩⟩
    · have hlb : decide ((i : Int) < (l.length : Int)) = false := decide_eq_false (by omega)
      have hlb2 : decide (i < l.length) = false := decide_eq_false hlt
      gi_wp2
      go_end0
      rw [List.take_of_length_le (by omega)] at hJi
      exact ⟨⟨_, rfl⟩, .inl ⟨_, rfl, hJi⟩⟩
theorem all1_stops {β : Type} (pj : β → Nat × Va) (ws : List β) (n : Nat) (hn : 1 ≤ n) (Bx g : Nat) (A : Option Addr) (c : Nat) (l : List Va) (V : World) (hV : Kd.C k23 V A l.length l) (hg : ∀ ad, A = some ad → ad.block = g) (hlen : l.length ≤ 140737488355328) (hws : ws.map pj = allOf l) (hBs : Bx < V.heap.size) (Kp : World → World → Prop) (hKp : ∀ {A C : World}, Kp A C → C.heap[g]? = A.heap[g]?)
    (h1 : V.cell? ⟨Bx, 0, none⟩ = some (.slice A l.length c)) (hgl : g < V.heap.size) :
    SeqStopsK Fence.wide n Tryd.prog 34 #[.pointer (some ⟨Bx, 0, none⟩)] (fun x => encIV (pj x)) Kp (fun ys => ys = ws) (fun pre => pre <+: ws) ws.length V :=
  fun lp J Jx W hW hJ _ hY h0 => all1_in pj ws n hn lp Bx g A c l V hV hg hlen Kp hKp J Jx hws hY W (hW.block g hgl) ((hW.cell (p := ⟨Bx, 0, none⟩) hBs).trans h1) hJ h0
end Go.Proofs.YtindffllmlifiaaDoor.Q
/- value.All: walked: it hands back its iterator over a copy of the row. -/
namespace Go.Proofs.YtindffllmlifiaaDoor.Q
open Go.RowKit Go.Shelf Go.Proofs.YtindffllmlifiaaDoorW.PrintWords Go.Proofs.YtindffllmlifiaaDoorW.PrintLast Go.Proofs.YtindffllmlifiaaDoorW.PrintMore
set_option linter.unusedVariables false
set_option linter.unusedSimpArgs false
set_option maxHeartbeats 4000000 in
set_option maxRecDepth 100000 in
theorem All_calls (A : Option Addr) (c : Nat) (l : List Va) (hlen : l.length ≤ 4398046511103) (w : World) (hC : Kd.C k23 w A l.length l) :
    Calls Tryd.prog 22 #[.slice A l.length c] w fun e w' => ∃ (Bx : Nat) (A' : Option Addr) (c' : Nat), e = .returned (.func (.func 34) #[] #[.pointer (some ⟨Bx, 0, none⟩)]) ∧ w.heap.size ≤ Bx ∧ Boxed w' Bx 24 (.slice A' l.length c') ∧ Kd.R k23 23 w' w.heap.size (fun _ => True) (.slice A' l.length c') l ∧ Below w.heap.size w w' := by
  have HC := Aside0.mk hC
  clear hC
  go_enter Tryd.func22, Tryd.ntmps22
  go_wp2_with ((with_reducible refine gate_builtin (b := .append) (xs := #[.const (.slice none 0 0), .tmp 4]) rfl ?_); (try (refine gate_guard (by rfl) ?_; dsimp only)); at_builtin; refine Kd.R_append_rows k23 (Rr := k23.K w) (w0 := w) w.heap.size rfl (.const (.slice none 0 0)) (.tmp 4) 24 23 (.agg #[.int .i64 0, .int .i64 0, .string ⟨#[]⟩]) 32 rfl Tryd.underlying24 info23 rfl (by decide) (by omega) (.slice none 0 0) [] l _ _ _ (fun _ => True) (fun _ => False) rfl rfl ?aO ?aR ?aM (fun _ h => h.elim) ?aF ?aB ?aS ?aL ?_; (case aO => exact Kd.R_nil _ _ _ _ _); (case aR => exact HC.out); (case aM => exact (fun x cs h => by obtain rfl := k23_open h; exact k23_mkM _ _ _ x)); (case aF => exact (fun _ _ => trivial)); (case aB => exact Below.refl _ _); (case aS => exact Nat.le_refl _); (case aL => simp only [List.length_nil]; omega); intro v1 w1 ho hb hg hat; rw [List.nil_append] at ho; obtain ⟨A1, c1, rfl⟩ := Kd.R_slice ho; have HO := Aside0.mk ho; have HB := Aside0.mk hb; have HZ := Aside0.mk hg.size; clear ho hb hg hat)
  go_ret
  exact ⟨w1.heap.size, A1, c1, rfl, HZ.out, Boxed.new _ _ _, Kd.R_alloc HO.out _, below_alloc HB.out _⟩
end Go.Proofs.YtindffllmlifiaaDoor.Q
