/- package code's Uncols: walked. Printed by wip/gen/readx.py. -/
import Derived.Test.YtgihecpobichbaaReadP
import Derived.Test.YtgihecpobichbaaHUnnums
import Derived.Test.YtgihecpobichbaaVarL
namespace Go.Proofs.Ytgihecpobichbaa.Q
open Go.RowKit Go.Proofs.YtgihecpobichbaaW.PrintWords Go.Proofs.YtgihecpobichbaaW.PrintLast Go.Proofs.YtgihecpobichbaaW.PrintMore
set_option linter.unusedVariables false
set_option linter.unusedSimpArgs false
theorem nextC_item (p G : Nat) (l : List Int) (hl : l.length ≤ 1000000000) (w0 w : World) (hs : RdS w0 w G l) (hp : PBox w p G) (hne : p ≠ G) :
    Calls Try.prog 83 #[.pointer (some ⟨p, 0, none⟩)] w (RdOut w0 w G (itemC l) (fun x : S43 => .agg #[.string x.f0, .int .i64 x.f1])) := by
  unfold RdOut itemC
  cases h1 : itemW l with
  | none =>
    refine (nextC_1 p G l hl w0 w hs hp hne h1).mono ?_
    rintro E w' ⟨rfl, hg⟩
    exact ⟨fun x l' h => (by simp at h), fun _ => rfl, hg⟩
  | some q =>
    obtain ⟨x, l1⟩ := q
    cases h2 : itemB l1 with
    | none =>
      refine (nextC_2 p G l hl w0 w hs hp hne x l1 h1 h2).mono ?_
      rintro E w' ⟨rfl, hg⟩
      exact ⟨fun x l' h => (by simp [h2] at h), fun _ => rfl, hg⟩
    | some q =>
      obtain ⟨y, l2⟩ := q
      refine (nextC_0 p G l hl w0 w hs hp hne x l1 h1 y l2 h2).mono ?_
      rintro E w' ⟨rfl, hs2, hg⟩
      refine ⟨fun x' l' h => ?_, fun h => (by simp [h2] at h), hg⟩
      simp only [Option.bind_some, h2, Option.map_some, Option.some.injEq, Prod.mk.injEq] at h
      obtain ⟨rfl, rfl⟩ := h
      exact ⟨rfl, hs2⟩
theorem itemC_less (l : List Int) (a : S43) (r : List Int) (h : itemC l = some (a, r)) : r.length < l.length := by
  unfold itemC at h
  obtain ⟨⟨x, l1⟩, h1, h2⟩ := Option.bind_eq_some_iff.1 h
  obtain ⟨⟨y, l2⟩, h3, h4⟩ := Option.map_eq_some_iff.1 h2
  simp only [Prod.mk.injEq] at h4 h3
  obtain ⟨_, rfl⟩ := h4
  have e1 := itemW_lt l x l1 h1
  have e2 := itemB_lt l1 y l2 h3
  omega
set_option maxHeartbeats 4000000 in
set_option maxRecDepth 100000 in
theorem itemsC_calls (p G : Nat) (l : List Int) (hl : l.length ≤ 1000000000) (w0 w : World) (hs : RdS w0 w G l) (hp : PBox w p G) (hne : p ≠ G) (RR : Option (List S43 × List Int)) (hRR : readItems itemC l = RR) :
    Calls Try.prog 82 #[.pointer (some ⟨G, 0, none⟩), .func (.func 83) #[] #[.pointer (some ⟨p, 0, none⟩)]] w fun E w' =>
      (∀ xs l', RR = some (xs, l') → ∃ v, E = .returned v ∧ Kd.R k43 43 w' w.heap.size (fun _ => True) v xs ∧ RdS w0 w' G l') ∧ (RR = none → E = .panicked badP) ∧ w.grownBy w' (some G) := by
  have hG := hs.lt
  have hplt := blk_lt hp
  have HP0 := Aside0.mk hp
  have hnum := num_un G l (by omega) w0 w hs
  obtain ⟨Q, hQ⟩ : ∃ Q : Ending → World → Prop, Q = fun E w' => (∀ xs l', RR = some (xs, l') → ∃ v, E = .returned v ∧ Kd.R k43 43 w' w.heap.size (fun _ => True) v xs ∧ RdS w0 w' G l') ∧ (RR = none → E = .panicked badP) ∧ w.grownBy w' (some G) := ⟨_, rfl⟩
  rw [← hQ]
  have hno : ∀ w', RR = none → w.grownBy w' (some G) → Q (.panicked badP) w' := by
    intro w' h1 h2
    rw [hQ]
    exact ⟨fun xs l' h => (by rw [h1] at h; cases h), fun _ => rfl, h2⟩
  have hyes : ∀ w' v xs l', RR = some (xs, l') → Kd.R k43 43 w' w.heap.size (fun _ => True) v xs → RdS w0 w' G l' → w.grownBy w' (some G) → Q (.returned v) w' := by
    intro w' v xs l' h1 h2 h3 h4
    rw [hQ]
    refine ⟨fun xs' l'' h => ?_, fun h => (by rw [h1] at h; cases h), h4⟩
    rw [h1] at h
    simp only [Option.some.injEq, Prod.mk.injEq] at h
    obtain ⟨rfl, rfl⟩ := h
    exact ⟨v, rfl, h2, h3⟩
  clear hQ
  unfold readItems at hRR
  have hun := unS_le l 0 0
  have hj : 0 ≤ (un l).2.1 ∧ (un l).2.1 ≤ (l.length : Int) := ⟨hun.1, by simpa [un] using hun.2⟩
  obtain ⟨n, hn⟩ : ∃ n, (un l).1 = n := ⟨_, rfl⟩
  have hn0 : 0 ≤ n := hn ▸ un_range l (by omega)
  obtain ⟨l1, hl1⟩ : ∃ l1, l.drop (un l).2.1.toNat = l1 := ⟨_, rfl⟩
  have hl1' : l1.length ≤ 1000000000 := by rw [← hl1, List.length_drop]; omega
  by_cases he : (un l).2.2 = 0
  · rw [if_pos he, hn, hl1] at hRR
    rw [hn, hl1] at hnum
    have hc : Calls Try.prog 111 #[.pointer (some ⟨G, 0, none⟩)] w fun E w' => E = .returned (.int .u64 n) ∧ RdS w0 w' G l1 ∧ w.grownBy w' (some G) := hnum.mono fun E w' ⟨h1, _, h3⟩ => ⟨(h1 he).1, (h1 he).2, h3⟩
    clear hnum hn hl1 hun hj he hs hp
    go_enter Try.func82, Try.ntmps82
    go_wp2_with fail
    refine hc.mono ?_
    rintro E w1 ⟨rfl, hs1, hg1⟩
    have hG1 := hs1.lt
    obtain ⟨A1, c1, h1⟩ := hs1
    have hcell := h1.box.cell
    have hfz := h1.box.frozen
    have hlen : (l1.length : Int) ≤ 18446744073709551615 := by omega
    by_cases hbig : n > (l1.length : Int)
    · rw [if_pos hbig] at hRR
      have HR := Aside0.mk hRR
      clear hRR hc
      go_wp2
      exact ⟨rfl, hno _ HR.out.symm hg1⟩
    · rw [if_neg hbig] at hRR
      have HR := Aside0.mk hRR
      have HS1 := Aside0.mk (⟨A1, c1, h1⟩ : RdS w0 w1 G l1)
      have HG1 := Aside0.mk hg1
      have HPB1 := Aside0.mk (HP0.out.grown hg1 hne)
      clear hRR hc h1 hg1
      go_wp2_with fail
      have hnle : n ≤ 1000000000 := by omega
      have HB := Aside0.mk hbig
      clear hbig hcell hfz
      go_loopg [6, 20] (n.toNat) (fun kq v6 v20 wr => ∃ (i : Nat) (xs : List S43) (l2 : List Int), v20 = .int .u64 i ∧ Aside0 ((i : Int) + kq = n) ∧ Aside0 (((readN itemC kq l2).map fun q => (xs ++ q.1, q.2)) = RR) ∧ Aside0 (xs.length = i) ∧ Aside0 (Kd.R k43 43 wr w.heap.size (fun _ => True) v6 xs) ∧ Aside0 (RdS w0 wr G l2) ∧ Aside0 (w.grownBy wr (some G)) ∧ Aside0 (l2.length ≤ 1000000000) ∧ Aside0 (PBox wr p G))
      case atStart => exact ⟨0, [], l1, rfl, ⟨by omega⟩, ⟨by rw [← HR.out]; cases readN itemC n.toNat l1 <;> rfl⟩, ⟨rfl⟩, ⟨Kd.R_nil _ _ _ _ _⟩, HS1, HG1, ⟨hl1'⟩, HPB1⟩
      case round =>
        clear HR HS1 HG1 HPB1
        obtain ⟨i, xs, l2, rfl, HI, HF, HX, HO, HS, HG, HL, HPB⟩ := hrel
        cases gk with
        | zero =>
          have hlb : decide ((i : Int) < n) = false := decide_eq_false (by have := HI.out; omega)
          have hF := HF.out
          simp only [readN, Option.map_some, List.append_nil] at hF
          have HF2 := Aside0.mk hF
          clear hF HF
          go_wp2
          first
            | exact hyes _ _ _ _ HF2.out.symm HO.out HS.out HG.out
            | (go_ret; exact hyes _ _ _ _ HF2.out.symm HO.out HS.out HG.out)
        | succ k1 =>
          have hlb : decide ((i : Int) < n) = true := decide_eq_true (by have := HI.out; omega)
          have hi1 : (i : Int) + 1 ≤ 1000000001 := by have := HI.out; omega
          have hcw := nextC_item p G l2 (by have := HL.out; omega) w0 wr HS.out HPB.out hne
          cases hit : itemC l2 with
          | none =>
            have hcn : Calls Try.prog 83 #[.pointer (some ⟨p, 0, none⟩)] wr fun E w' => E = .panicked badP ∧ wr.grownBy w' (some G) := hcw.mono fun E w' ⟨_, h2, h3⟩ => ⟨h2 hit, h3⟩
            have hRn : RR = none := by rw [← HF.out, readN, hit]; rfl
            have HRn := Aside0.mk hRn
            clear hcw hit hRn
            go_wp2_with fail
            refine hcn.mono ?_
            rintro E w2 ⟨rfl, hg2⟩
            go_wp2
            exact ⟨rfl, hno _ HRn.out (gb_trans HG.out hg2)⟩
          | some p =>
            obtain ⟨x, l3⟩ := p
            have hcs : Calls Try.prog 83 #[.pointer (some ⟨p, 0, none⟩)] wr fun E w' => E = .returned (.agg #[.string x.f0, .int .i64 x.f1]) ∧ RdS w0 w' G l3 ∧ wr.grownBy w' (some G) := hcw.mono fun E w' ⟨h1, _, h3⟩ => ⟨(h1 x l3 hit).1, (h1 x l3 hit).2, h3⟩
            have hF2 : ((readN itemC k1 l3).map fun q => ((xs ++ [x]) ++ q.1, q.2)) = RR := by
              rw [← HF.out, readN, hit]
              simp only [Option.bind_some]
              cases readN itemC k1 l3 with
              | none => rfl
              | some q => simp
            have hl3 : l3.length ≤ l2.length := Nat.le_of_lt (itemC_less l2 x l3 hit)
            have HF3 := Aside0.mk hF2
            have HL3 := Aside0.mk (show l3.length ≤ 1000000000 by have := HL.out; omega)
            clear hcw hit hF2 hl3 HF HL
            go_wp2_with fail
            refine hcs.mono ?_
            rintro E w2 ⟨rfl, hs2, hg2⟩
            have HG2 := Aside0.mk (gb_trans HG.out hg2)
            have HO2 := Aside0.mk (R_past HO.out hg2 hG.1)
            have HS2 := Aside0.mk hs2
            have HPB2 := Aside0.mk (HPB.out.grown hg2 hne)
            have HZ := Aside0.mk (show w.heap.size ≤ w2.heap.size from HG2.out.4)
            clear hg2 hs2 HO HS HG HPB
            go_wp2_with (first | ((with_reducible refine gate_builtin (b := .append) (xs := #[.tmp 22, .tmp 25]) rfl ?_); (try (refine gate_guard (by rfl) ?_; dsimp only)); at_builtin; refine Kd.R_append k43 (w0 := w2) w.heap.size rfl (.tmp 22) (.tmp 25) 38 43 (.agg #[.string ⟨#[]⟩, .int .i64 0]) 24 rfl Try.underlying38 info43 rfl (by decide) (by omega) u6 xs x [.string x.f0, .int .i64 x.f1] (fun _ => True) (fun _ => False) rfl rfl ?aP (fun _ hk => hk.elim) ?aF ?aO ?aB ?aS ?aL ?_; (case aP => exact k43_mkM _ _ _ x); (case aB => exact Below.refl _ _); (case aF => exact (fun _ _ => trivial)); (case aO => exact HO2.out); (case aS => exact HZ.out); (case aL => have := HX.out; omega); intro v1 w3 ho hb hg hat; have HO3 := Aside0.mk ho; have HGr := Aside0.mk hg; clear ho hb hg hat))
            have hnb : ∀ k, u6.ownBlock = some k → w.heap.size ≤ k := Kd.R_base HO2.out
            have HS3 := Aside0.mk (HS2.out.step HGr.out (fun e => by have := hnb G e.symm; omega) (fun k e => by have := hnb k e; omega))
            have HG3 := Aside0.mk (gb_new HG2.out HGr.out hnb)
            have HPB3 := Aside0.mk (blk_grown HPB2.out HGr.out (fun e => by have := hnb p e.symm; omega))
            clear hnb
            go_roundg k1
            case measure => omega
            case rel => exact ⟨i + 1, xs ++ [x], l3, by congr 1, ⟨by have := HI.out; omega⟩, HF3, ⟨by rw [List.length_append, HX.out]; rfl⟩, HO3, HS3, HG3, HL3, HPB3⟩
  · rw [if_neg he] at hRR
    have hc : Calls Try.prog 111 #[.pointer (some ⟨G, 0, none⟩)] w fun E w' => E = .panicked badP ∧ w.grownBy w' (some G) := hnum.mono fun E w' ⟨_, h2, h3⟩ => ⟨h2 he, h3⟩
    have HR := Aside0.mk hRR
    clear hnum hn hl1 hun hj he hs hRR hp
    go_enter Try.func82, Try.ntmps82
    go_wp2_with fail
    refine hc.mono ?_
    rintro E w1 ⟨rfl, hg1⟩
    go_wp2
    exact ⟨rfl, hno _ HR.out.symm hg1⟩
def ItemsCOut (w0 w : World) (G : Nat) (RR : Option (List S43 × List Int)) (E : Ending) (w' : World) : Prop :=
  (∀ xs l', RR = some (xs, l') → ∃ v, E = .returned v ∧ Kd.R k43 43 w' w.heap.size (fun _ => True) v xs ∧ RdS w0 w' G l') ∧ (RR = none → E = .panicked badP) ∧ w.grownBy w' (some G)
set_option maxHeartbeats 1000000 in
theorem un1C_calls (G : Nat) (l : List Int) (hl : l.length ≤ 1000000000) (w0 w : World) (hs : RdS w0 w G l) :
    Calls Try.prog 81 #[.pointer (some ⟨G, 0, none⟩)] w (ItemsCOut w0 w G (readItems itemC l)) := by
  have mf := mkf
  have hG := hs.lt2
  obtain ⟨RR, hRR⟩ : ∃ RR, readItems itemC l = RR := ⟨_, rfl⟩
  have hpb : PBox (w.alloc (.cells #[.pointer (some ⟨G, 0, none⟩)] 129)) w.heap.size G := blk_new w _
  have hc := itemsC_calls w.heap.size G l hl w0 _ (hs.step (World.grownBy_alloc w (.cells #[.pointer (some ⟨G, 0, none⟩)] 129) none) (by simp) (by simp)) hpb (by omega) RR hRR
  have c0 := hpb.cell
  rw [hRR]
  obtain ⟨Q, hQ⟩ : ∃ Q : Ending → World → Prop, Q = ItemsCOut w0 w G RR := ⟨_, rfl⟩
  rw [← hQ]
  have hQ' : ∀ E w', ItemsCOut w0 w G RR E w' → Q E w' := fun E w' h => by rw [hQ]; exact h
  clear hQ hs hRR hpb hG
  go_enter Try.func81, Try.ntmps81
  go_wp2_with fail
  refine hc.mono ?_
  rintro E w1 ⟨h1, h2, h3⟩
  have h3' : w.grownBy w1 (some G) := World.grownBy.trans (World.grownBy_alloc w _ _) h3
  have h1' : ∀ xs l', RR = some (xs, l') → ∃ v, E = .returned v ∧ Kd.R k43 43 w1 w.heap.size (fun _ => True) v xs ∧ RdS w0 w1 G l' := by
    intro xs l' hx
    obtain ⟨v, e, hv, hr⟩ := h1 xs l' hx
    exact ⟨v, e, Kd.R_lower hv (by rw [World.size_alloc]; omega), hr⟩
  clear h1 h3 c0
  cases hR : RR with
  | none =>
    obtain rfl := h2 hR
    have H := hQ' (.panicked badP) w1 ⟨h1', h2, h3'⟩
    clear h1' h2 hQ' hc h3'
    go_wp2
    exact ⟨rfl, H⟩
  | some p =>
    obtain ⟨xs, l'⟩ := p
    obtain ⟨v, rfl, h4, h5⟩ := h1' xs l' hR
    have H := hQ' (.returned v) w1 ⟨h1', h2, h3'⟩
    clear h1' h2 hQ' hc h4 h5 h3'
    go_wp2
    first | exact H | (go_ret; exact H)
set_option maxHeartbeats 1000000 in
theorem catch_bad_C (bl be : Nat) (hne : bl ≠ be) (v0 : Value) (e0 : Int) (w : World) (hl : Boxed w bl 38 v0) (he : Boxed w be 24 (.int .i64 e0)) :
    CallsD Try.prog 112 #[.pointer (some ⟨bl, 0, none⟩), .pointer (some ⟨be, 0, none⟩)] (.panicking badP) w fun e u' w' =>
      e = .returned (.tuple #[]) ∧ u' = .panicking [{ v := .iface 134 (.agg #[]), recovered := true }] ∧ w' = ((w.setCell ⟨bl, 0, none⟩ (.slice none 0 0)).setCell ⟨be, 0, none⟩ (.int .i64 41)).alloc (.cells #[] 134) := by
  have l1 := hl.lt
  have l2 := he.lt
  have m1 := hl.cell
  have f1 := hl.frozen
  have m2 := he.cell
  have f2 := he.frozen
  have m3 := (he.other (Ne.symm hne) (.slice none 0 0)).cell
  have f3 := (he.other (Ne.symm hne) (.slice none 0 0)).frozen
  refine callsD_of_wpS Try.func112 rfl fun c₀ cs hu => ?_
  unfold badP at hu
  apply wpS_seq
  apply wpS_region
  simp [wpOpsS, go_sem, recoverD, hu, Try.ntmps112, Exit.thenS]
  have k1 := bad_ne
  have k2 := assert_bad
  refine wpS_of_wp ?_
  simp only [Array.replicate_succ, Array.replicate_zero, List.push_toArray, List.append_toArray, List.nil_append, List.cons_append, List.setIfInBounds_toArray, List.set_cons_succ, List.set_cons_zero]
  go_wp2
  simp [bodyPostS, results, Try.results112]
theorem catch_idle_C (p q : Addr) (w : World) :
    CallsD Try.prog 112 #[.pointer (some p), .pointer (some q)] .returning w fun e u' w' => e = .returned (.tuple #[]) ∧ u' = .returning ∧ w = w' := by
  have k3 : ∀ w : World, (binOp .neq 20 .nilIface .nilIface).run Try.prog w = .ok (.bool false) w := fun _ => by kernel_rfl
  refine callsD_of_wpS Try.func112 rfl fun c₀ cs hu => ?_
  apply wpS_seq
  apply wpS_region
  simp [wpOpsS, go_sem, recoverD, hu, Try.ntmps112, Exit.thenS]
  refine wpS_of_wp ?_
  simp only [Array.replicate_succ, Array.replicate_zero, List.push_toArray, List.append_toArray, List.nil_append, List.cons_append, List.setIfInBounds_toArray, List.set_cons_succ, List.set_cons_zero]
  go_wp2
  cases c₀
  simp_all [bodyPostS, results, Try.results112]
/-- What code.Uncols comes to. -/
def readC (l : List Int) : List S43 × Int :=
  match readItems itemC l with
  | some (xs, l') => if l'.length > 0 ∨ l.length > 16777216 then ([], 41) else (xs, 0)
  | none => ([], 41)
set_option maxHeartbeats 4000000 in
set_option maxRecDepth 100000 in
theorem readC_calls (A : Option Addr) (c : Nat) (l : List Int) (hl : l.length ≤ 1000000000) (w : World) (hr : Kd.C (Kd.int .u8) w A l.length l) (hc : l.length ≤ c) (r1 : List S43) (r2 : Int) (hrr : readC l = (r1, r2)) :
    Calls Try.prog 80 #[.slice A l.length c, .func (.func 81) #[] #[]] w fun e w' => ∃ v0_ : Value, e = .returned (.tuple #[v0_, .int .i64 r2]) ∧ Kd.R k43 43 w' w.heap.size (fun _ => True) v0_ r1 ∧ Below w.heap.size w w' := by
  have mf := mkf
  have HR := Aside0.mk hr
  clear hr
  go_enter_defers Try.func80, Try.ntmps80
  go_wp2_with fail
  have bg := Boxed.new ((w.alloc (.cells #[.slice none 0 0] 38)).alloc (.cells #[.int .i64 0] 24)) 168 (.slice A l.length c)
  rw [World.size_alloc, World.size_alloc] at bg
  have bl := ((Boxed.new w 38 (.slice none 0 0)).alloc (.cells #[.int .i64 0] 24)).alloc (.cells #[.slice A l.length c] 168)
  have be := (Boxed.new (w.alloc (.cells #[.slice none 0 0] 38)) 24 (.int .i64 0)).alloc (.cells #[.slice A l.length c] 168)
  rw [World.size_alloc] at be
  have hb3 : Below w.heap.size w (((w.alloc (.cells #[.slice none 0 0] 38)).alloc (.cells #[.int .i64 0] 24)).alloc (.cells #[.slice A l.length c] 168)) := below_alloc (below_alloc (below_alloc (Below.refl _ _) _) _) _
  have hs3 : (((w.alloc (.cells #[.slice none 0 0] 38)).alloc (.cells #[.int .i64 0] 24)).alloc (.cells #[.slice A l.length c] 168)).heap.size = w.heap.size + 1 + 1 + 1 := by rw [World.size_alloc, World.size_alloc, World.size_alloc]
  generalize ((w.alloc (.cells #[.slice none 0 0] 38)).alloc (.cells #[.int .i64 0] 24)).alloc (.cells #[.slice A l.length c] 168) = W3 at bg bl be hb3 hs3 ⊢
  refine (un1C_calls (w.heap.size + 1 + 1) l hl w W3 ⟨A, c, ⟨bg, HR.out, hb3, by omega, hc⟩⟩).mono ?_
  rintro E w1 ⟨h1, h2, h3⟩
  have bl1 := bl.kept h3 (fun e => by injection e with e; omega)
  have be1 := be.kept h3 (fun e => by injection e with e; omega)
  have hb1 : Below w.heap.size w w1 := hb3.grown h3 (by omega) (fun k hk => by injection hk with hk; omega)
  have HB1 := Aside0.mk hb1
  have BL := Aside0.mk bl1
  have BE := Aside0.mk be1
  have hlt := h3.size
  rw [hs3] at hlt
  cases hR : readItems itemC l with
  | none =>
    obtain rfl := h2 hR
    have hI : readC l = ([], 41) := by unfold readC; rw [hR]
    rw [hI] at hrr
    simp only [Prod.mk.injEq] at hrr
    obtain ⟨rfl, rfl⟩ := hrr
    clear h1 h2 h3 bg bl be hb3 bl1 be1 hb1 hR hI
    unfold badP
    go_wp2
    refine leaves_cons (f := 112) (args := #[.pointer (some ⟨w.heap.size, 0, none⟩), .pointer (some ⟨w.heap.size + 1, 0, none⟩)]) (by simp) (by simp [go_sem]) ?_
    refine (catch_bad_C w.heap.size (w.heap.size + 1) (by omega) (.slice none 0 0) 0 w1 BL.out BE.out).mono ?_
    rintro e u' w'' ⟨rfl, rfl, rfl⟩
    have xl := ((BL.out.set (.slice none 0 0)).other (show w.heap.size ≠ w.heap.size + 1 by omega) (.int .i64 41)).alloc (.cells #[] 134)
    have xe := ((BE.out.other (show w.heap.size + 1 ≠ w.heap.size by omega) (.slice none 0 0)).set (.int .i64 41)).alloc (.cells #[] 134)
    have yl := xl.cell
    have ye := xe.cell
    have hB : Below w.heap.size w (((w1.setCell ⟨w.heap.size, 0, none⟩ (.slice none 0 0)).setCell ⟨w.heap.size + 1, 0, none⟩ (.int .i64 41)).alloc (.cells #[] 134)) := below_alloc (below_set (below_set HB1.out (by omega)) (by omega)) _
    generalize ((w1.setCell ⟨w.heap.size, 0, none⟩ (.slice none 0 0)).setCell ⟨w.heap.size + 1, 0, none⟩ (.int .i64 41)).alloc (.cells #[] 134) = W4 at xl xe yl ye hB ⊢
    simp [Leaves, settle, results, Try.results80, go_sem]
    refine ⟨.tuple #[.slice none 0 0, .int .i64 41], by simp [yl, ye, go_sem], _, rfl, Kd.R_nil _ _ _ _ _, hB⟩
  | some p =>
    obtain ⟨xs, l'⟩ := p
    obtain ⟨v, rfl, h4, h5⟩ := h1 xs l' hR
    obtain ⟨A', c', hd⟩ := h5
    obtain ⟨A2, c2, rfl⟩ := Kd.R_slice h4
    have bx := hd.box
    have H4 := Aside0.mk h4
    have hI : readC l = (if l'.length > 0 ∨ l.length > 16777216 then ([], 41) else (xs, 0)) := by unfold readC; rw [hR]
    rw [hI] at hrr
    have cg : (w1.setCell ⟨w.heap.size, 0, none⟩ (.slice A2 xs.length c2)).cell? ⟨w.heap.size + 1 + 1, 0, none⟩ = some (.slice A' l'.length c') := (bx.other (by omega) (.slice A2 xs.length c2)).cell
    have BL2 : Aside0 (Boxed (w1.setCell ⟨w.heap.size, 0, none⟩ (.slice A2 xs.length c2)) w.heap.size 38 (.slice A2 xs.length c2)) := ⟨BL.out.set _⟩
    have BE2 : Aside0 (Boxed (w1.setCell ⟨w.heap.size, 0, none⟩ (.slice A2 xs.length c2)) (w.heap.size + 1) 24 (.int .i64 0)) := ⟨BE.out.other (by omega) _⟩
    have HB2 : Aside0 (Below w.heap.size w (w1.setCell ⟨w.heap.size, 0, none⟩ (.slice A2 xs.length c2))) := ⟨below_set HB1.out (by omega)⟩
    have cl1 : w1.cell? ⟨w.heap.size, 0, none⟩ = some (.slice none 0 0) := bl1.cell
    have fl1 : w1.frozen? ⟨w.heap.size, 0, none⟩ = false := bl1.frozen
    have ce1 : w1.cell? ⟨w.heap.size + 1, 0, none⟩ = some (.int .i64 0) := be1.cell
    have fe1 : w1.frozen? ⟨w.heap.size + 1, 0, none⟩ = false := be1.frozen
    clear h1 h2 h3 bg bl be hb3 bl1 be1 hb1 hR hI h4 hd bx
    by_cases hx : l'.length > 0
    · rw [if_pos (.inl hx)] at hrr
      simp only [Prod.mk.injEq] at hrr
      obtain ⟨rfl, rfl⟩ := hrr
      have d1 : decide (0 < (l'.length : Int)) = true := decide_eq_true (by omega)
      have d2 : decide (0 < l'.length) = true := decide_eq_true hx
      clear hx
      go_wp2
      refine leaves_cons (f := 112) (args := #[.pointer (some ⟨w.heap.size, 0, none⟩), .pointer (some ⟨w.heap.size + 1, 0, none⟩)]) (by simp) (by simp [go_sem]) ?_
      refine (catch_bad_C w.heap.size (w.heap.size + 1) (by omega) (.slice A2 xs.length c2) 0 (w1.setCell ⟨w.heap.size, 0, none⟩ (.slice A2 xs.length c2)) BL2.out BE2.out).mono ?_
      rintro e u' w'' ⟨rfl, rfl, rfl⟩
      have xl := ((BL2.out.set (.slice none 0 0)).other (show w.heap.size ≠ w.heap.size + 1 by omega) (.int .i64 41)).alloc (.cells #[] 134)
      have xe := ((BE2.out.other (show w.heap.size + 1 ≠ w.heap.size by omega) (.slice none 0 0)).set (.int .i64 41)).alloc (.cells #[] 134)
      have yl := xl.cell
      have ye := xe.cell
      have hB : Below w.heap.size w ((((w1.setCell ⟨w.heap.size, 0, none⟩ (.slice A2 xs.length c2)).setCell ⟨w.heap.size, 0, none⟩ (.slice none 0 0)).setCell ⟨w.heap.size + 1, 0, none⟩ (.int .i64 41)).alloc (.cells #[] 134)) := below_alloc (below_set (below_set HB2.out (by omega)) (by omega)) _
      generalize (((w1.setCell ⟨w.heap.size, 0, none⟩ (.slice A2 xs.length c2)).setCell ⟨w.heap.size, 0, none⟩ (.slice none 0 0)).setCell ⟨w.heap.size + 1, 0, none⟩ (.int .i64 41)).alloc (.cells #[] 134) = W4 at xl xe yl ye hB ⊢
      simp [Leaves, settle, results, Try.results80, go_sem]
      refine ⟨.tuple #[.slice none 0 0, .int .i64 41], by simp [yl, ye, go_sem], _, rfl, Kd.R_nil _ _ _ _ _, hB⟩
    · have d1 : decide (0 < (l'.length : Int)) = false := decide_eq_false (by omega)
      have d2 : decide (0 < l'.length) = false := decide_eq_false hx
      by_cases hy : l.length > 16777216
      · rw [if_pos (.inr hy)] at hrr
        simp only [Prod.mk.injEq] at hrr
        obtain ⟨rfl, rfl⟩ := hrr
        have e1 : decide (16777216 < (l.length : Int)) = true := decide_eq_true (by omega)
        have e2 : decide (16777216 < l.length) = true := decide_eq_true hy
        clear hx hy
        go_wp2
        refine leaves_cons (f := 112) (args := #[.pointer (some ⟨w.heap.size, 0, none⟩), .pointer (some ⟨w.heap.size + 1, 0, none⟩)]) (by simp) (by simp [go_sem]) ?_
        refine (catch_bad_C w.heap.size (w.heap.size + 1) (by omega) (.slice A2 xs.length c2) 0 (w1.setCell ⟨w.heap.size, 0, none⟩ (.slice A2 xs.length c2)) BL2.out BE2.out).mono ?_
        rintro e u' w'' ⟨rfl, rfl, rfl⟩
        have xl := ((BL2.out.set (.slice none 0 0)).other (show w.heap.size ≠ w.heap.size + 1 by omega) (.int .i64 41)).alloc (.cells #[] 134)
        have xe := ((BE2.out.other (show w.heap.size + 1 ≠ w.heap.size by omega) (.slice none 0 0)).set (.int .i64 41)).alloc (.cells #[] 134)
        have yl := xl.cell
        have ye := xe.cell
        have hB : Below w.heap.size w ((((w1.setCell ⟨w.heap.size, 0, none⟩ (.slice A2 xs.length c2)).setCell ⟨w.heap.size, 0, none⟩ (.slice none 0 0)).setCell ⟨w.heap.size + 1, 0, none⟩ (.int .i64 41)).alloc (.cells #[] 134)) := below_alloc (below_set (below_set HB2.out (by omega)) (by omega)) _
        generalize (((w1.setCell ⟨w.heap.size, 0, none⟩ (.slice A2 xs.length c2)).setCell ⟨w.heap.size, 0, none⟩ (.slice none 0 0)).setCell ⟨w.heap.size + 1, 0, none⟩ (.int .i64 41)).alloc (.cells #[] 134) = W4 at xl xe yl ye hB ⊢
        simp [Leaves, settle, results, Try.results80, go_sem]
        refine ⟨.tuple #[.slice none 0 0, .int .i64 41], by simp [yl, ye, go_sem], _, rfl, Kd.R_nil _ _ _ _ _, hB⟩
      · rw [if_neg (by omega)] at hrr
        simp only [Prod.mk.injEq] at hrr
        obtain ⟨rfl, rfl⟩ := hrr
        have e1 : decide (16777216 < (l.length : Int)) = false := decide_eq_false (by omega)
        have e2 : decide (16777216 < l.length) = false := decide_eq_false hy
        clear hx hy
        go_wp2
        refine leaves_cons (f := 112) (args := #[.pointer (some ⟨w.heap.size, 0, none⟩), .pointer (some ⟨w.heap.size + 1, 0, none⟩)]) (by simp) (by simp [go_sem]) ?_
        refine (catch_idle_C ⟨w.heap.size, 0, none⟩ ⟨w.heap.size + 1, 0, none⟩ _).mono ?_
        rintro e u' w'' ⟨rfl, rfl, rfl⟩
        have VV : ∃ v : Value, v = .slice A2 xs.length c2 := ⟨_, rfl⟩
        have x1 := (BL2.out.set (.slice A2 xs.length c2)).other (show w.heap.size ≠ w.heap.size + 1 by omega) (.int .i64 0)
        have x2 := (BE2.out.other (show w.heap.size + 1 ≠ w.heap.size by omega) (.slice A2 xs.length c2)).set (.int .i64 0)
        have yl := x1.cell
        have ye := x2.cell
        have hB : Below w.heap.size w (((w1.setCell ⟨w.heap.size, 0, none⟩ (.slice A2 xs.length c2)).setCell ⟨w.heap.size, 0, none⟩ (.slice A2 xs.length c2)).setCell ⟨w.heap.size + 1, 0, none⟩ (.int .i64 0)) := below_set (below_set HB2.out (by omega)) (by omega)
        have q1 := R_past H4.out (grownBy_setCell' w1 w.heap.size (.slice A2 xs.length c2)) (by omega)
        have q2 := R_past q1 (grownBy_setCell' _ w.heap.size (.slice A2 xs.length c2)) (by omega)
        have q3 := Kd.R_lower (base' := w.heap.size) (R_past q2 (grownBy_setCell' _ (w.heap.size + 1) (.int .i64 0)) (by omega)) (by omega)
        generalize ((w1.setCell ⟨w.heap.size, 0, none⟩ (.slice A2 xs.length c2)).setCell ⟨w.heap.size, 0, none⟩ (.slice A2 xs.length c2)).setCell ⟨w.heap.size + 1, 0, none⟩ (.int .i64 0) = W4 at x1 x2 yl ye hB q3 ⊢
        simp [Leaves, settle, results, Try.results80, go_sem]
        refine ⟨.tuple #[.slice A2 xs.length c2, .int .i64 0], by simp [yl, ye, go_sem], _, rfl, q3, hB⟩
def code_Uncols.f (k : Nat) (l0 : List Int) : Option (List S43 × Int) := if l0.length ≤ 1000000000 then some (readC l0) else none
theorem code_Uncols.mono : ∀ a0 k, LeO (code_Uncols.f k a0) (code_Uncols.f (k + 1) a0) := fun a0 k => LeO.refl _
set_option maxHeartbeats 1000000 in
theorem code_Uncols.calls (k : Nat) (A0 : Option Addr) (c0 : Nat) (l0 : List Int) (r1 : List S43) (r2 : Int) (w : World) (hr0 : Kd.C (Kd.int .u8) w A0 l0.length l0) (hc0 : l0.length ≤ c0) (h : code_Uncols.f k l0 = some (r1, r2)) :
    Calls Try.prog 30 #[.slice A0 l0.length c0] w fun e w' => ∃ v0_ : Value, e = .returned (.tuple #[v0_, .int .i64 r2]) ∧ Kd.R k43 43 w' w.heap.size (fun _ => True) v0_ r1 ∧ Below w.heap.size w w' := by
  unfold code_Uncols.f at h
  split at h
  · rename_i hl
    have hrr := Option.some.inj h
    have hc := readC_calls A0 c0 l0 hl w hr0 hc0 r1 r2 hrr
    clear hr0 h hrr
    go_enter Try.func30, Try.ntmps30
    go_wp2_with fail
    refine hc.mono ?_
    rintro e w1 ⟨v, rfl, hR, hb⟩
    go_wp2
    go_ret2
    exact ⟨v, rfl, hR, hb⟩
  · cases h
end Go.Proofs.Ytgihecpobichbaa.Q
