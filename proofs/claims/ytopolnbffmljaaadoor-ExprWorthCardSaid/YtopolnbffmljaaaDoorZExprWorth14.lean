/- Texts of the claim, put together. -/
import Derived.Test.YtopolnbffmljaaaDoorZExprWorth13
import Derived.Test.YtopolnbffmljaaaDoorZExprWorth10
import Derived.Deep.RegionHeld
import Derived.Laws.EntriesVeiled
import Derived.Test.YtopolnbffmljaaaDoorZExprWorth12
namespace Go.Proofs.YtopolnbffmljaaaDoor.U14
def fB (n m : Nat) : Array Bool := ((List.range n).map (Nat.testBit m)).toArray
end Go.Proofs.YtopolnbffmljaaaDoor.U14
open Go.Proofs.YtopolnbffmljaaaDoor.U14
open Go.RowKit Go.Proofs.YtopolnbffmljaaaDoorW.PrintWords Go.Proofs.YtopolnbffmljaaaDoorW.PrintLast Go.Proofs.YtopolnbffmljaaaDoorW.PrintMore
set_option linter.unusedVariables false
set_option linter.unusedSimpArgs false
open List renaming setIfInBounds_toArray → zA, set_cons_zero → zB, set_cons_succ → zC
namespace Go.Proofs.YtopolnbffmljaaaDoor.Q
attribute [local go_sem high] eqV
theorem bindW_ok (x : Va) (f : Va → Wo) : bindW (x, 0) f = f x := if_neg (fun h => h rfl)
theorem bindW_bad (x : Va) (c : Int) (f : Va → Wo) (hc : c ≠ 0) : bindW (x, c) f = (nullV, c) := if_pos hc
theorem EvS.far {u v : Value} {w W : World} (h : EvS u v w W) {g j : Nat} {y : Value} (hg : w.heap.size + 1 < g) : EvS u v w (W.setCell ⟨g, j, none⟩ y) := by
 obtain ⟨h1, h2, x0, x1, x2, h3⟩ := h
 refine ⟨below_set h1 (by omega), (Below.heap_setCell _ _ _ _ (show w.heap.size ≠ g by omega)).trans h2, x0, x1, x2, (Below.heap_setCell _ _ _ _ (show w.heap.size + 1 ≠ g by omega)).trans h3⟩
def PartW (u v : Value) (p : Addr) (i : Nat) (r : Wo) (w : World) : Prop := ∀ W, Below w.heap.size w W → Calls Tryd.prog 62 #[.agg #[u, v], .pointer (some p), .int .i64 i] W (WoOut r W)
theorem PartW.ok {u v : Value} {p : Addr} {i : Nat} {x : Va} {w : World} (h : PartW u v p i (x, 0) w) : ∀ W, EvS u v w W → Calls Tryd.prog 62 #[.agg #[u, v], .pointer (some p), .int .i64 i] W fun e w' => e = .returned (.agg #[.int .i64 x.f0, .int .i64 x.f1, .string x.f2]) ∧ Below W.heap.size W w' := fun W hW => WoOut.ok (h W hW.below)
theorem PartW.bad {u v : Value} {p : Addr} {i : Nat} {x : Va} {c : Int} {w : World} (h : PartW u v p i (x, c) w) (hc : c ≠ 0) : ∀ W, EvS u v w W → Calls Tryd.prog 62 #[.agg #[u, v], .pointer (some p), .int .i64 i] W fun e w' => e = .panicked (errP c) ∧ Below W.heap.size W w' := fun W hW => WoOut.bad hc (h W hW.below)
set_option maxHeartbeats 16000000 in
set_option maxRecDepth 100000 in
theorem op1_calls (u v : Value) (l : List Co) (row : List Va) (nm : ByteArray) (p : Addr) (w : World) (hu0 : u.oneCell' = true) (hv0 : v.oneCell' = true) (B : Option Addr) (c2 : Nat) (D : Option Addr) (c3 : Nat) (hx : Ctx l row B c2 D c3 w) (huB : u = .slice B l.length c2) (hvD : v = .slice D row.length c3) (hl0 : 0 < row.length) (m1 : w.cell? ⟨p.block, p.off + 1, none⟩ = some (.string nm)) :
  Calls Tryd.prog 56 #[.agg #[u, v], .pointer (some p)] w (WoOut (rd_T23 row (if findN nm l 0 < 0 then 0 else findN nm l 0), 0) w) := by
 have hu := Tryd.underlying23
 obtain ⟨W, hW⟩ : ∃ W, W = (w.alloc (.cells #[u, v] 71)).alloc (.cells #[.int .i64 0, .int .i64 0, .string ⟨#[]⟩] 23) := ⟨_, rfl⟩
 have hS : EvS u v w W := by rw [hW]; exact EvS.new u v w
 have HW := Aside0.mk hW
 clear hW
 obtain ⟨z, hz⟩ : ∃ z, findN nm l 0 = z := ⟨_, rfl⟩
 have hzr := findN_le nm l 0 (by omega)
 have hfd : decode_Find.f l nm = some ((if z < 0 then 0 else z), decide (z ≥ 0)) := by
  unfold decode_Find.f
  rw [if_pos hx.ll, hz]
 rw [hz] at hzr ⊢
 obtain ⟨y, hy⟩ : ∃ y, (if z < 0 then 0 else z) = y := ⟨_, rfl⟩
 rw [hy] at hfd ⊢
 have hye : y = 0 ∨ y = z ∧ 0 ≤ z := by
  by_cases hz0 : z < 0
  ·rw [if_pos hz0] at hy; exact .inl hy.symm
  ·rw [if_neg hz0] at hy; exact .inr ⟨hy.symm, by omega⟩
 have hrl := hx.eq
 have hy0 : 0 ≤ y := by omega
 have hy1 : y < (row.length : Int) := by omega
 have HFi := Aside0.mk (fun W (hW : EvS u v w W) => decode_Find.calls B c2 l nm _ _ W (Kd.C_below hx.cols hW.below) hx.lc hfd)
 have HRow := Aside0.mk (fun W (hW : EvS u v w W) => at_T23 (Kd.C_below hx.rows hW.below) y hy0 hy1)
 clear hye hy hfd hzr hz hx hrl
 obtain ⟨Q, hQ⟩ : ∃ Q, Q = WoOut (rd_T23 row y, 0) w := ⟨_, rfl⟩
 rw [← hQ]
 have HQ := Aside0.mk (show ∀ w', Below w.heap.size w w' → Q (.returned (.agg #[.int .i64 (rd_T23 row y).f0, .int .i64 (rd_T23 row y).f1, .string (rd_T23 row y).f2])) w' from fun w' h => by rw [hQ]; exact WoOut.ret (v := rd_T23 row y) (by rfl) h)
 clear hQ
 obtain ⟨k0, k1⟩ := hS.asks
 have hC : W.cell? ⟨p.block, p.off + 1, none⟩ = some (.string nm) ∧ W.cell? ⟨w.heap.size, 0, none⟩ = some u ∧ W.cell? ⟨w.heap.size, 1, none⟩ = some v ∧ EvS u v w W := ⟨pw_cell_below hS.below m1, k0, k1, hS⟩
 subst huB hvD
 clear k0 k1 m1
 go_enter Tryd.func56, Tryd.ntmps56
 go_upto_region 1 with (fail)
 rw [← HW.out]
 refine start_ (n := 12) (S := (fun w' => w'.cell? ⟨p.block, p.off + 1, none⟩ = some (.string nm) ∧ w'.cell? ⟨w.heap.size, 0, none⟩ = some (.slice B l.length c2) ∧ w'.cell? ⟨w.heap.size, 1, none⟩ = some (.slice D row.length c3) ∧ EvS (.slice B l.length c2) (.slice D row.length c3) w w')) (ds := [6, 7, 8, 9, 10, 11]) (fB 12 0) (by kernel_rfl) rfl rfl (⟨pw_cell_below (below_drew1 (Below.refl _ _)) hC.1, pw_cell_below (below_drew1 (Below.refl _ _)) hC.2.1, pw_cell_below (below_drew1 (Below.refl _ _)) hC.2.2.1, hC.2.2.2.step (below_drew1 (Below.refl _ _))⟩) (fun hHeld => ?_)
 refine pure_ (i := 0) (N := some 8) (v := ?_) (a' := ?_) (fB 12 1) rfl rfl (by kernel_rfl) (fun _ _ _ h => h) (Or.inl ⟨by rfl, by intro w'; go_simp; (first | with_reducible rfl | skip)⟩) (by simp only [Act.put, zA, zB, zC]; rfl) ?_
 refine pure_ (i := 2) (N := some 10) (v := ?_) (a' := ?_) (fB 12 5) rfl rfl (by kernel_rfl) (fun _ _ _ h => h) (Or.inl ⟨by rfl, by intro w'; go_simp; (first | with_reducible rfl | skip)⟩) (by simp only [Act.put, zA, zB, zC]; rfl) ?_
 refine pure_ (i := 3) (N := some 11) (v := ?_) (a' := ?_) (fB 12 13) rfl rfl (by kernel_rfl) (fun _ _ _ h => h) (Or.inl ⟨by rfl, by intro w'; go_simp; (first | with_reducible rfl | skip)⟩) (by simp only [Act.put, zA, zB, zC]; rfl) ?_
 refine pure_ (i := 4) (N := some 12) (v := ?_) (a' := ?_) (fB 12 29) rfl rfl (by kernel_rfl) (fun _ _ _ h => h) (Or.inl ⟨by rfl, by intro w'; go_simp; (first | with_reducible rfl | skip)⟩) (by simp only [Act.put, zA, zB, zC]; rfl) ?_
 refine take_ (i := 1) (N := some 9) (v := ?_) (a' := ?_) (fB 12 31) rfl rfl (by kernel_rfl) (fun _ _ _ h => h) (Or.inl ⟨by rfl, by rintro w' ⟨s0, s1, s2, s3⟩; go_simp; with_reducible rfl⟩) hHeld (by simp only [Act.put, zA, zB, zC]; rfl) ?_
 refine take_ (i := 5) (N := some 13) (v := ?_) (a' := ?_) (fB 12 63) rfl rfl (by kernel_rfl) (fun _ _ _ h => h) (Or.inl ⟨by rfl, by rintro w' ⟨s0, s1, s2, s3⟩; go_simp; with_reducible rfl⟩) hHeld (by simp only [Act.put, zA, zB, zC]; rfl) ?_
 refine last_ (i := 6) (N := some 14) (fB 12 127) rfl rfl (by kernel_rfl) (by decide) (fun K hK => ?_)
 refine goes_ Tryd.func52 (by kernel_rfl) rfl #[.slice B l.length c2, .string nm] (by rfl) rfl rfl (by (try simp only [List.map_toArray, List.map_cons, List.map_nil]); first | done | rfl) ?_
 refine (HFi.out _ (hHeld.2.2.2)).mono ?_
 rintro e w2 ⟨rfl, hb2⟩
 have hS2 := EvS.step (hHeld.2.2.2) hb2
 refine ⟨_, rfl, ?_⟩
 refine hK.out _ _ ?_
 clear hK K
 refine norm_ (a' := ?_) ?_ ?_
 rotate_left
 ·show Act.put _ (some 14) _ = _
  simp only [Act.put, zA, zB, zC]
  rfl
 refine pure_ (i := 7) (N := some 7) (v := ?_) (a' := ?_) (fB 12 255) rfl rfl (by kernel_rfl) (fun _ _ _ h => h) (Or.inl ⟨by rfl, by intro w'; go_simp; (first | with_reducible rfl | skip)⟩) (by simp only [Act.put, zA, zB, zC]; rfl) ?_
 refine pure_ (i := 8) (N := some 15) (v := ?_) (a' := ?_) (fB 12 511) rfl rfl (by kernel_rfl) (fun _ _ _ h => h) (Or.inl ⟨by rfl, by intro w'; go_simp; (first | with_reducible rfl | skip)⟩) (by simp only [Act.put, zA, zB, zC]; rfl) ?_
 refine pure_ (i := 9) (N := some 16) (v := ?_) (a' := ?_) (fB 12 1023) rfl rfl (by kernel_rfl) (fun _ _ _ h => h) (Or.inl ⟨by rfl, by intro w'; go_simp; (first | with_reducible rfl | skip)⟩) (by simp only [Act.put, zA, zB, zC]; rfl) ?_
 refine pure_ (i := 10) (N := some 5) (v := ?_) (a' := ?_) (fB 12 2047) rfl rfl (by kernel_rfl) (fun _ _ _ h => h) (Or.inl ⟨by rfl, by intro w'; go_simp; (first | with_reducible rfl | skip)⟩) (by simp only [Act.put, zA, zB, zC]; rfl) ?_
 refine pure_ (i := 11) (N := some 6) (v := ?_) (a' := ?_) (fB 12 4095) rfl rfl (by kernel_rfl) (fun _ _ _ h => h) (Or.inl ⟨by rfl, by intro w'; go_simp; (first | with_reducible rfl | skip)⟩) (by simp only [Act.put, zA, zB, zC]; rfl) ?_
 refine done_ (by kernel_rfl) ?_
 obtain ⟨adr, hadr, q0, q1, q2⟩ := HRow.out w2 hS2
 subst hadr
 obtain ⟨⟨x0, x1, x2, c0, c1, c2'⟩, f0, f1, f2, hlt⟩ := hS2.room
 obtain ⟨k0, k1⟩ := hS2.asks
 go_wp2
 refine bodyPost_ret (results_single rfl (.cell _ _ _ _ _ rfl (hS2.done _ _ _) hu rfl (by kernel_rfl) .nil)) rfl ?_
 exact HQ.out _ (hS2.put _ _ _).below
set_option maxHeartbeats 16000000 in
set_option maxRecDepth 100000 in
theorem op2_calls (u v : Value) (x : Va) (p : Addr) (w : World) (hu0 : u.oneCell' = true) (hv0 : v.oneCell' = true) (m2 : w.cell? ⟨p.block, p.off + 2, none⟩ = some (.int .i64 x.f0)) (m3 : w.cell? ⟨p.block, p.off + 3, none⟩ = some (.int .i64 x.f1)) (m4 : w.cell? ⟨p.block, p.off + 4, none⟩ = some (.string x.f2)) :
  Calls Tryd.prog 57 #[.agg #[u, v], .pointer (some p)] w (WoOut (x, 0) w) := by
 have hu := Tryd.underlying23
 obtain ⟨W, hW⟩ : ∃ W, W = (w.alloc (.cells #[u, v] 71)).alloc (.cells #[.int .i64 0, .int .i64 0, .string ⟨#[]⟩] 23) := ⟨_, rfl⟩
 have hS : EvS u v w W := by rw [hW]; exact EvS.new u v w
 have HW := Aside0.mk hW
 clear hW
 obtain ⟨Q, hQ⟩ : ∃ Q, Q = WoOut (x, 0) w := ⟨_, rfl⟩
 rw [← hQ]
 have HQ := Aside0.mk (show ∀ w', Below w.heap.size w w' → Q (.returned (.agg #[.int .i64 x.f0, .int .i64 x.f1, .string x.f2])) w' from fun w' h => by rw [hQ]; exact WoOut.ret (v := x) (by rfl) h)
 clear hQ
 have q2 := pw_cell_below hS.below m2
 have q3 : W.cell? ⟨p.block, p.off + 2 + 1, none⟩ = some (.int .i64 x.f1) := pw_cell_below hS.below m3
 have q4 : W.cell? ⟨p.block, p.off + 2 + 2, none⟩ = some (.string x.f2) := pw_cell_below hS.below m4
 clear m2 m3 m4
 obtain ⟨k0, k1⟩ := hS.asks
 obtain ⟨⟨x0, x1, x2, c0, c1, c2⟩, f0, f1, f2, hlt⟩ := hS.room
 go_enter Tryd.func57, Tryd.ntmps57
 go_upto_region 1 with (fail)
 rw [← HW.out]
 go_wp2
 refine bodyPost_ret (results_single rfl (.cell _ _ _ _ _ rfl (hS.done _ _ _) hu rfl (by kernel_rfl) .nil)) rfl ?_
 exact HQ.out _ (hS.put _ _ _).below
set_option maxHeartbeats 16000000 in
set_option maxRecDepth 100000 in
theorem op3_calls (u v : Value)  (p : Addr) (w : World) (hu0 : u.oneCell' = true) (hv0 : v.oneCell' = true) (hG : GlobE w) :
  Calls Tryd.prog 58 #[.agg #[u, v], .pointer (some p)] w (WoOut (nullV, 0) w) := by
 have hu := Tryd.underlying23
 obtain ⟨W, hW⟩ : ∃ W, W = (w.alloc (.cells #[u, v] 71)).alloc (.cells #[.int .i64 0, .int .i64 0, .string ⟨#[]⟩] 23) := ⟨_, rfl⟩
 have hS : EvS u v w W := by rw [hW]; exact EvS.new u v w
 have HW := Aside0.mk hW
 clear hW
 have HG := Aside0.mk hG
 clear hG
 obtain ⟨Q, hQ⟩ : ∃ Q, Q = WoOut (nullV, 0) w := ⟨_, rfl⟩
 rw [← hQ]
 have HQ := Aside0.mk (show ∀ w', Below w.heap.size w w' → Q (.returned (.agg #[.int .i64 0, .int .i64 0, .string ⟨#[]⟩])) w' from fun w' h => by rw [hQ]; exact WoOut.ret (v := nullV) (by rfl) h)
 clear hQ
 obtain ⟨k0, k1⟩ := hS.asks
 obtain ⟨⟨x0, x1, x2, c0, c1, c2⟩, f0, f1, f2, hlt⟩ := hS.room
 have n0 := (HG.out.below hS.below).n0
 have n1 := (HG.out.below hS.below).n1
 have n2 := (HG.out.below hS.below).n2
 go_enter Tryd.func58, Tryd.ntmps58
 go_upto_region 1 with (fail)
 rw [← HW.out]
 go_wp2
 refine bodyPost_ret (results_single rfl (.cell _ _ _ _ _ rfl (hS.done _ _ _) hu rfl (by kernel_rfl) .nil)) rfl ?_
 exact HQ.out _ (hS.put _ _ _).below
set_option maxHeartbeats 16000000 in
set_option maxRecDepth 100000 in
theorem op4_calls (u v : Value) (a : Wo) (p : Addr) (w : World) (hu0 : u.oneCell' = true) (hv0 : v.oneCell' = true) (hA : PartW u v p 0 a w) (hG : GlobE w) (ha : in64 a.1.f1) :
  Calls Tryd.prog 59 #[.agg #[u, v], .pointer (some p)] w (WoOut (bindW a fun x => reckS 5 (intV 0) x) w) := by
 have hu := Tryd.underlying23
 obtain ⟨W, hW⟩ : ∃ W, W = (w.alloc (.cells #[u, v] 71)).alloc (.cells #[.int .i64 0, .int .i64 0, .string ⟨#[]⟩] 23) := ⟨_, rfl⟩
 have hS : EvS u v w W := by rw [hW]; exact EvS.new u v w
 have HW := Aside0.mk hW
 clear hW
 have HG := Aside0.mk hG
 clear hG
 obtain ⟨a1, a2⟩ := a
 have hC : W.cell? ⟨w.heap.size, 0, none⟩ = some u ∧ W.cell? ⟨w.heap.size, 1, none⟩ = some v ∧ EvS u v w W := ⟨hS.asks.1, hS.asks.2, hS⟩
 by_cases ea : a2 = 0
 ·subst ea
  have HA := Aside0.mk (PartW.ok hA)
  clear hA
  obtain ⟨R, hR⟩ : ∃ R, reckS 5 (intV 0) a1 = R := ⟨_, rfl⟩
  have HRk := Aside0.mk (fun W (hW : EvS u v w W) => hR ▸ reckon_calls 5 (intV 0) a1 (by decide) ha W (HG.out.below hW.below))
  show Calls Tryd.prog 59 _ w (WoOut (bindW (a1, 0) fun x => reckS 5 (intV 0) x) w)
  rw [show (bindW (a1, 0) fun x => reckS 5 (intV 0) x) = R from hR]
  clear hR
  obtain ⟨r1, r2⟩ := R
  by_cases er : r2 = 0
  ·subst er
   obtain ⟨Q, hQ⟩ : ∃ Q, Q = WoOut (r1, 0) w := ⟨_, rfl⟩
   rw [← hQ]
   have HQ := Aside0.mk (show ∀ w', Below w.heap.size w w' → Q (.returned (.agg #[.int .i64 r1.f0, .int .i64 r1.f1, .string r1.f2])) w' from fun w' h => by rw [hQ]; exact WoOut.ret (v := r1) (by rfl) h)
   clear hQ
   go_enter Tryd.func59, Tryd.ntmps59
   go_upto_region 1 with (fail)
   rw [← HW.out]
   refine start_ (n := 6) (S := (fun w' => w'.cell? ⟨w.heap.size, 0, none⟩ = some u ∧ w'.cell? ⟨w.heap.size, 1, none⟩ = some v ∧ EvS u v w w')) (ds := [3, 4, 5]) (fB 6 0) (by kernel_rfl) rfl rfl (⟨pw_cell_below (below_drew1 (Below.refl _ _)) hC.1, pw_cell_below (below_drew1 (Below.refl _ _)) hC.2.1, hC.2.2.step (below_drew1 (Below.refl _ _))⟩) (fun hHeld => ?_)
   refine pure_ (i := 2) (N := some 7) (v := ?_) (a' := ?_) (fB 6 4) rfl rfl (by kernel_rfl) (fun _ _ _ h => h) (Or.inl ⟨by rfl, by intro w'; go_simp; (first | with_reducible rfl | skip)⟩) (by simp only [Act.put, zA, zB, zC]; rfl) ?_
   refine take_ (i := 1) (N := some 6) (v := ?_) (a' := ?_) (fB 6 6) rfl rfl (by kernel_rfl) (fun _ _ _ h => h) (Or.inl ⟨by rfl, by rintro w' ⟨s0, s1, s2⟩; go_simp; with_reducible rfl⟩) hHeld (by simp only [Act.put, zA, zB, zC]; rfl) ?_
   refine one1_ (i := 0) (N := some 5) (fB 6 7) rfl rfl (by kernel_rfl) (by decide) (fun K hK => ?_)
   refine goes_ Tryd.func61 (by kernel_rfl) rfl #[.int .i64 0] (by rfl) rfl rfl (by (try simp only [List.map_toArray, List.map_cons, List.map_nil]); first | done | rfl) ?_
   refine (value_Int.calls 0 1 0 ⟨#[]⟩ _ rfl).mono ?_
   rintro e w2 ⟨rfl, hb2⟩
   have hC2 : w2.cell? ⟨w.heap.size, 0, none⟩ = some u ∧ w2.cell? ⟨w.heap.size, 1, none⟩ = some v ∧ EvS u v w w2 := ⟨pw_cell_below hb2 hHeld.1, pw_cell_below hb2 hHeld.2.1, hHeld.2.2.step hb2⟩
   refine ⟨_, rfl, ?_⟩
   clear hHeld
   refine hK.out _ _ (hC2) (fun hHeld => ?_)
   clear hK K
   refine norm_ (a' := ?_) ?_ ?_
   rotate_left
   ·show Act.put _ (some 5) _ = _
    simp only [Act.put, zA, zB, zC]
    rfl
   refine last_ (i := 3) (N := some 8) (fB 6 15) rfl rfl (by kernel_rfl) (by decide) (fun K hK => ?_)
   refine goes_ Tryd.func62 (by kernel_rfl) rfl #[.agg #[u, v], .pointer (some p), .int .i64 0] (by rfl) rfl rfl (by (try simp only [List.map_toArray, List.map_cons, List.map_nil]); first | done | rfl) ?_
   refine (HA.out _ hC2.2.2).mono ?_
   rintro e w3 ⟨rfl, hb3⟩
   have hS3 := hC2.2.2.step hb3
   refine ⟨_, rfl, ?_⟩
   refine hK.out _ _ ?_
   clear hK K
   refine norm_ (a' := ?_) ?_ ?_
   rotate_left
   ·show Act.put _ (some 8) _ = _
    simp only [Act.put, zA, zB, zC]
    rfl
   refine last_ (i := 4) (N := some 9) (fB 6 31) rfl rfl (by kernel_rfl) (by decide) (fun K hK => ?_)
   refine goes_ Tryd.func60 (by kernel_rfl) rfl #[.int .i64 5, .agg #[.int .i64 1, .int .i64 0, .string ⟨#[]⟩], .agg #[.int .i64 a1.f0, .int .i64 a1.f1, .string a1.f2]] (by rfl) rfl rfl (by (try simp only [List.map_toArray, List.map_cons, List.map_nil]); first | done | rfl) ?_
   refine (WoOut.ok (HRk.out _ hS3)).mono ?_
   rintro e w4 ⟨rfl, hb4⟩
   have hS4 := hS3.step hb4
   refine ⟨_, rfl, ?_⟩
   refine hK.out _ _ ?_
   clear hK K
   refine norm_ (a' := ?_) ?_ ?_
   rotate_left
   ·show Act.put _ (some 9) _ = _
    simp only [Act.put, zA, zB, zC]
    rfl
   refine last_ (i := 5) (N := none) (fB 6 63) rfl rfl (by kernel_rfl) (by decide) (fun K hK => ?_)
   obtain ⟨⟨x0, x1, x2, c0, c1, c2⟩, f0, f1, f2, hlt⟩ := hS4.room
   refine skip_ (w1 := ((w4.setCell ⟨w.heap.size + 1, 0, none⟩ (.int .i64 r1.f0)).setCell ⟨w.heap.size + 1, 1, none⟩ (.int .i64 r1.f1)).setCell ⟨w.heap.size + 1, 2, none⟩ (.string r1.f2)) (by rfl) rfl ?_ ?_
   ·go_simp
   refine hK.out _ _ ?_
   clear hK K
   refine done_ (by kernel_rfl) ?_
   go_wp2
   refine bodyPost_ret (results_single rfl (.cell _ _ _ _ _ rfl (hS4.done _ _ _) hu rfl (by kernel_rfl) .nil)) rfl ?_
   exact HQ.out _ (hS4.put _ _ _).below
  ·
   obtain ⟨Q, hQ⟩ : ∃ Q, Q = WoOut (r1, r2) w := ⟨_, rfl⟩
   rw [← hQ]
   have HQ := Aside0.mk (show ∀ w', Below w.heap.size w w' → Q (.panicked (errP r2)) w' from fun w' h => by rw [hQ]; exact WoOut.pan (v := r1) (by rfl) er h)
   clear hQ
   go_enter Tryd.func59, Tryd.ntmps59
   go_upto_region 1 with (fail)
   rw [← HW.out]
   refine start_ (n := 6) (S := (fun w' => w'.cell? ⟨w.heap.size, 0, none⟩ = some u ∧ w'.cell? ⟨w.heap.size, 1, none⟩ = some v ∧ EvS u v w w')) (ds := [3, 4, 5]) (fB 6 0) (by kernel_rfl) rfl rfl (⟨pw_cell_below (below_drew1 (Below.refl _ _)) hC.1, pw_cell_below (below_drew1 (Below.refl _ _)) hC.2.1, hC.2.2.step (below_drew1 (Below.refl _ _))⟩) (fun hHeld => ?_)
   refine pure_ (i := 2) (N := some 7) (v := ?_) (a' := ?_) (fB 6 4) rfl rfl (by kernel_rfl) (fun _ _ _ h => h) (Or.inl ⟨by rfl, by intro w'; go_simp; (first | with_reducible rfl | skip)⟩) (by simp only [Act.put, zA, zB, zC]; rfl) ?_
   refine take_ (i := 1) (N := some 6) (v := ?_) (a' := ?_) (fB 6 6) rfl rfl (by kernel_rfl) (fun _ _ _ h => h) (Or.inl ⟨by rfl, by rintro w' ⟨s0, s1, s2⟩; go_simp; with_reducible rfl⟩) hHeld (by simp only [Act.put, zA, zB, zC]; rfl) ?_
   refine one1_ (i := 0) (N := some 5) (fB 6 7) rfl rfl (by kernel_rfl) (by decide) (fun K hK => ?_)
   refine goes_ Tryd.func61 (by kernel_rfl) rfl #[.int .i64 0] (by rfl) rfl rfl (by (try simp only [List.map_toArray, List.map_cons, List.map_nil]); first | done | rfl) ?_
   refine (value_Int.calls 0 1 0 ⟨#[]⟩ _ rfl).mono ?_
   rintro e w2 ⟨rfl, hb2⟩
   have hC2 : w2.cell? ⟨w.heap.size, 0, none⟩ = some u ∧ w2.cell? ⟨w.heap.size, 1, none⟩ = some v ∧ EvS u v w w2 := ⟨pw_cell_below hb2 hHeld.1, pw_cell_below hb2 hHeld.2.1, hHeld.2.2.step hb2⟩
   refine ⟨_, rfl, ?_⟩
   clear hHeld
   refine hK.out _ _ (hC2) (fun hHeld => ?_)
   clear hK K
   refine norm_ (a' := ?_) ?_ ?_
   rotate_left
   ·show Act.put _ (some 5) _ = _
    simp only [Act.put, zA, zB, zC]
    rfl
   refine last_ (i := 3) (N := some 8) (fB 6 15) rfl rfl (by kernel_rfl) (by decide) (fun K hK => ?_)
   refine goes_ Tryd.func62 (by kernel_rfl) rfl #[.agg #[u, v], .pointer (some p), .int .i64 0] (by rfl) rfl rfl (by (try simp only [List.map_toArray, List.map_cons, List.map_nil]); first | done | rfl) ?_
   refine (HA.out _ hC2.2.2).mono ?_
   rintro e w3 ⟨rfl, hb3⟩
   have hS3 := hC2.2.2.step hb3
   refine ⟨_, rfl, ?_⟩
   refine hK.out _ _ ?_
   clear hK K
   refine norm_ (a' := ?_) ?_ ?_
   rotate_left
   ·show Act.put _ (some 8) _ = _
    simp only [Act.put, zA, zB, zC]
    rfl
   refine last_ (i := 4) (N := some 9) (fB 6 31) rfl rfl (by kernel_rfl) (by decide) (fun K hK => ?_)
   refine goesP_ Tryd.func60 (by kernel_rfl) rfl #[.int .i64 5, .agg #[.int .i64 1, .int .i64 0, .string ⟨#[]⟩], .agg #[.int .i64 a1.f0, .int .i64 a1.f1, .string a1.f2]] (by rfl) rfl (by (try simp only [List.map_toArray, List.map_cons, List.map_nil]); first | done | rfl) ?_
   refine (WoOut.bad er (HRk.out _ hS3)).mono ?_
   rintro e w4 ⟨rfl, hb4⟩
   refine ⟨_, rfl, ?_⟩
   exact ⟨rfl, HQ.out _ (hS3.step hb4).below⟩
 ·
  have HA := Aside0.mk (PartW.bad hA ea)
  clear hA
  obtain ⟨Q, hQ⟩ : ∃ Q, Q = WoOut (bindW (a1, a2) fun x => reckS 5 (intV 0) x) w := ⟨_, rfl⟩
  rw [← hQ]
  have HQ := Aside0.mk (show ∀ w', Below w.heap.size w w' → Q (.panicked (errP a2)) w' from fun w' h => by rw [hQ]; exact WoOut.pan (v := nullV) (by rw [bindW_bad _ _ _ ea]) ea h)
  clear hQ
  go_enter Tryd.func59, Tryd.ntmps59
  go_upto_region 1 with (fail)
  rw [← HW.out]
  refine start_ (n := 6) (S := (fun w' => w'.cell? ⟨w.heap.size, 0, none⟩ = some u ∧ w'.cell? ⟨w.heap.size, 1, none⟩ = some v ∧ EvS u v w w')) (ds := [3, 4, 5]) (fB 6 0) (by kernel_rfl) rfl rfl (⟨pw_cell_below (below_drew1 (Below.refl _ _)) hC.1, pw_cell_below (below_drew1 (Below.refl _ _)) hC.2.1, hC.2.2.step (below_drew1 (Below.refl _ _))⟩) (fun hHeld => ?_)
  refine pure_ (i := 2) (N := some 7) (v := ?_) (a' := ?_) (fB 6 4) rfl rfl (by kernel_rfl) (fun _ _ _ h => h) (Or.inl ⟨by rfl, by intro w'; go_simp; (first | with_reducible rfl | skip)⟩) (by simp only [Act.put, zA, zB, zC]; rfl) ?_
  refine take_ (i := 1) (N := some 6) (v := ?_) (a' := ?_) (fB 6 6) rfl rfl (by kernel_rfl) (fun _ _ _ h => h) (Or.inl ⟨by rfl, by rintro w' ⟨s0, s1, s2⟩; go_simp; with_reducible rfl⟩) hHeld (by simp only [Act.put, zA, zB, zC]; rfl) ?_
  refine one1_ (i := 0) (N := some 5) (fB 6 7) rfl rfl (by kernel_rfl) (by decide) (fun K hK => ?_)
  refine goes_ Tryd.func61 (by kernel_rfl) rfl #[.int .i64 0] (by rfl) rfl rfl (by (try simp only [List.map_toArray, List.map_cons, List.map_nil]); first | done | rfl) ?_
  refine (value_Int.calls 0 1 0 ⟨#[]⟩ _ rfl).mono ?_
  rintro e w2 ⟨rfl, hb2⟩
  have hC2 : w2.cell? ⟨w.heap.size, 0, none⟩ = some u ∧ w2.cell? ⟨w.heap.size, 1, none⟩ = some v ∧ EvS u v w w2 := ⟨pw_cell_below hb2 hHeld.1, pw_cell_below hb2 hHeld.2.1, hHeld.2.2.step hb2⟩
  refine ⟨_, rfl, ?_⟩
  clear hHeld
  refine hK.out _ _ (hC2) (fun hHeld => ?_)
  clear hK K
  refine norm_ (a' := ?_) ?_ ?_
  rotate_left
  ·show Act.put _ (some 5) _ = _
   simp only [Act.put, zA, zB, zC]
   rfl
  refine last_ (i := 3) (N := some 8) (fB 6 15) rfl rfl (by kernel_rfl) (by decide) (fun K hK => ?_)
  refine goesP_ Tryd.func62 (by kernel_rfl) rfl #[.agg #[u, v], .pointer (some p), .int .i64 0] (by rfl) rfl (by (try simp only [List.map_toArray, List.map_cons, List.map_nil]); first | done | rfl) ?_
  refine (HA.out _ hC2.2.2).mono ?_
  rintro e w3 ⟨rfl, hb3⟩
  refine ⟨_, rfl, ?_⟩
  exact ⟨rfl, HQ.out _ (hC2.2.2.step hb3).below⟩
set_option maxHeartbeats 16000000 in
set_option maxRecDepth 100000 in
theorem op5_calls (u v : Value) (op : Int) (a b : Wo) (p : Addr) (w : World) (hu0 : u.oneCell' = true) (hv0 : v.oneCell' = true) (hA : PartW u v p 0 a w) (hB : PartW u v p 1 b w) (hG : GlobE w) (ha : in64 a.1.f1) (hb : in64 b.1.f1) (m0 : w.cell? p = some (.int .i64 op)) :
  Calls Tryd.prog 63 #[.agg #[u, v], .pointer (some p)] w (WoOut (bindW a fun x => bindW b fun y => reckS op x y) w) := by
 have hu := Tryd.underlying23
 obtain ⟨W, hW⟩ : ∃ W, W = (w.alloc (.cells #[u, v] 71)).alloc (.cells #[.int .i64 0, .int .i64 0, .string ⟨#[]⟩] 23) := ⟨_, rfl⟩
 have hS : EvS u v w W := by rw [hW]; exact EvS.new u v w
 have HW := Aside0.mk hW
 clear hW
 have HG := Aside0.mk hG
 clear hG
 obtain ⟨a1, a2⟩ := a
 obtain ⟨b1, b2⟩ := b
 obtain ⟨k0, k1⟩ := hS.asks
 by_cases ea : a2 = 0
 ·subst ea
  have HA := Aside0.mk (PartW.ok hA)
  clear hA
  by_cases eb : b2 = 0
  ·subst eb
   have HB := Aside0.mk (PartW.ok hB)
   clear hB
   obtain ⟨R, hR⟩ : ∃ R, reckS op a1 b1 = R := ⟨_, rfl⟩
   have HRk := Aside0.mk (fun W (hW : EvS u v w W) => hR ▸ reckon_calls op a1 b1 ha hb W (HG.out.below hW.below))
   show Calls Tryd.prog 63 _ w (WoOut (bindW (a1, 0) fun x => bindW (b1, 0) fun y => reckS op x y) w)
   rw [show (bindW (a1, 0) fun x => bindW (b1, 0) fun y => reckS op x y) = R from hR]
   clear hR
   obtain ⟨r1, r2⟩ := R
   by_cases er : r2 = 0
   ·subst er
    obtain ⟨Q, hQ⟩ : ∃ Q, Q = WoOut (r1, 0) w := ⟨_, rfl⟩
    rw [← hQ]
    have HQ := Aside0.mk (show ∀ w', Below w.heap.size w w' → Q (.returned (.agg #[.int .i64 r1.f0, .int .i64 r1.f1, .string r1.f2])) w' from fun w' h => by rw [hQ]; exact WoOut.ret (v := r1) (by rfl) h)
    clear hQ
    go_enter Tryd.func63, Tryd.ntmps63
    go_upto_region 1 with (fail)
    rw [← HW.out]
    go_upto_region 2 with (go_at_call 62; refine (HA.out _ hS).mono ?_; rintro e w2 ⟨rfl, hb2⟩; have hS2 := hS.step hb2; clear hb2)
    obtain ⟨W3, hW3⟩ : ∃ W3, W3 = w2.alloc (.cells #[.int .i64 a1.f0, .int .i64 a1.f1, .string a1.f2] 23) := ⟨_, rfl⟩
    have hS3 : EvS u v w W3 := by rw [hW3]; exact hS2.step (below_alloc (Below.refl _ _) _)
    have hX3 : W3.heap[w2.heap.size]? = some (.cells #[.int .i64 a1.f0, .int .i64 a1.f1, .string a1.f2] 23 (0, 0)) := by rw [hW3]; exact blk_new w2 _
    have hBw3 : Below w2.heap.size w2 W3 := by rw [hW3]; exact below_alloc (Below.refl _ _) _
    rw [← hW3]
    clear hW3
    obtain ⟨b0, b1, b2, _, _, _⟩ := box3 hX3
    have hC : W3.cell? p = some (.int .i64 op) ∧ W3.cell? ⟨w.heap.size, 0, none⟩ = some u ∧ W3.cell? ⟨w.heap.size, 1, none⟩ = some v ∧ W3.cell? ⟨w2.heap.size, 0, none⟩ = some (.int .i64 a1.f0) ∧ W3.cell? ⟨w2.heap.size, 1, none⟩ = some (.int .i64 a1.f1) ∧ W3.cell? ⟨w2.heap.size, 2, none⟩ = some (.string a1.f2) ∧ EvS u v w W3 := ⟨pw_cell_below hS3.below m0, hS3.asks.1, hS3.asks.2, b0, b1, b2, hS3⟩
    clear b0 b1 b2 k0 k1 hX3 hS2 hS
    refine start_ (n := 10) (S := (fun w' => w'.cell? p = some (.int .i64 op) ∧ w'.cell? ⟨w.heap.size, 0, none⟩ = some u ∧ w'.cell? ⟨w.heap.size, 1, none⟩ = some v ∧ w'.cell? ⟨w2.heap.size, 0, none⟩ = some (.int .i64 a1.f0) ∧ w'.cell? ⟨w2.heap.size, 1, none⟩ = some (.int .i64 a1.f1) ∧ w'.cell? ⟨w2.heap.size, 2, none⟩ = some (.string a1.f2) ∧ EvS u v w w')) (ds := [8, 9]) (fB 10 0) (by kernel_rfl) rfl rfl (⟨pw_cell_below (below_drew1 (Below.refl _ _)) hC.1, pw_cell_below (below_drew1 (Below.refl _ _)) hC.2.1, pw_cell_below (below_drew1 (Below.refl _ _)) hC.2.2.1, pw_cell_below (below_drew1 (Below.refl _ _)) hC.2.2.2.1, pw_cell_below (below_drew1 (Below.refl _ _)) hC.2.2.2.2.1, pw_cell_below (below_drew1 (Below.refl _ _)) hC.2.2.2.2.2.1, hC.2.2.2.2.2.2.step (below_drew1 (Below.refl _ _))⟩) (fun hHeld => ?_)
    refine pure_ (i := 0) (N := some 9) (v := ?_) (a' := ?_) (fB 10 1) rfl rfl (by kernel_rfl) (fun _ _ _ h => h) (Or.inl ⟨by rfl, by intro w'; go_simp; (first | with_reducible rfl | skip)⟩) (by simp only [Act.put, zA, zB, zC]; rfl) ?_
    refine pure_ (i := 1) (N := some 10) (v := ?_) (a' := ?_) (fB 10 3) rfl rfl (by kernel_rfl) (fun _ _ _ h => h) (Or.inl ⟨by rfl, by intro w'; go_simp; (first | with_reducible rfl | skip)⟩) (by simp only [Act.put, zA, zB, zC]; rfl) ?_
    refine pure_ (i := 2) (N := some 11) (v := ?_) (a' := ?_) (fB 10 7) rfl rfl (by kernel_rfl) (fun _ _ _ h => h) (Or.inl ⟨by rfl, by intro w'; go_simp; (first | with_reducible rfl | skip)⟩) (by simp only [Act.put, zA, zB, zC]; rfl) ?_
    refine pure_ (i := 6) (N := some 15) (v := ?_) (a' := ?_) (fB 10 71) rfl rfl (by kernel_rfl) (fun _ _ _ h => h) (Or.inl ⟨by rfl, by intro w'; go_simp; (first | with_reducible rfl | skip)⟩) (by simp only [Act.put, zA, zB, zC]; rfl) ?_
    refine take_ (i := 3) (N := some 12) (v := ?_) (a' := ?_) (fB 10 79) rfl rfl (by kernel_rfl) (fun _ _ _ h => h) (Or.inl ⟨by rfl, by rintro w' ⟨s0, s1, s2, s3, s4, s5, s6⟩; go_simp; with_reducible rfl⟩) hHeld (by simp only [Act.put, zA, zB, zC]; rfl) ?_
    refine take_ (i := 4) (N := some 13) (v := ?_) (a' := ?_) (fB 10 95) rfl rfl (by kernel_rfl) (fun _ _ _ h => h) (Or.inl ⟨by rfl, by rintro w' ⟨s0, s1, s2, s3, s4, s5, s6⟩; go_simp; with_reducible rfl⟩) hHeld (by simp only [Act.put, zA, zB, zC]; rfl) ?_
    refine take_ (i := 5) (N := some 14) (v := ?_) (a' := ?_) (fB 10 127) rfl rfl (by kernel_rfl) (fun _ _ _ h => h) (Or.inl ⟨by rfl, by rintro w' ⟨s0, s1, s2, s3, s4, s5, s6⟩; go_simp; with_reducible rfl⟩) hHeld (by simp only [Act.put, zA, zB, zC]; rfl) ?_
    refine one1_ (i := 7) (N := some 16) (fB 10 255) rfl rfl (by kernel_rfl) (by decide) (fun K hK => ?_)
    refine goes_ Tryd.func62 (by kernel_rfl) rfl #[.agg #[u, v], .pointer (some p), .int .i64 1] (by rfl) rfl rfl (by (try simp only [List.map_toArray, List.map_cons, List.map_nil]); first | done | rfl) ?_
    refine (HB.out _ (hHeld.2.2.2.2.2.2)).mono ?_
    rintro e w4 ⟨rfl, hb4⟩
    have hC4 : w4.cell? p = some (.int .i64 op) ∧ w4.cell? ⟨w.heap.size, 0, none⟩ = some u ∧ w4.cell? ⟨w.heap.size, 1, none⟩ = some v ∧ w4.cell? ⟨w2.heap.size, 0, none⟩ = some (.int .i64 a1.f0) ∧ w4.cell? ⟨w2.heap.size, 1, none⟩ = some (.int .i64 a1.f1) ∧ w4.cell? ⟨w2.heap.size, 2, none⟩ = some (.string a1.f2) ∧ EvS u v w w4 := ⟨pw_cell_below hb4 hHeld.1, pw_cell_below hb4 hHeld.2.1, pw_cell_below hb4 hHeld.2.2.1, pw_cell_below hb4 hHeld.2.2.2.1, pw_cell_below hb4 hHeld.2.2.2.2.1, pw_cell_below hb4 hHeld.2.2.2.2.2.1, hHeld.2.2.2.2.2.2.step hb4⟩
    refine ⟨_, rfl, ?_⟩
    clear hHeld
    refine hK.out _ _ (hC4) (fun hHeld => ?_)
    clear hK K
    refine norm_ (a' := ?_) ?_ ?_
    rotate_left
    ·show Act.put _ (some 16) _ = _
     simp only [Act.put, zA, zB, zC]
     rfl
    refine last_ (i := 8) (N := some 17) (fB 10 511) rfl rfl (by kernel_rfl) (by decide) (fun K hK => ?_)
    refine goes_ Tryd.func60 (by kernel_rfl) rfl #[.int .i64 op, .agg #[.int .i64 a1.f0, .int .i64 a1.f1, .string a1.f2], .agg #[.int .i64 b1.f0, .int .i64 b1.f1, .string b1.f2]] (by rfl) rfl rfl (by (try simp only [List.map_toArray, List.map_cons, List.map_nil]); first | done | rfl) ?_
    refine (WoOut.ok (HRk.out _ (hC4.2.2.2.2.2.2))).mono ?_
    rintro e w5 ⟨rfl, hb5⟩
    have hS5 := EvS.step (hC4.2.2.2.2.2.2) hb5
    refine ⟨_, rfl, ?_⟩
    refine hK.out _ _ ?_
    clear hK K
    refine norm_ (a' := ?_) ?_ ?_
    rotate_left
    ·show Act.put _ (some 17) _ = _
     simp only [Act.put, zA, zB, zC]
     rfl
    refine last_ (i := 9) (N := none) (fB 10 1023) rfl rfl (by kernel_rfl) (by decide) (fun K hK => ?_)
    obtain ⟨⟨x0, x1, x2, c0, c1, c2⟩, f0, f1, f2, hlt⟩ := hS5.room
    refine skip_ (w1 := ((w5.setCell ⟨w.heap.size + 1, 0, none⟩ (.int .i64 r1.f0)).setCell ⟨w.heap.size + 1, 1, none⟩ (.int .i64 r1.f1)).setCell ⟨w.heap.size + 1, 2, none⟩ (.string r1.f2)) (by rfl) rfl ?_ ?_
    ·go_simp
    refine hK.out _ _ ?_
    clear hK K
    refine done_ (by kernel_rfl) ?_
    go_wp2
    refine bodyPost_ret (results_single rfl (.cell _ _ _ _ _ rfl (hS5.done _ _ _) hu rfl (by kernel_rfl) .nil)) rfl ?_
    exact HQ.out _ (hS5.put _ _ _).below
   ·
    obtain ⟨Q, hQ⟩ : ∃ Q, Q = WoOut (r1, r2) w := ⟨_, rfl⟩
    rw [← hQ]
    have HQ := Aside0.mk (show ∀ w', Below w.heap.size w w' → Q (.panicked (errP r2)) w' from fun w' h => by rw [hQ]; exact WoOut.pan (v := r1) (by rfl) er h)
    clear hQ
    go_enter Tryd.func63, Tryd.ntmps63
    go_upto_region 1 with (fail)
    rw [← HW.out]
    go_upto_region 2 with (go_at_call 62; refine (HA.out _ hS).mono ?_; rintro e w2 ⟨rfl, hb2⟩; have hS2 := hS.step hb2; clear hb2)
    obtain ⟨W3, hW3⟩ : ∃ W3, W3 = w2.alloc (.cells #[.int .i64 a1.f0, .int .i64 a1.f1, .string a1.f2] 23) := ⟨_, rfl⟩
    have hS3 : EvS u v w W3 := by rw [hW3]; exact hS2.step (below_alloc (Below.refl _ _) _)
    have hX3 : W3.heap[w2.heap.size]? = some (.cells #[.int .i64 a1.f0, .int .i64 a1.f1, .string a1.f2] 23 (0, 0)) := by rw [hW3]; exact blk_new w2 _
    have hBw3 : Below w2.heap.size w2 W3 := by rw [hW3]; exact below_alloc (Below.refl _ _) _
    rw [← hW3]
    clear hW3
    obtain ⟨b0, b1, b2, _, _, _⟩ := box3 hX3
    have hC : W3.cell? p = some (.int .i64 op) ∧ W3.cell? ⟨w.heap.size, 0, none⟩ = some u ∧ W3.cell? ⟨w.heap.size, 1, none⟩ = some v ∧ W3.cell? ⟨w2.heap.size, 0, none⟩ = some (.int .i64 a1.f0) ∧ W3.cell? ⟨w2.heap.size, 1, none⟩ = some (.int .i64 a1.f1) ∧ W3.cell? ⟨w2.heap.size, 2, none⟩ = some (.string a1.f2) ∧ EvS u v w W3 := ⟨pw_cell_below hS3.below m0, hS3.asks.1, hS3.asks.2, b0, b1, b2, hS3⟩
    clear b0 b1 b2 k0 k1 hX3 hS2 hS
    refine start_ (n := 10) (S := (fun w' => w'.cell? p = some (.int .i64 op) ∧ w'.cell? ⟨w.heap.size, 0, none⟩ = some u ∧ w'.cell? ⟨w.heap.size, 1, none⟩ = some v ∧ w'.cell? ⟨w2.heap.size, 0, none⟩ = some (.int .i64 a1.f0) ∧ w'.cell? ⟨w2.heap.size, 1, none⟩ = some (.int .i64 a1.f1) ∧ w'.cell? ⟨w2.heap.size, 2, none⟩ = some (.string a1.f2) ∧ EvS u v w w')) (ds := [8, 9]) (fB 10 0) (by kernel_rfl) rfl rfl (⟨pw_cell_below (below_drew1 (Below.refl _ _)) hC.1, pw_cell_below (below_drew1 (Below.refl _ _)) hC.2.1, pw_cell_below (below_drew1 (Below.refl _ _)) hC.2.2.1, pw_cell_below (below_drew1 (Below.refl _ _)) hC.2.2.2.1, pw_cell_below (below_drew1 (Below.refl _ _)) hC.2.2.2.2.1, pw_cell_below (below_drew1 (Below.refl _ _)) hC.2.2.2.2.2.1, hC.2.2.2.2.2.2.step (below_drew1 (Below.refl _ _))⟩) (fun hHeld => ?_)
    refine pure_ (i := 0) (N := some 9) (v := ?_) (a' := ?_) (fB 10 1) rfl rfl (by kernel_rfl) (fun _ _ _ h => h) (Or.inl ⟨by rfl, by intro w'; go_simp; (first | with_reducible rfl | skip)⟩) (by simp only [Act.put, zA, zB, zC]; rfl) ?_
    refine pure_ (i := 1) (N := some 10) (v := ?_) (a' := ?_) (fB 10 3) rfl rfl (by kernel_rfl) (fun _ _ _ h => h) (Or.inl ⟨by rfl, by intro w'; go_simp; (first | with_reducible rfl | skip)⟩) (by simp only [Act.put, zA, zB, zC]; rfl) ?_
    refine pure_ (i := 2) (N := some 11) (v := ?_) (a' := ?_) (fB 10 7) rfl rfl (by kernel_rfl) (fun _ _ _ h => h) (Or.inl ⟨by rfl, by intro w'; go_simp; (first | with_reducible rfl | skip)⟩) (by simp only [Act.put, zA, zB, zC]; rfl) ?_
    refine pure_ (i := 6) (N := some 15) (v := ?_) (a' := ?_) (fB 10 71) rfl rfl (by kernel_rfl) (fun _ _ _ h => h) (Or.inl ⟨by rfl, by intro w'; go_simp; (first | with_reducible rfl | skip)⟩) (by simp only [Act.put, zA, zB, zC]; rfl) ?_
    refine take_ (i := 3) (N := some 12) (v := ?_) (a' := ?_) (fB 10 79) rfl rfl (by kernel_rfl) (fun _ _ _ h => h) (Or.inl ⟨by rfl, by rintro w' ⟨s0, s1, s2, s3, s4, s5, s6⟩; go_simp; with_reducible rfl⟩) hHeld (by simp only [Act.put, zA, zB, zC]; rfl) ?_
    refine take_ (i := 4) (N := some 13) (v := ?_) (a' := ?_) (fB 10 95) rfl rfl (by kernel_rfl) (fun _ _ _ h => h) (Or.inl ⟨by rfl, by rintro w' ⟨s0, s1, s2, s3, s4, s5, s6⟩; go_simp; with_reducible rfl⟩) hHeld (by simp only [Act.put, zA, zB, zC]; rfl) ?_
    refine take_ (i := 5) (N := some 14) (v := ?_) (a' := ?_) (fB 10 127) rfl rfl (by kernel_rfl) (fun _ _ _ h => h) (Or.inl ⟨by rfl, by rintro w' ⟨s0, s1, s2, s3, s4, s5, s6⟩; go_simp; with_reducible rfl⟩) hHeld (by simp only [Act.put, zA, zB, zC]; rfl) ?_
    refine one1_ (i := 7) (N := some 16) (fB 10 255) rfl rfl (by kernel_rfl) (by decide) (fun K hK => ?_)
    refine goes_ Tryd.func62 (by kernel_rfl) rfl #[.agg #[u, v], .pointer (some p), .int .i64 1] (by rfl) rfl rfl (by (try simp only [List.map_toArray, List.map_cons, List.map_nil]); first | done | rfl) ?_
    refine (HB.out _ (hHeld.2.2.2.2.2.2)).mono ?_
    rintro e w4 ⟨rfl, hb4⟩
    have hC4 : w4.cell? p = some (.int .i64 op) ∧ w4.cell? ⟨w.heap.size, 0, none⟩ = some u ∧ w4.cell? ⟨w.heap.size, 1, none⟩ = some v ∧ w4.cell? ⟨w2.heap.size, 0, none⟩ = some (.int .i64 a1.f0) ∧ w4.cell? ⟨w2.heap.size, 1, none⟩ = some (.int .i64 a1.f1) ∧ w4.cell? ⟨w2.heap.size, 2, none⟩ = some (.string a1.f2) ∧ EvS u v w w4 := ⟨pw_cell_below hb4 hHeld.1, pw_cell_below hb4 hHeld.2.1, pw_cell_below hb4 hHeld.2.2.1, pw_cell_below hb4 hHeld.2.2.2.1, pw_cell_below hb4 hHeld.2.2.2.2.1, pw_cell_below hb4 hHeld.2.2.2.2.2.1, hHeld.2.2.2.2.2.2.step hb4⟩
    refine ⟨_, rfl, ?_⟩
    clear hHeld
    refine hK.out _ _ (hC4) (fun hHeld => ?_)
    clear hK K
    refine norm_ (a' := ?_) ?_ ?_
    rotate_left
    ·show Act.put _ (some 16) _ = _
     simp only [Act.put, zA, zB, zC]
     rfl
    refine last_ (i := 8) (N := some 17) (fB 10 511) rfl rfl (by kernel_rfl) (by decide) (fun K hK => ?_)
    refine goesP_ Tryd.func60 (by kernel_rfl) rfl #[.int .i64 op, .agg #[.int .i64 a1.f0, .int .i64 a1.f1, .string a1.f2], .agg #[.int .i64 b1.f0, .int .i64 b1.f1, .string b1.f2]] (by rfl) rfl (by (try simp only [List.map_toArray, List.map_cons, List.map_nil]); first | done | rfl) ?_
    refine (WoOut.bad er (HRk.out _ (hC4.2.2.2.2.2.2))).mono ?_
    rintro e w5 ⟨rfl, hb5⟩
    refine ⟨_, rfl, ?_⟩
    exact ⟨rfl, HQ.out _ (EvS.step (hC4.2.2.2.2.2.2) hb5).below⟩
  ·
   have HB := Aside0.mk (PartW.bad hB eb)
   clear hB
   obtain ⟨Q, hQ⟩ : ∃ Q, Q = WoOut (bindW (a1, 0) fun x => bindW (b1, b2) fun y => reckS op x y) w := ⟨_, rfl⟩
   rw [← hQ]
   have HQ := Aside0.mk (show ∀ w', Below w.heap.size w w' → Q (.panicked (errP b2)) w' from fun w' h => by rw [hQ]; exact WoOut.pan (v := nullV) (by rw [bindW_ok, bindW_bad _ _ _ eb]) eb h)
   clear hQ
   go_enter Tryd.func63, Tryd.ntmps63
   go_upto_region 1 with (fail)
   rw [← HW.out]
   go_upto_region 2 with (go_at_call 62; refine (HA.out _ hS).mono ?_; rintro e w2 ⟨rfl, hb2⟩; have hS2 := hS.step hb2; clear hb2)
   obtain ⟨W3, hW3⟩ : ∃ W3, W3 = w2.alloc (.cells #[.int .i64 a1.f0, .int .i64 a1.f1, .string a1.f2] 23) := ⟨_, rfl⟩
   have hS3 : EvS u v w W3 := by rw [hW3]; exact hS2.step (below_alloc (Below.refl _ _) _)
   have hX3 : W3.heap[w2.heap.size]? = some (.cells #[.int .i64 a1.f0, .int .i64 a1.f1, .string a1.f2] 23 (0, 0)) := by rw [hW3]; exact blk_new w2 _
   have hBw3 : Below w2.heap.size w2 W3 := by rw [hW3]; exact below_alloc (Below.refl _ _) _
   rw [← hW3]
   clear hW3
   obtain ⟨b0, b1, b2, _, _, _⟩ := box3 hX3
   have hC : W3.cell? p = some (.int .i64 op) ∧ W3.cell? ⟨w.heap.size, 0, none⟩ = some u ∧ W3.cell? ⟨w.heap.size, 1, none⟩ = some v ∧ W3.cell? ⟨w2.heap.size, 0, none⟩ = some (.int .i64 a1.f0) ∧ W3.cell? ⟨w2.heap.size, 1, none⟩ = some (.int .i64 a1.f1) ∧ W3.cell? ⟨w2.heap.size, 2, none⟩ = some (.string a1.f2) ∧ EvS u v w W3 := ⟨pw_cell_below hS3.below m0, hS3.asks.1, hS3.asks.2, b0, b1, b2, hS3⟩
   clear b0 b1 b2 k0 k1 hX3 hS2 hS
   refine start_ (n := 10) (S := (fun w' => w'.cell? p = some (.int .i64 op) ∧ w'.cell? ⟨w.heap.size, 0, none⟩ = some u ∧ w'.cell? ⟨w.heap.size, 1, none⟩ = some v ∧ w'.cell? ⟨w2.heap.size, 0, none⟩ = some (.int .i64 a1.f0) ∧ w'.cell? ⟨w2.heap.size, 1, none⟩ = some (.int .i64 a1.f1) ∧ w'.cell? ⟨w2.heap.size, 2, none⟩ = some (.string a1.f2) ∧ EvS u v w w')) (ds := [8, 9]) (fB 10 0) (by kernel_rfl) rfl rfl (⟨pw_cell_below (below_drew1 (Below.refl _ _)) hC.1, pw_cell_below (below_drew1 (Below.refl _ _)) hC.2.1, pw_cell_below (below_drew1 (Below.refl _ _)) hC.2.2.1, pw_cell_below (below_drew1 (Below.refl _ _)) hC.2.2.2.1, pw_cell_below (below_drew1 (Below.refl _ _)) hC.2.2.2.2.1, pw_cell_below (below_drew1 (Below.refl _ _)) hC.2.2.2.2.2.1, hC.2.2.2.2.2.2.step (below_drew1 (Below.refl _ _))⟩) (fun hHeld => ?_)
   refine pure_ (i := 0) (N := some 9) (v := ?_) (a' := ?_) (fB 10 1) rfl rfl (by kernel_rfl) (fun _ _ _ h => h) (Or.inl ⟨by rfl, by intro w'; go_simp; (first | with_reducible rfl | skip)⟩) (by simp only [Act.put, zA, zB, zC]; rfl) ?_
   refine pure_ (i := 1) (N := some 10) (v := ?_) (a' := ?_) (fB 10 3) rfl rfl (by kernel_rfl) (fun _ _ _ h => h) (Or.inl ⟨by rfl, by intro w'; go_simp; (first | with_reducible rfl | skip)⟩) (by simp only [Act.put, zA, zB, zC]; rfl) ?_
   refine pure_ (i := 2) (N := some 11) (v := ?_) (a' := ?_) (fB 10 7) rfl rfl (by kernel_rfl) (fun _ _ _ h => h) (Or.inl ⟨by rfl, by intro w'; go_simp; (first | with_reducible rfl | skip)⟩) (by simp only [Act.put, zA, zB, zC]; rfl) ?_
   refine pure_ (i := 6) (N := some 15) (v := ?_) (a' := ?_) (fB 10 71) rfl rfl (by kernel_rfl) (fun _ _ _ h => h) (Or.inl ⟨by rfl, by intro w'; go_simp; (first | with_reducible rfl | skip)⟩) (by simp only [Act.put, zA, zB, zC]; rfl) ?_
   refine take_ (i := 3) (N := some 12) (v := ?_) (a' := ?_) (fB 10 79) rfl rfl (by kernel_rfl) (fun _ _ _ h => h) (Or.inl ⟨by rfl, by rintro w' ⟨s0, s1, s2, s3, s4, s5, s6⟩; go_simp; with_reducible rfl⟩) hHeld (by simp only [Act.put, zA, zB, zC]; rfl) ?_
   refine take_ (i := 4) (N := some 13) (v := ?_) (a' := ?_) (fB 10 95) rfl rfl (by kernel_rfl) (fun _ _ _ h => h) (Or.inl ⟨by rfl, by rintro w' ⟨s0, s1, s2, s3, s4, s5, s6⟩; go_simp; with_reducible rfl⟩) hHeld (by simp only [Act.put, zA, zB, zC]; rfl) ?_
   refine take_ (i := 5) (N := some 14) (v := ?_) (a' := ?_) (fB 10 127) rfl rfl (by kernel_rfl) (fun _ _ _ h => h) (Or.inl ⟨by rfl, by rintro w' ⟨s0, s1, s2, s3, s4, s5, s6⟩; go_simp; with_reducible rfl⟩) hHeld (by simp only [Act.put, zA, zB, zC]; rfl) ?_
   refine one1_ (i := 7) (N := some 16) (fB 10 255) rfl rfl (by kernel_rfl) (by decide) (fun K hK => ?_)
   refine goesP_ Tryd.func62 (by kernel_rfl) rfl #[.agg #[u, v], .pointer (some p), .int .i64 1] (by rfl) rfl (by (try simp only [List.map_toArray, List.map_cons, List.map_nil]); first | done | rfl) ?_
   refine (HB.out _ (hHeld.2.2.2.2.2.2)).mono ?_
   rintro e w4 ⟨rfl, hb4⟩
   refine ⟨_, rfl, ?_⟩
   exact ⟨rfl, HQ.out _ (EvS.step (hHeld.2.2.2.2.2.2) hb4).below⟩
 ·
  have HA := Aside0.mk (PartW.bad hA ea)
  clear hA hB
  obtain ⟨Q, hQ⟩ : ∃ Q, Q = WoOut (bindW (a1, a2) fun x => bindW (b1, b2) fun y => reckS op x y) w := ⟨_, rfl⟩
  rw [← hQ]
  have HQ := Aside0.mk (show ∀ w', Below w.heap.size w w' → Q (.panicked (errP a2)) w' from fun w' h => by rw [hQ]; exact WoOut.pan (v := nullV) (by rw [bindW_bad _ _ _ ea]) ea h)
  clear hQ
  go_enter Tryd.func63, Tryd.ntmps63
  go_upto_region 1 with (fail)
  rw [← HW.out]
  go_wp2_with (go_at_call 62; refine (HA.out _ hS).mono ?_; rintro e w2 ⟨rfl, hb2⟩; have HB := Aside0.mk (hS.step hb2).below; clear hb2)
  exact ⟨rfl, HQ.out _ HB.out⟩
set_option maxHeartbeats 16000000 in
set_option maxRecDepth 100000 in
theorem op6_calls (u v : Value) (a : Wo) (p : Addr) (w : World) (hu0 : u.oneCell' = true) (hv0 : v.oneCell' = true) (hA : PartW u v p 0 a w) (hG : GlobE w) :
  Calls Tryd.prog 66 #[.agg #[u, v], .pointer (some p)] w (WoOut (bindW a fun x => if x = nullV then (x, 0) else (⟨x.f0, wrap64 (1 - x.f1), x.f2⟩, 0)) w) := by
 have hu := Tryd.underlying23
 obtain ⟨W, hW⟩ : ∃ W, W = (w.alloc (.cells #[u, v] 71)).alloc (.cells #[.int .i64 0, .int .i64 0, .string ⟨#[]⟩] 23) := ⟨_, rfl⟩
 have hS : EvS u v w W := by rw [hW]; exact EvS.new u v w
 have HW := Aside0.mk hW
 clear hW
 have HG := Aside0.mk hG
 clear hG
 obtain ⟨a1, a2⟩ := a
 obtain ⟨k0, k1⟩ := hS.asks
 by_cases ea : a2 = 0
 ·subst ea
  have HA := Aside0.mk (PartW.ok hA)
  clear hA
  have en := eqv_null a1
  by_cases hn : a1 = nullV
  ·rw [decide_eq_true hn] at en
   obtain ⟨Q, hQ⟩ : ∃ Q, Q = WoOut (bindW (a1, 0) fun x => if x = nullV then (x, 0) else (⟨x.f0, wrap64 (1 - x.f1), x.f2⟩, 0)) w := ⟨_, rfl⟩
   rw [← hQ]
   have HQ := Aside0.mk (show ∀ w', Below w.heap.size w w' → Q (.returned (.agg #[.int .i64 a1.f0, .int .i64 a1.f1, .string a1.f2])) w' from fun w' h => by rw [hQ]; exact WoOut.ret (v := a1) (by rw [bindW_ok, if_pos hn]) h)
   clear hQ
   clear hn
   go_enter Tryd.func66, Tryd.ntmps66
   go_upto_region 1 with (fail)
   rw [← HW.out]
   go_upto_region 2 with (go_at_call 62; refine (HA.out _ hS).mono ?_; rintro e w2 ⟨rfl, hb2⟩; have hS2 := hS.step hb2; clear hb2)
   obtain ⟨W3, hW3⟩ : ∃ W3, W3 = w2.alloc (.cells #[.int .i64 a1.f0, .int .i64 a1.f1, .string a1.f2] 23) := ⟨_, rfl⟩
   have hS3 : EvS u v w W3 := by rw [hW3]; exact hS2.step (below_alloc (Below.refl _ _) _)
   have hX3 : W3.heap[w2.heap.size]? = some (.cells #[.int .i64 a1.f0, .int .i64 a1.f1, .string a1.f2] 23 (0, 0)) := by rw [hW3]; exact blk_new w2 _
   have hBw3 : Below w2.heap.size w2 W3 := by rw [hW3]; exact below_alloc (Below.refl _ _) _
   rw [← hW3]
   clear hW3
   obtain ⟨k0, k1⟩ := hS3.asks
   obtain ⟨⟨x0, x1, x2, c0, c1, c2⟩, f0, f1, f2, hlt⟩ := hS3.room
   obtain ⟨b00, b01, b02, g00, g01, g02⟩ := box3 hX3
   have n0 := (HG.out.below hS3.below).n0
   have n1 := (HG.out.below hS3.below).n1
   have n2 := (HG.out.below hS3.below).n2
   go_wp2
   refine bodyPost_ret (results_single rfl (.cell _ _ _ _ _ rfl (hS3.done _ _ _) hu rfl (by kernel_rfl) .nil)) rfl ?_
   exact HQ.out _ (hS3.put _ _ _).below
  ·rw [decide_eq_false hn] at en
   obtain ⟨Q, hQ⟩ : ∃ Q, Q = WoOut (bindW (a1, 0) fun x => if x = nullV then (x, 0) else (⟨x.f0, wrap64 (1 - x.f1), x.f2⟩, 0)) w := ⟨_, rfl⟩
   rw [← hQ]
   have HQ := Aside0.mk (show ∀ w', Below w.heap.size w w' → Q (.returned (.agg #[.int .i64 a1.f0, .int .i64 (wrap64 (1 - a1.f1)), .string a1.f2])) w' from fun w' h => by rw [hQ]; exact WoOut.ret (v := ⟨a1.f0, wrap64 (1 - a1.f1), a1.f2⟩) (by rw [bindW_ok, if_neg hn]) h)
   clear hQ
   clear hn
   go_enter Tryd.func66, Tryd.ntmps66
   go_upto_region 1 with (fail)
   rw [← HW.out]
   go_upto_region 2 with (go_at_call 62; refine (HA.out _ hS).mono ?_; rintro e w2 ⟨rfl, hb2⟩; have hS2 := hS.step hb2; clear hb2)
   obtain ⟨W3, hW3⟩ : ∃ W3, W3 = w2.alloc (.cells #[.int .i64 a1.f0, .int .i64 a1.f1, .string a1.f2] 23) := ⟨_, rfl⟩
   have hS3 : EvS u v w W3 := by rw [hW3]; exact hS2.step (below_alloc (Below.refl _ _) _)
   have hX3 : W3.heap[w2.heap.size]? = some (.cells #[.int .i64 a1.f0, .int .i64 a1.f1, .string a1.f2] 23 (0, 0)) := by rw [hW3]; exact blk_new w2 _
   have hBw3 : Below w2.heap.size w2 W3 := by rw [hW3]; exact below_alloc (Below.refl _ _) _
   rw [← hW3]
   clear hW3
   obtain ⟨b00, b01, b02, g00, g01, g02⟩ := box3 hX3
   have n0 := (HG.out.below hS3.below).n0
   have n1 := (HG.out.below hS3.below).n1
   have n2 := (HG.out.below hS3.below).n2
   go_upto_region 4 with (fail)
   have hlt2 : w.heap.size + 1 < w2.heap.size := hS2.room.2.2.2.2
   obtain ⟨W4, hW4⟩ : ∃ W4, W4 = W3.setCell ⟨w2.heap.size, 1, none⟩ (.int .i64 (wrap64 (1 - a1.f1))) := ⟨_, rfl⟩
   have hX4 : W4.heap[w2.heap.size]? = some (.cells #[.int .i64 a1.f0, .int .i64 (wrap64 (1 - a1.f1)), .string a1.f2] 23 (0, 0)) := by rw [hW4]; exact blk_put hX3 1 _ rfl
   have hS4 : EvS u v w W4 := by rw [hW4]; exact hS3.far (by omega)
   clear b00 b01 b02 g00 g01 g02 k0 k1 n0 n1 n2 hS hS2 hS3 hX3
   rw [← hW4]
   clear hW4
   obtain ⟨k0, k1⟩ := hS4.asks
   obtain ⟨⟨x0, x1, x2, c0, c1, c2⟩, f0, f1, f2, hlt⟩ := hS4.room
   obtain ⟨b00, b01, b02, g00, g01, g02⟩ := box3 hX4
   go_wp2
   refine bodyPost_ret (results_single rfl (.cell _ _ _ _ _ rfl (hS4.done _ _ _) hu rfl (by kernel_rfl) .nil)) rfl ?_
   exact HQ.out _ (hS4.put _ _ _).below
 ·
  have HA := Aside0.mk (PartW.bad hA ea)
  clear hA
  obtain ⟨Q, hQ⟩ : ∃ Q, Q = WoOut (bindW (a1, a2) fun x => if x = nullV then (x, 0) else (⟨x.f0, wrap64 (1 - x.f1), x.f2⟩, 0)) w := ⟨_, rfl⟩
  rw [← hQ]
  have HQ := Aside0.mk (show ∀ w', Below w.heap.size w w' → Q (.panicked (errP a2)) w' from fun w' h => by rw [hQ]; exact WoOut.pan (v := nullV) (by rw [bindW_bad _ _ _ ea]) ea h)
  clear hQ
  go_enter Tryd.func66, Tryd.ntmps66
  go_upto_region 1 with (fail)
  rw [← HW.out]
  go_wp2_with (go_at_call 62; refine (HA.out _ hS).mono ?_; rintro e w2 ⟨rfl, hb2⟩; have HB := Aside0.mk (hS.step hb2).below; clear hb2)
  exact ⟨rfl, HQ.out _ HB.out⟩
set_option maxHeartbeats 16000000 in
set_option maxRecDepth 100000 in
theorem op7_calls (u v : Value) (a : Wo) (p : Addr) (w : World) (hu0 : u.oneCell' = true) (hv0 : v.oneCell' = true) (hA : PartW u v p 0 a w) (hG : GlobE w) :
  Calls Tryd.prog 67 #[.agg #[u, v], .pointer (some p)] w (WoOut (bindW a fun x => (boolV (decide (x = nullV)), 0)) w) := by
 have hu := Tryd.underlying23
 obtain ⟨W, hW⟩ : ∃ W, W = (w.alloc (.cells #[u, v] 71)).alloc (.cells #[.int .i64 0, .int .i64 0, .string ⟨#[]⟩] 23) := ⟨_, rfl⟩
 have hS : EvS u v w W := by rw [hW]; exact EvS.new u v w
 have HW := Aside0.mk hW
 clear hW
 have HG := Aside0.mk hG
 clear hG
 obtain ⟨a1, a2⟩ := a
 have hC : W.cell? ⟨w.heap.size, 0, none⟩ = some u ∧ W.cell? ⟨w.heap.size, 1, none⟩ = some v ∧ W.cell? ⟨0, 0, none⟩ = some (.int .i64 0) ∧ W.cell? ⟨0, 1, none⟩ = some (.int .i64 0) ∧ W.cell? ⟨0, 2, none⟩ = some (.string ⟨#[]⟩) ∧ EvS u v w W := ⟨hS.asks.1, hS.asks.2, (HG.out.below hS.below).n0, (HG.out.below hS.below).n1, (HG.out.below hS.below).n2, hS⟩
 by_cases ea : a2 = 0
 ·subst ea
  have HA := Aside0.mk (PartW.ok hA)
  clear hA
  obtain ⟨n, hn⟩ : ∃ n : Int, (if eqv a1.f0 0 a1.f1 0 a1.f2 ⟨#[]⟩ = true then 1 else 0) = n := ⟨_, rfl⟩
  have HN := Aside0.mk hn
  clear hn
  obtain ⟨Q, hQ⟩ : ∃ Q, Q = WoOut (bindW (a1, 0) fun x => (boolV (decide (x = nullV)), 0)) w := ⟨_, rfl⟩
  rw [← hQ]
  have HQ := Aside0.mk (show ∀ w', Below w.heap.size w w' → Q (.returned (.agg #[.int .i64 2, .int .i64 n, .string ⟨#[]⟩])) w' from fun w' h => by rw [hQ]; exact WoOut.ret (v := (⟨2, n, ⟨#[]⟩⟩ : Va)) (by rw [bindW_ok, ← HN.out]; rfl) h)
  clear hQ
  go_enter Tryd.func67, Tryd.ntmps67
  go_upto_region 1 with (fail)
  rw [← HW.out]
  refine start_ (n := 7) (S := (fun w' => w'.cell? ⟨w.heap.size, 0, none⟩ = some u ∧ w'.cell? ⟨w.heap.size, 1, none⟩ = some v ∧ w'.cell? ⟨0, 0, none⟩ = some (.int .i64 0) ∧ w'.cell? ⟨0, 1, none⟩ = some (.int .i64 0) ∧ w'.cell? ⟨0, 2, none⟩ = some (.string ⟨#[]⟩) ∧ EvS u v w w')) (ds := [5, 6]) (fB 7 0) (by kernel_rfl) rfl rfl (⟨pw_cell_below (below_drew1 (Below.refl _ _)) hC.1, pw_cell_below (below_drew1 (Below.refl _ _)) hC.2.1, pw_cell_below (below_drew1 (Below.refl _ _)) hC.2.2.1, pw_cell_below (below_drew1 (Below.refl _ _)) hC.2.2.2.1, pw_cell_below (below_drew1 (Below.refl _ _)) hC.2.2.2.2.1, hC.2.2.2.2.2.step (below_drew1 (Below.refl _ _))⟩) (fun hHeld => ?_)
  refine pure_ (i := 1) (N := some 6) (v := ?_) (a' := ?_) (fB 7 2) rfl rfl (by kernel_rfl) (fun _ _ _ h => h) (Or.inl ⟨by rfl, by intro w'; go_simp; (first | with_reducible rfl | skip)⟩) (by simp only [Act.put, zA, zB, zC]; rfl) ?_
  refine take_ (i := 0) (N := some 5) (v := ?_) (a' := ?_) (fB 7 3) rfl rfl (by kernel_rfl) (fun _ _ _ h => h) (Or.inl ⟨by rfl, by rintro w' ⟨s0, s1, s2, s3, s4, s5⟩; go_simp; with_reducible rfl⟩) hHeld (by simp only [Act.put, zA, zB, zC]; rfl) ?_
  refine take_ (i := 3) (N := some 8) (v := ?_) (a' := ?_) (fB 7 11) rfl rfl (by kernel_rfl) (fun _ _ _ h => h) (Or.inl ⟨by rfl, by rintro w' ⟨s0, s1, s2, s3, s4, s5⟩; go_simp; with_reducible rfl⟩) hHeld (by simp only [Act.put, zA, zB, zC]; rfl) ?_
  refine one1_ (i := 2) (N := some 7) (fB 7 15) rfl rfl (by kernel_rfl) (by decide) (fun K hK => ?_)
  refine goes_ Tryd.func62 (by kernel_rfl) rfl #[.agg #[u, v], .pointer (some p), .int .i64 0] (by rfl) rfl rfl (by (try simp only [List.map_toArray, List.map_cons, List.map_nil]); first | done | rfl) ?_
  refine (HA.out _ (hHeld.2.2.2.2.2)).mono ?_
  rintro e w4 ⟨rfl, hb4⟩
  have hC4 : w4.cell? ⟨w.heap.size, 0, none⟩ = some u ∧ w4.cell? ⟨w.heap.size, 1, none⟩ = some v ∧ w4.cell? ⟨0, 0, none⟩ = some (.int .i64 0) ∧ w4.cell? ⟨0, 1, none⟩ = some (.int .i64 0) ∧ w4.cell? ⟨0, 2, none⟩ = some (.string ⟨#[]⟩) ∧ EvS u v w w4 := ⟨pw_cell_below hb4 hHeld.1, pw_cell_below hb4 hHeld.2.1, pw_cell_below hb4 hHeld.2.2.1, pw_cell_below hb4 hHeld.2.2.2.1, pw_cell_below hb4 hHeld.2.2.2.2.1, hHeld.2.2.2.2.2.step hb4⟩
  refine ⟨_, rfl, ?_⟩
  clear hHeld
  refine hK.out _ _ (hC4) (fun hHeld => ?_)
  clear hK K
  refine norm_ (a' := ?_) ?_ ?_
  rotate_left
  ·show Act.put _ (some 7) _ = _
   simp only [Act.put, zA, zB, zC]
   rfl
  refine pure_ (i := 4) (N := some 9) (v := ?_) (a' := ?_) (fB 7 31) rfl rfl (by kernel_rfl) (fun _ _ _ h => h) (Or.inl ⟨by rfl, by intro w'; go_simp; (first | with_reducible rfl | skip)⟩) (by simp only [Act.put, zA, zB, zC]; rfl) ?_
  refine last_ (i := 5) (N := some 10) (fB 7 63) rfl rfl (by kernel_rfl) (by decide) (fun K hK => ?_)
  refine goes_ Tryd.func68 (by kernel_rfl) rfl #[.bool (eqv a1.f0 0 a1.f1 0 a1.f2 ⟨#[]⟩)] (by rfl) rfl rfl (by (try simp only [List.map_toArray, List.map_cons, List.map_nil]); first | done | rfl) ?_
  refine (value_Bool.calls (eqv a1.f0 0 a1.f1 0 a1.f2 ⟨#[]⟩) 2 n ⟨#[]⟩ _ (by rw [← HN.out]; rfl)).mono ?_
  rintro e w5 ⟨rfl, hb5⟩
  have hS5 := EvS.step (hC4.2.2.2.2.2) hb5
  refine ⟨_, rfl, ?_⟩
  refine hK.out _ _ ?_
  clear hK K
  refine norm_ (a' := ?_) ?_ ?_
  rotate_left
  ·show Act.put _ (some 10) _ = _
   simp only [Act.put, zA, zB, zC]
   rfl
  refine last_ (i := 6) (N := none) (fB 7 127) rfl rfl (by kernel_rfl) (by decide) (fun K hK => ?_)
  obtain ⟨⟨x0, x1, x2, c0, c1, c2⟩, f0, f1, f2, hlt⟩ := hS5.room
  refine skip_ (w1 := ((w5.setCell ⟨w.heap.size + 1, 0, none⟩ (.int .i64 2)).setCell ⟨w.heap.size + 1, 1, none⟩ (.int .i64 n)).setCell ⟨w.heap.size + 1, 2, none⟩ (.string ⟨#[]⟩)) (by rfl) rfl ?_ ?_
  ·go_simp
  refine hK.out _ _ ?_
  clear hK K
  refine done_ (by kernel_rfl) ?_
  go_wp2
  refine bodyPost_ret (results_single rfl (.cell _ _ _ _ _ rfl (hS5.done _ _ _) hu rfl (by kernel_rfl) .nil)) rfl ?_
  exact HQ.out _ (hS5.put _ _ _).below
 ·
  have HA := Aside0.mk (PartW.bad hA ea)
  clear hA
  obtain ⟨Q, hQ⟩ : ∃ Q, Q = WoOut (bindW (a1, a2) fun x => (boolV (decide (x = nullV)), 0)) w := ⟨_, rfl⟩
  rw [← hQ]
  have HQ := Aside0.mk (show ∀ w', Below w.heap.size w w' → Q (.panicked (errP a2)) w' from fun w' h => by rw [hQ]; exact WoOut.pan (v := nullV) (by rw [bindW_bad _ _ _ ea]) ea h)
  clear hQ
  go_enter Tryd.func67, Tryd.ntmps67
  go_upto_region 1 with (fail)
  rw [← HW.out]
  refine start_ (n := 7) (S := (fun w' => w'.cell? ⟨w.heap.size, 0, none⟩ = some u ∧ w'.cell? ⟨w.heap.size, 1, none⟩ = some v ∧ w'.cell? ⟨0, 0, none⟩ = some (.int .i64 0) ∧ w'.cell? ⟨0, 1, none⟩ = some (.int .i64 0) ∧ w'.cell? ⟨0, 2, none⟩ = some (.string ⟨#[]⟩) ∧ EvS u v w w')) (ds := [5, 6]) (fB 7 0) (by kernel_rfl) rfl rfl (⟨pw_cell_below (below_drew1 (Below.refl _ _)) hC.1, pw_cell_below (below_drew1 (Below.refl _ _)) hC.2.1, pw_cell_below (below_drew1 (Below.refl _ _)) hC.2.2.1, pw_cell_below (below_drew1 (Below.refl _ _)) hC.2.2.2.1, pw_cell_below (below_drew1 (Below.refl _ _)) hC.2.2.2.2.1, hC.2.2.2.2.2.step (below_drew1 (Below.refl _ _))⟩) (fun hHeld => ?_)
  refine pure_ (i := 1) (N := some 6) (v := ?_) (a' := ?_) (fB 7 2) rfl rfl (by kernel_rfl) (fun _ _ _ h => h) (Or.inl ⟨by rfl, by intro w'; go_simp; (first | with_reducible rfl | skip)⟩) (by simp only [Act.put, zA, zB, zC]; rfl) ?_
  refine take_ (i := 0) (N := some 5) (v := ?_) (a' := ?_) (fB 7 3) rfl rfl (by kernel_rfl) (fun _ _ _ h => h) (Or.inl ⟨by rfl, by rintro w' ⟨s0, s1, s2, s3, s4, s5⟩; go_simp; with_reducible rfl⟩) hHeld (by simp only [Act.put, zA, zB, zC]; rfl) ?_
  refine take_ (i := 3) (N := some 8) (v := ?_) (a' := ?_) (fB 7 11) rfl rfl (by kernel_rfl) (fun _ _ _ h => h) (Or.inl ⟨by rfl, by rintro w' ⟨s0, s1, s2, s3, s4, s5⟩; go_simp; with_reducible rfl⟩) hHeld (by simp only [Act.put, zA, zB, zC]; rfl) ?_
  refine one1_ (i := 2) (N := some 7) (fB 7 15) rfl rfl (by kernel_rfl) (by decide) (fun K hK => ?_)
  refine goesP_ Tryd.func62 (by kernel_rfl) rfl #[.agg #[u, v], .pointer (some p), .int .i64 0] (by rfl) rfl (by (try simp only [List.map_toArray, List.map_cons, List.map_nil]); first | done | rfl) ?_
  refine (HA.out _ (hHeld.2.2.2.2.2)).mono ?_
  rintro e w4 ⟨rfl, hb4⟩
  refine ⟨_, rfl, ?_⟩
  exact ⟨rfl, HQ.out _ (EvS.step (hHeld.2.2.2.2.2) hb4).below⟩
set_option maxHeartbeats 16000000 in
set_option maxRecDepth 100000 in
theorem op8_calls (u v : Value) (a b c : Wo) (p : Addr) (w : World) (hu0 : u.oneCell' = true) (hv0 : v.oneCell' = true) (hA : PartW u v p 0 a w) (hB : PartW u v p 1 b w) (hC : PartW u v p 2 c w) :
  Calls Tryd.prog 69 #[.agg #[u, v], .pointer (some p)] w (WoOut (bindW a fun x => if x = boolV true then b else c) w) := by
 have hu := Tryd.underlying23
 obtain ⟨W, hW⟩ : ∃ W, W = (w.alloc (.cells #[u, v] 71)).alloc (.cells #[.int .i64 0, .int .i64 0, .string ⟨#[]⟩] 23) := ⟨_, rfl⟩
 have hS : EvS u v w W := by rw [hW]; exact EvS.new u v w
 have HW := Aside0.mk hW
 clear hW
 obtain ⟨a1, a2⟩ := a
 obtain ⟨k0, k1⟩ := hS.asks
 by_cases ea : a2 = 0
 ·subst ea
  have HA := Aside0.mk (PartW.ok hA)
  clear hA
  have et : eqv a1.f0 2 a1.f1 1 a1.f2 ⟨#[]⟩ = decide (a1 = boolV true) := rfl
  by_cases ht : a1 = boolV true
  ·rw [decide_eq_true ht] at et
   rw [show (bindW (a1, 0) fun x => if x = boolV true then b else c) = b from by rw [bindW_ok, if_pos ht]]
   clear ht
   obtain ⟨b1, b2⟩ := b
   by_cases eb : b2 = 0
   ·subst eb
    have HB := Aside0.mk (PartW.ok hB)
    clear hB hC
    obtain ⟨Q, hQ⟩ : ∃ Q, Q = WoOut (b1, 0) w := ⟨_, rfl⟩
    rw [← hQ]
    have HQ := Aside0.mk (show ∀ w', Below w.heap.size w w' → Q (.returned (.agg #[.int .i64 b1.f0, .int .i64 b1.f1, .string b1.f2])) w' from fun w' h => by rw [hQ]; exact WoOut.ret (v := b1) (by rfl) h)
    clear hQ
    go_enter Tryd.func69, Tryd.ntmps69
    go_upto_region 1 with (fail)
    rw [← HW.out]
    go_wp2_with (first
     | (go_at_call 62; refine (HA.out _ hS).mono ?_; rintro e w2 ⟨rfl, hb2⟩; have hS2 := hS.step hb2; obtain ⟨k0, k1⟩ := hS2.asks; obtain ⟨⟨x0, x1, x2, c0, c1, c2⟩, f0, f1, f2, hlt⟩ := hS2.room; clear hb2 HA)
     | (go_at_call 68; refine (value_Bool.calls true 2 1 ⟨#[]⟩ _ rfl).mono ?_; rintro e w3 ⟨rfl, hb3⟩; have hS3 := hS2.step hb3; clear k0 k1 x0 x1 x2 c0 c1 c2 f0 f1 f2 hlt hb3; obtain ⟨k0, k1⟩ := hS3.asks)
     | (go_at_call 62; refine (HB.out _ hS3).mono ?_; rintro e w4 ⟨rfl, hb2⟩; have hS4 := hS3.step hb2; obtain ⟨k0, k1⟩ := hS4.asks; obtain ⟨⟨x0, x1, x2, c0, c1, c2⟩, f0, f1, f2, hlt⟩ := hS4.room; clear hb2 HB))
    refine bodyPost_ret (results_single rfl (.cell _ _ _ _ _ rfl (hS4.done _ _ _) hu rfl (by kernel_rfl) .nil)) rfl ?_
    exact HQ.out _ (hS4.put _ _ _).below
   ·
    have HB := Aside0.mk (PartW.bad hB eb)
    clear hB hC
    obtain ⟨Q, hQ⟩ : ∃ Q, Q = WoOut (b1, b2) w := ⟨_, rfl⟩
    rw [← hQ]
    have HQ := Aside0.mk (show ∀ w', Below w.heap.size w w' → Q (.panicked (errP b2)) w' from fun w' h => by rw [hQ]; exact WoOut.pan (v := b1) (by rfl) eb h)
    clear hQ
    go_enter Tryd.func69, Tryd.ntmps69
    go_upto_region 1 with (fail)
    rw [← HW.out]
    go_wp2_with (first
     | (go_at_call 62; refine (HA.out _ hS).mono ?_; rintro e w2 ⟨rfl, hb2⟩; have hS2 := hS.step hb2; obtain ⟨k0, k1⟩ := hS2.asks; obtain ⟨⟨x0, x1, x2, c0, c1, c2⟩, f0, f1, f2, hlt⟩ := hS2.room; clear hb2 HA)
     | (go_at_call 68; refine (value_Bool.calls true 2 1 ⟨#[]⟩ _ rfl).mono ?_; rintro e w3 ⟨rfl, hb3⟩; have hS3 := hS2.step hb3; clear k0 k1 x0 x1 x2 c0 c1 c2 f0 f1 f2 hlt hb3; obtain ⟨k0, k1⟩ := hS3.asks)
     | (go_at_call 62; refine (HB.out _ hS3).mono ?_; rintro e w4 ⟨rfl, hb2⟩; have HB := Aside0.mk (hS3.step hb2).below; clear hb2))
    exact ⟨rfl, HQ.out _ HB.out⟩
  ·rw [decide_eq_false ht] at et
   rw [show (bindW (a1, 0) fun x => if x = boolV true then b else c) = c from by rw [bindW_ok, if_neg ht]]
   clear ht
   obtain ⟨c1, c2⟩ := c
   by_cases eb : c2 = 0
   ·subst eb
    have HC := Aside0.mk (PartW.ok hC)
    clear hB hC
    obtain ⟨Q, hQ⟩ : ∃ Q, Q = WoOut (c1, 0) w := ⟨_, rfl⟩
    rw [← hQ]
    have HQ := Aside0.mk (show ∀ w', Below w.heap.size w w' → Q (.returned (.agg #[.int .i64 c1.f0, .int .i64 c1.f1, .string c1.f2])) w' from fun w' h => by rw [hQ]; exact WoOut.ret (v := c1) (by rfl) h)
    clear hQ
    go_enter Tryd.func69, Tryd.ntmps69
    go_upto_region 1 with (fail)
    rw [← HW.out]
    go_wp2_with (first
     | (go_at_call 62; refine (HA.out _ hS).mono ?_; rintro e w2 ⟨rfl, hb2⟩; have hS2 := hS.step hb2; obtain ⟨k0, k1⟩ := hS2.asks; obtain ⟨⟨x0, x1, x2, c0, c1, c2⟩, f0, f1, f2, hlt⟩ := hS2.room; clear hb2 HA)
     | (go_at_call 68; refine (value_Bool.calls true 2 1 ⟨#[]⟩ _ rfl).mono ?_; rintro e w3 ⟨rfl, hb3⟩; have hS3 := hS2.step hb3; clear k0 k1 x0 x1 x2 c0 c1 c2 f0 f1 f2 hlt hb3; obtain ⟨k0, k1⟩ := hS3.asks)
     | (go_at_call 62; refine (HC.out _ hS3).mono ?_; rintro e w4 ⟨rfl, hb2⟩; have hS4 := hS3.step hb2; obtain ⟨k0, k1⟩ := hS4.asks; obtain ⟨⟨x0, x1, x2, c0, c1, c2⟩, f0, f1, f2, hlt⟩ := hS4.room; clear hb2 HC))
    refine bodyPost_ret (results_single rfl (.cell _ _ _ _ _ rfl (hS4.done _ _ _) hu rfl (by kernel_rfl) .nil)) rfl ?_
    exact HQ.out _ (hS4.put _ _ _).below
   ·
    have HC := Aside0.mk (PartW.bad hC eb)
    clear hB hC
    obtain ⟨Q, hQ⟩ : ∃ Q, Q = WoOut (c1, c2) w := ⟨_, rfl⟩
    rw [← hQ]
    have HQ := Aside0.mk (show ∀ w', Below w.heap.size w w' → Q (.panicked (errP c2)) w' from fun w' h => by rw [hQ]; exact WoOut.pan (v := c1) (by rfl) eb h)
    clear hQ
    go_enter Tryd.func69, Tryd.ntmps69
    go_upto_region 1 with (fail)
    rw [← HW.out]
    go_wp2_with (first
     | (go_at_call 62; refine (HA.out _ hS).mono ?_; rintro e w2 ⟨rfl, hb2⟩; have hS2 := hS.step hb2; obtain ⟨k0, k1⟩ := hS2.asks; obtain ⟨⟨x0, x1, x2, c0, c1, c2⟩, f0, f1, f2, hlt⟩ := hS2.room; clear hb2 HA)
     | (go_at_call 68; refine (value_Bool.calls true 2 1 ⟨#[]⟩ _ rfl).mono ?_; rintro e w3 ⟨rfl, hb3⟩; have hS3 := hS2.step hb3; clear k0 k1 x0 x1 x2 c0 c1 c2 f0 f1 f2 hlt hb3; obtain ⟨k0, k1⟩ := hS3.asks)
     | (go_at_call 62; refine (HC.out _ hS3).mono ?_; rintro e w4 ⟨rfl, hb2⟩; have HB := Aside0.mk (hS3.step hb2).below; clear hb2))
    exact ⟨rfl, HQ.out _ HB.out⟩
 ·
  have HA := Aside0.mk (PartW.bad hA ea)
  clear hA hB hC
  obtain ⟨Q, hQ⟩ : ∃ Q, Q = WoOut (bindW (a1, a2) fun x => if x = boolV true then b else c) w := ⟨_, rfl⟩
  rw [← hQ]
  have HQ := Aside0.mk (show ∀ w', Below w.heap.size w w' → Q (.panicked (errP a2)) w' from fun w' h => by rw [hQ]; exact WoOut.pan (v := nullV) (by rw [bindW_bad _ _ _ ea]) ea h)
  clear hQ
  go_enter Tryd.func69, Tryd.ntmps69
  go_upto_region 1 with (fail)
  rw [← HW.out]
  go_wp2_with (go_at_call 62; refine (HA.out _ hS).mono ?_; rintro e w2 ⟨rfl, hb2⟩; have HB := Aside0.mk (hS.step hb2).below; clear hb2)
  exact ⟨rfl, HQ.out _ HB.out⟩
set_option maxHeartbeats 16000000 in
set_option maxRecDepth 100000 in
theorem op9_calls (u v : Value) (a b : Wo) (p : Addr) (w : World) (hu0 : u.oneCell' = true) (hv0 : v.oneCell' = true) (hA : PartW u v p 0 a w) (hB : PartW u v p 1 b w) (hG : GlobE w) :
  Calls Tryd.prog 70 #[.agg #[u, v], .pointer (some p)] w (WoOut (bindW a fun x => if x = nullV then b else (x, 0)) w) := by
 have hu := Tryd.underlying23
 obtain ⟨W, hW⟩ : ∃ W, W = (w.alloc (.cells #[u, v] 71)).alloc (.cells #[.int .i64 0, .int .i64 0, .string ⟨#[]⟩] 23) := ⟨_, rfl⟩
 have hS : EvS u v w W := by rw [hW]; exact EvS.new u v w
 have HW := Aside0.mk hW
 clear hW
 have HG := Aside0.mk hG
 clear hG
 obtain ⟨a1, a2⟩ := a
 obtain ⟨k0, k1⟩ := hS.asks
 by_cases ea : a2 = 0
 ·subst ea
  have HA := Aside0.mk (PartW.ok hA)
  clear hA
  have en := eqv_null a1
  by_cases hn : a1 = nullV
  ·rw [decide_eq_true hn] at en
   rw [show (bindW (a1, 0) fun x => if x = nullV then b else (x, 0)) = b from by rw [bindW_ok, if_pos hn]]
   clear hn
   obtain ⟨b1, b2⟩ := b
   by_cases eb : b2 = 0
   ·subst eb
    have HB := Aside0.mk (PartW.ok hB)
    clear hB
    obtain ⟨Q, hQ⟩ : ∃ Q, Q = WoOut (b1, 0) w := ⟨_, rfl⟩
    rw [← hQ]
    have HQ := Aside0.mk (show ∀ w', Below w.heap.size w w' → Q (.returned (.agg #[.int .i64 b1.f0, .int .i64 b1.f1, .string b1.f2])) w' from fun w' h => by rw [hQ]; exact WoOut.ret (v := b1) (by rfl) h)
    clear hQ
    go_enter Tryd.func70, Tryd.ntmps70
    go_upto_region 1 with (fail)
    rw [← HW.out]
    go_upto_region 2 with (go_at_call 62; refine (HA.out _ hS).mono ?_; rintro e w2 ⟨rfl, hb2⟩; have hS2 := hS.step hb2; clear hb2)
    obtain ⟨W3, hW3⟩ : ∃ W3, W3 = w2.alloc (.cells #[.int .i64 a1.f0, .int .i64 a1.f1, .string a1.f2] 23) := ⟨_, rfl⟩
    have hS3 : EvS u v w W3 := by rw [hW3]; exact hS2.step (below_alloc (Below.refl _ _) _)
    have hX3 : W3.heap[w2.heap.size]? = some (.cells #[.int .i64 a1.f0, .int .i64 a1.f1, .string a1.f2] 23 (0, 0)) := by rw [hW3]; exact blk_new w2 _
    have hBw3 : Below w2.heap.size w2 W3 := by rw [hW3]; exact below_alloc (Below.refl _ _) _
    rw [← hW3]
    clear hW3
    obtain ⟨k0, k1⟩ := hS3.asks
    obtain ⟨⟨x0, x1, x2, c0, c1, c2⟩, f0, f1, f2, hlt⟩ := hS3.room
    obtain ⟨b00, b01, b02, g00, g01, g02⟩ := box3 hX3
    have n0 := (HG.out.below hS3.below).n0
    have n1 := (HG.out.below hS3.below).n1
    have n2 := (HG.out.below hS3.below).n2
    go_wp2_with (go_at_call 62; refine (HB.out _ hS3).mono ?_; rintro e w4 ⟨rfl, hb2⟩; have hS4 := hS3.step hb2; obtain ⟨k0, k1⟩ := hS4.asks; obtain ⟨⟨x0, x1, x2, c0, c1, c2⟩, f0, f1, f2, hlt⟩ := hS4.room; clear hb2 HB)
    refine bodyPost_ret (results_single rfl (.cell _ _ _ _ _ rfl (hS4.done _ _ _) hu rfl (by kernel_rfl) .nil)) rfl ?_
    exact HQ.out _ (hS4.put _ _ _).below
   ·
    have HB := Aside0.mk (PartW.bad hB eb)
    clear hB
    obtain ⟨Q, hQ⟩ : ∃ Q, Q = WoOut (b1, b2) w := ⟨_, rfl⟩
    rw [← hQ]
    have HQ := Aside0.mk (show ∀ w', Below w.heap.size w w' → Q (.panicked (errP b2)) w' from fun w' h => by rw [hQ]; exact WoOut.pan (v := b1) (by rfl) eb h)
    clear hQ
    go_enter Tryd.func70, Tryd.ntmps70
    go_upto_region 1 with (fail)
    rw [← HW.out]
    go_upto_region 2 with (go_at_call 62; refine (HA.out _ hS).mono ?_; rintro e w2 ⟨rfl, hb2⟩; have hS2 := hS.step hb2; clear hb2)
    obtain ⟨W3, hW3⟩ : ∃ W3, W3 = w2.alloc (.cells #[.int .i64 a1.f0, .int .i64 a1.f1, .string a1.f2] 23) := ⟨_, rfl⟩
    have hS3 : EvS u v w W3 := by rw [hW3]; exact hS2.step (below_alloc (Below.refl _ _) _)
    have hX3 : W3.heap[w2.heap.size]? = some (.cells #[.int .i64 a1.f0, .int .i64 a1.f1, .string a1.f2] 23 (0, 0)) := by rw [hW3]; exact blk_new w2 _
    have hBw3 : Below w2.heap.size w2 W3 := by rw [hW3]; exact below_alloc (Below.refl _ _) _
    rw [← hW3]
    clear hW3
    obtain ⟨k0, k1⟩ := hS3.asks
    obtain ⟨⟨x0, x1, x2, c0, c1, c2⟩, f0, f1, f2, hlt⟩ := hS3.room
    obtain ⟨b00, b01, b02, g00, g01, g02⟩ := box3 hX3
    have n0 := (HG.out.below hS3.below).n0
    have n1 := (HG.out.below hS3.below).n1
    have n2 := (HG.out.below hS3.below).n2
    go_wp2_with (go_at_call 62; refine (HB.out _ hS3).mono ?_; rintro e w4 ⟨rfl, hb2⟩; have HB := Aside0.mk (hS3.step hb2).below; clear hb2)
    exact ⟨rfl, HQ.out _ HB.out⟩
  ·rw [decide_eq_false hn] at en
   clear hB
   obtain ⟨Q, hQ⟩ : ∃ Q, Q = WoOut (bindW (a1, 0) fun x => if x = nullV then b else (x, 0)) w := ⟨_, rfl⟩
   rw [← hQ]
   have HQ := Aside0.mk (show ∀ w', Below w.heap.size w w' → Q (.returned (.agg #[.int .i64 a1.f0, .int .i64 a1.f1, .string a1.f2])) w' from fun w' h => by rw [hQ]; exact WoOut.ret (v := a1) (by rw [bindW_ok, if_neg hn]) h)
   clear hQ
   clear hn
   go_enter Tryd.func70, Tryd.ntmps70
   go_upto_region 1 with (fail)
   rw [← HW.out]
   go_upto_region 2 with (go_at_call 62; refine (HA.out _ hS).mono ?_; rintro e w2 ⟨rfl, hb2⟩; have hS2 := hS.step hb2; clear hb2)
   obtain ⟨W3, hW3⟩ : ∃ W3, W3 = w2.alloc (.cells #[.int .i64 a1.f0, .int .i64 a1.f1, .string a1.f2] 23) := ⟨_, rfl⟩
   have hS3 : EvS u v w W3 := by rw [hW3]; exact hS2.step (below_alloc (Below.refl _ _) _)
   have hX3 : W3.heap[w2.heap.size]? = some (.cells #[.int .i64 a1.f0, .int .i64 a1.f1, .string a1.f2] 23 (0, 0)) := by rw [hW3]; exact blk_new w2 _
   have hBw3 : Below w2.heap.size w2 W3 := by rw [hW3]; exact below_alloc (Below.refl _ _) _
   rw [← hW3]
   clear hW3
   obtain ⟨k0, k1⟩ := hS3.asks
   obtain ⟨⟨x0, x1, x2, c0, c1, c2⟩, f0, f1, f2, hlt⟩ := hS3.room
   obtain ⟨b00, b01, b02, g00, g01, g02⟩ := box3 hX3
   have n0 := (HG.out.below hS3.below).n0
   have n1 := (HG.out.below hS3.below).n1
   have n2 := (HG.out.below hS3.below).n2
   go_wp2
   refine bodyPost_ret (results_single rfl (.cell _ _ _ _ _ rfl (hS3.done _ _ _) hu rfl (by kernel_rfl) .nil)) rfl ?_
   exact HQ.out _ (hS3.put _ _ _).below
 ·
  have HA := Aside0.mk (PartW.bad hA ea)
  clear hA hB
  obtain ⟨Q, hQ⟩ : ∃ Q, Q = WoOut (bindW (a1, a2) fun x => if x = nullV then b else (x, 0)) w := ⟨_, rfl⟩
  rw [← hQ]
  have HQ := Aside0.mk (show ∀ w', Below w.heap.size w w' → Q (.panicked (errP a2)) w' from fun w' h => by rw [hQ]; exact WoOut.pan (v := nullV) (by rw [bindW_bad _ _ _ ea]) ea h)
  clear hQ
  go_enter Tryd.func70, Tryd.ntmps70
  go_upto_region 1 with (fail)
  rw [← HW.out]
  go_wp2_with (go_at_call 62; refine (HA.out _ hS).mono ?_; rintro e w2 ⟨rfl, hb2⟩; have HB := Aside0.mk (hS.step hb2).below; clear hb2)
  exact ⟨rfl, HQ.out _ HB.out⟩
set_option maxHeartbeats 16000000 in
set_option maxRecDepth 100000 in
theorem op10_calls (u v : Value) (a : Wo) (p : Addr) (w : World) (hu0 : u.oneCell' = true) (hv0 : v.oneCell' = true) (hA : PartW u v p 0 a w) (hG : GlobE w) :
  Calls Tryd.prog 71 #[.agg #[u, v], .pointer (some p)] w (WoOut (bindW a fun x => if x = nullV then (nullV, 0) else (intV x.f2.size, 0)) w) := by
 have hu := Tryd.underlying23
 obtain ⟨W, hW⟩ : ∃ W, W = (w.alloc (.cells #[u, v] 71)).alloc (.cells #[.int .i64 0, .int .i64 0, .string ⟨#[]⟩] 23) := ⟨_, rfl⟩
 have hS : EvS u v w W := by rw [hW]; exact EvS.new u v w
 have HW := Aside0.mk hW
 clear hW
 have HG := Aside0.mk hG
 clear hG
 obtain ⟨a1, a2⟩ := a
 obtain ⟨k0, k1⟩ := hS.asks
 by_cases ea : a2 = 0
 ·subst ea
  have HA := Aside0.mk (PartW.ok hA)
  clear hA
  have en := eqv_null a1
  by_cases hn : a1 = nullV
  ·rw [decide_eq_true hn] at en
   obtain ⟨Q, hQ⟩ : ∃ Q, Q = WoOut (bindW (a1, 0) fun x => if x = nullV then (nullV, 0) else (intV x.f2.size, 0)) w := ⟨_, rfl⟩
   rw [← hQ]
   have HQ := Aside0.mk (show ∀ w', Below w.heap.size w w' → Q (.returned (.agg #[.int .i64 0, .int .i64 0, .string ⟨#[]⟩])) w' from fun w' h => by rw [hQ]; exact WoOut.ret (v := nullV) (by rw [bindW_ok, if_pos hn]) h)
   clear hQ
   clear hn
   go_enter Tryd.func71, Tryd.ntmps71
   go_upto_region 1 with (fail)
   rw [← HW.out]
   go_upto_region 2 with (go_at_call 62; refine (HA.out _ hS).mono ?_; rintro e w2 ⟨rfl, hb2⟩; have hS2 := hS.step hb2; clear hb2)
   obtain ⟨W3, hW3⟩ : ∃ W3, W3 = w2.alloc (.cells #[.int .i64 a1.f0, .int .i64 a1.f1, .string a1.f2] 23) := ⟨_, rfl⟩
   have hS3 : EvS u v w W3 := by rw [hW3]; exact hS2.step (below_alloc (Below.refl _ _) _)
   have hX3 : W3.heap[w2.heap.size]? = some (.cells #[.int .i64 a1.f0, .int .i64 a1.f1, .string a1.f2] 23 (0, 0)) := by rw [hW3]; exact blk_new w2 _
   have hBw3 : Below w2.heap.size w2 W3 := by rw [hW3]; exact below_alloc (Below.refl _ _) _
   rw [← hW3]
   clear hW3
   obtain ⟨k0, k1⟩ := hS3.asks
   obtain ⟨⟨x0, x1, x2, c0, c1, c2⟩, f0, f1, f2, hlt⟩ := hS3.room
   obtain ⟨b00, b01, b02, g00, g01, g02⟩ := box3 hX3
   have n0 := (HG.out.below hS3.below).n0
   have n1 := (HG.out.below hS3.below).n1
   have n2 := (HG.out.below hS3.below).n2
   go_wp2
   refine bodyPost_ret (results_single rfl (.cell _ _ _ _ _ rfl (hS3.done _ _ _) hu rfl (by kernel_rfl) .nil)) rfl ?_
   exact HQ.out _ (hS3.put _ _ _).below
  ·rw [decide_eq_false hn] at en
   obtain ⟨Q, hQ⟩ : ∃ Q, Q = WoOut (bindW (a1, 0) fun x => if x = nullV then (nullV, 0) else (intV x.f2.size, 0)) w := ⟨_, rfl⟩
   rw [← hQ]
   have HQ := Aside0.mk (show ∀ w', Below w.heap.size w w' → Q (.returned (.agg #[.int .i64 1, .int .i64 a1.f2.size, .string ⟨#[]⟩])) w' from fun w' h => by rw [hQ]; exact WoOut.ret (v := intV a1.f2.size) (by rw [bindW_ok, if_neg hn]) h)
   clear hQ
   clear hn
   go_enter Tryd.func71, Tryd.ntmps71
   go_upto_region 1 with (fail)
   rw [← HW.out]
   go_upto_region 2 with (go_at_call 62; refine (HA.out _ hS).mono ?_; rintro e w2 ⟨rfl, hb2⟩; have hS2 := hS.step hb2; clear hb2)
   obtain ⟨W3, hW3⟩ : ∃ W3, W3 = w2.alloc (.cells #[.int .i64 a1.f0, .int .i64 a1.f1, .string a1.f2] 23) := ⟨_, rfl⟩
   have hS3 : EvS u v w W3 := by rw [hW3]; exact hS2.step (below_alloc (Below.refl _ _) _)
   have hX3 : W3.heap[w2.heap.size]? = some (.cells #[.int .i64 a1.f0, .int .i64 a1.f1, .string a1.f2] 23 (0, 0)) := by rw [hW3]; exact blk_new w2 _
   have hBw3 : Below w2.heap.size w2 W3 := by rw [hW3]; exact below_alloc (Below.refl _ _) _
   rw [← hW3]
   clear hW3
   obtain ⟨k0, k1⟩ := hS3.asks
   obtain ⟨⟨x0, x1, x2, c0, c1, c2⟩, f0, f1, f2, hlt⟩ := hS3.room
   obtain ⟨b00, b01, b02, g00, g01, g02⟩ := box3 hX3
   have n0 := (HG.out.below hS3.below).n0
   have n1 := (HG.out.below hS3.below).n1
   have n2 := (HG.out.below hS3.below).n2
   go_wp2_with (go_at_call 61; refine (value_Int.calls a1.f2.size 1 a1.f2.size ⟨#[]⟩ _ rfl).mono ?_; rintro e w4 ⟨rfl, hb4⟩; have hS4 := hS3.step hb4; clear k0 k1 x0 x1 x2 c0 c1 c2 f0 f1 f2 hlt hb4; obtain ⟨⟨x0, x1, x2, c0, c1, c2⟩, f0, f1, f2, hlt⟩ := hS4.room)
   refine bodyPost_ret (results_single rfl (.cell _ _ _ _ _ rfl (hS4.done _ _ _) hu rfl (by kernel_rfl) .nil)) rfl ?_
   exact HQ.out _ (hS4.put _ _ _).below
 ·
  have HA := Aside0.mk (PartW.bad hA ea)
  clear hA
  obtain ⟨Q, hQ⟩ : ∃ Q, Q = WoOut (bindW (a1, a2) fun x => if x = nullV then (nullV, 0) else (intV x.f2.size, 0)) w := ⟨_, rfl⟩
  rw [← hQ]
  have HQ := Aside0.mk (show ∀ w', Below w.heap.size w w' → Q (.panicked (errP a2)) w' from fun w' h => by rw [hQ]; exact WoOut.pan (v := nullV) (by rw [bindW_bad _ _ _ ea]) ea h)
  clear hQ
  go_enter Tryd.func71, Tryd.ntmps71
  go_upto_region 1 with (fail)
  rw [← HW.out]
  go_wp2_with (go_at_call 62; refine (HA.out _ hS).mono ?_; rintro e w2 ⟨rfl, hb2⟩; have HB := Aside0.mk (hS.step hb2).below; clear hb2)
  exact ⟨rfl, HQ.out _ HB.out⟩
set_option maxHeartbeats 16000000 in
set_option maxRecDepth 100000 in
theorem cmp_op_calls (u v : Value) (op : Int) (a b : Wo) (p : Addr) (w : World) (hu0 : u.oneCell' = true) (hv0 : v.oneCell' = true) (hA : PartW u v p 0 a w) (hB : PartW u v p 1 b w) (hG : GlobE w) (hop : op = 10 ∨ op = 11 ∨ op = 12 ∨ op = 13) (m0 : w.cell? p = some (.int .i64 op)) :
  Calls Tryd.prog 64 #[.agg #[u, v], .pointer (some p)] w (WoOut (bindW a fun x => bindW b fun y => if x = nullV ∨ y = nullV then (nullV, 0) else (boolV (relS op (cmpV x y)), 0)) w) := by
 have hu := Tryd.underlying23
 obtain ⟨W, hW⟩ : ∃ W, W = (w.alloc (.cells #[u, v] 71)).alloc (.cells #[.int .i64 0, .int .i64 0, .string ⟨#[]⟩] 23) := ⟨_, rfl⟩
 have hS : EvS u v w W := by rw [hW]; exact EvS.new u v w
 have HW := Aside0.mk hW
 clear hW
 have HG := Aside0.mk hG
 have HOp := Aside0.mk hop
 have M0 := Aside0.mk m0
 clear hG hop m0
 obtain ⟨a1, a2⟩ := a
 obtain ⟨b1, b2⟩ := b
 obtain ⟨k0, k1⟩ := hS.asks
 by_cases ea : a2 = 0
 ·subst ea
  have HA := Aside0.mk (PartW.ok hA)
  clear hA
  by_cases eb : b2 = 0
  ·subst eb
   have HB := Aside0.mk (PartW.ok hB)
   clear hB
   have ex := eqv_null a1
   have ey := eqv_null b1
   by_cases hx : a1 = nullV
   ·rw [decide_eq_true hx] at ex
    obtain ⟨Q, hQ⟩ : ∃ Q, Q = WoOut (bindW (a1, 0) fun x => bindW (b1, 0) fun y => if x = nullV ∨ y = nullV then (nullV, 0) else (boolV (relS op (cmpV x y)), 0)) w := ⟨_, rfl⟩
    rw [← hQ]
    have HQ := Aside0.mk (show ∀ w', Below w.heap.size w w' → Q (.returned (.agg #[.int .i64 0, .int .i64 0, .string ⟨#[]⟩])) w' from fun w' h => by rw [hQ]; exact WoOut.ret (v := nullV) (by rw [bindW_ok, bindW_ok, if_pos (.inl hx)]) h)
    clear hQ
    clear hx ey
    go_enter Tryd.func64, Tryd.ntmps64
    go_upto_region 1 with (fail)
    rw [← HW.out]
    go_upto_region 2 with (go_at_call 62; refine (HA.out _ hS).mono ?_; rintro e w2 ⟨rfl, hb2⟩; have hS2 := hS.step hb2; clear hb2 HA)
    obtain ⟨W3, hW3⟩ : ∃ W3, W3 = w2.alloc (.cells #[.int .i64 a1.f0, .int .i64 a1.f1, .string a1.f2] 23) := ⟨_, rfl⟩
    have hS3 : EvS u v w W3 := by rw [hW3]; exact hS2.step (below_alloc (Below.refl _ _) _)
    have hX3 : W3.heap[w2.heap.size]? = some (.cells #[.int .i64 a1.f0, .int .i64 a1.f1, .string a1.f2] 23 (0, 0)) := by rw [hW3]; exact blk_new w2 _
    have hBw3 : Below w2.heap.size w2 W3 := by rw [hW3]; exact below_alloc (Below.refl _ _) _
    rw [← hW3]
    clear hW3
    clear k0 k1
    obtain ⟨k0, k1⟩ := hS3.asks
    go_upto_region 3 with (go_at_call 62; refine (HB.out _ hS3).mono ?_; rintro e w4 ⟨rfl, hb2⟩; have hS4 := hS3.step hb2; have hX4 := blk_below hX3 hb2; clear hb2 HB)
    obtain ⟨W5, hW5⟩ : ∃ W5, W5 = w4.alloc (.cells #[.int .i64 b1.f0, .int .i64 b1.f1, .string b1.f2] 23) := ⟨_, rfl⟩
    have hS5 : EvS u v w W5 := by rw [hW5]; exact hS4.step (below_alloc (Below.refl _ _) _)
    have hY5 : W5.heap[w4.heap.size]? = some (.cells #[.int .i64 b1.f0, .int .i64 b1.f1, .string b1.f2] 23 (0, 0)) := by rw [hW5]; exact blk_new w4 _
    have hBw5 : Below w4.heap.size w4 W5 := by rw [hW5]; exact below_alloc (Below.refl _ _) _
    rw [← hW5]
    clear hW5
    have hX5 : W5.heap[w2.heap.size]? = some (.cells #[.int .i64 a1.f0, .int .i64 a1.f1, .string a1.f2] 23 (0, 0)) := blk_below hX4 hBw5
    clear k0 k1 hX3 hX4 hS hS2 hS3 hS4
    obtain ⟨k0, k1⟩ := hS5.asks
    obtain ⟨⟨x0, x1, x2, c0, c1, c2⟩, f0, f1, f2, hlt⟩ := hS5.room
    obtain ⟨b00, b01, b02, g00, g01, g02⟩ := box3 hX5
    obtain ⟨b10, b11, b12, g10, g11, g12⟩ := box3 hY5
    have n0 := (HG.out.below hS5.below).n0
    have n1 := (HG.out.below hS5.below).n1
    have n2 := (HG.out.below hS5.below).n2
    go_wp2
    refine bodyPost_ret (results_single rfl (.cell _ _ _ _ _ rfl (hS5.done _ _ _) hu rfl (by kernel_rfl) .nil)) rfl ?_
    exact HQ.out _ (hS5.put _ _ _).below
   rw [decide_eq_false hx] at ex
   by_cases hy : b1 = nullV
   ·rw [decide_eq_true hy] at ey
    obtain ⟨Q, hQ⟩ : ∃ Q, Q = WoOut (bindW (a1, 0) fun x => bindW (b1, 0) fun y => if x = nullV ∨ y = nullV then (nullV, 0) else (boolV (relS op (cmpV x y)), 0)) w := ⟨_, rfl⟩
    rw [← hQ]
    have HQ := Aside0.mk (show ∀ w', Below w.heap.size w w' → Q (.returned (.agg #[.int .i64 0, .int .i64 0, .string ⟨#[]⟩])) w' from fun w' h => by rw [hQ]; exact WoOut.ret (v := nullV) (by rw [bindW_ok, bindW_ok, if_pos (.inr hy)]) h)
    clear hQ
    clear hx hy
    go_enter Tryd.func64, Tryd.ntmps64
    go_upto_region 1 with (fail)
    rw [← HW.out]
    go_upto_region 2 with (go_at_call 62; refine (HA.out _ hS).mono ?_; rintro e w2 ⟨rfl, hb2⟩; have hS2 := hS.step hb2; clear hb2 HA)
    obtain ⟨W3, hW3⟩ : ∃ W3, W3 = w2.alloc (.cells #[.int .i64 a1.f0, .int .i64 a1.f1, .string a1.f2] 23) := ⟨_, rfl⟩
    have hS3 : EvS u v w W3 := by rw [hW3]; exact hS2.step (below_alloc (Below.refl _ _) _)
    have hX3 : W3.heap[w2.heap.size]? = some (.cells #[.int .i64 a1.f0, .int .i64 a1.f1, .string a1.f2] 23 (0, 0)) := by rw [hW3]; exact blk_new w2 _
    have hBw3 : Below w2.heap.size w2 W3 := by rw [hW3]; exact below_alloc (Below.refl _ _) _
    rw [← hW3]
    clear hW3
    clear k0 k1
    obtain ⟨k0, k1⟩ := hS3.asks
    go_upto_region 3 with (go_at_call 62; refine (HB.out _ hS3).mono ?_; rintro e w4 ⟨rfl, hb2⟩; have hS4 := hS3.step hb2; have hX4 := blk_below hX3 hb2; clear hb2 HB)
    obtain ⟨W5, hW5⟩ : ∃ W5, W5 = w4.alloc (.cells #[.int .i64 b1.f0, .int .i64 b1.f1, .string b1.f2] 23) := ⟨_, rfl⟩
    have hS5 : EvS u v w W5 := by rw [hW5]; exact hS4.step (below_alloc (Below.refl _ _) _)
    have hY5 : W5.heap[w4.heap.size]? = some (.cells #[.int .i64 b1.f0, .int .i64 b1.f1, .string b1.f2] 23 (0, 0)) := by rw [hW5]; exact blk_new w4 _
    have hBw5 : Below w4.heap.size w4 W5 := by rw [hW5]; exact below_alloc (Below.refl _ _) _
    rw [← hW5]
    clear hW5
    have hX5 : W5.heap[w2.heap.size]? = some (.cells #[.int .i64 a1.f0, .int .i64 a1.f1, .string a1.f2] 23 (0, 0)) := blk_below hX4 hBw5
    clear k0 k1 hX3 hX4 hS hS2 hS3 hS4
    obtain ⟨k0, k1⟩ := hS5.asks
    obtain ⟨⟨x0, x1, x2, c0, c1, c2⟩, f0, f1, f2, hlt⟩ := hS5.room
    obtain ⟨b00, b01, b02, g00, g01, g02⟩ := box3 hX5
    obtain ⟨b10, b11, b12, g10, g11, g12⟩ := box3 hY5
    have n0 := (HG.out.below hS5.below).n0
    have n1 := (HG.out.below hS5.below).n1
    have n2 := (HG.out.below hS5.below).n2
    go_wp2
    refine bodyPost_ret (results_single rfl (.cell _ _ _ _ _ rfl (hS5.done _ _ _) hu rfl (by kernel_rfl) .nil)) rfl ?_
    exact HQ.out _ (hS5.put _ _ _).below
   rw [decide_eq_false hy] at ey
   have hcmp := fun W => cmpC a1 b1 W
   have hcin := cmpV_in a1 b1
   obtain ⟨c, hc⟩ : ∃ c, cmpV a1 b1 = c := ⟨_, rfl⟩
   rw [hc] at hcin
   simp only [hc] at hcmp
   obtain ⟨Q, hQ⟩ : ∃ Q, Q = WoOut (bindW (a1, 0) fun x => bindW (b1, 0) fun y => if x = nullV ∨ y = nullV then (nullV, 0) else (boolV (relS op (cmpV x y)), 0)) w := ⟨_, rfl⟩
   rw [← hQ]
   have HQ := Aside0.mk (show ∀ w', Below w.heap.size w w' → Q (.returned (.agg #[.int .i64 (boolV (relS op c)).f0, .int .i64 (boolV (relS op c)).f1, .string (boolV (relS op c)).f2])) w' from fun w' h => by rw [hQ]; exact WoOut.ret (v := boolV (relS op c)) (by rw [bindW_ok, bindW_ok, if_neg (fun h => h.elim hx hy), hc]) h)
   clear hQ
   have HCin := Aside0.mk hcin
   clear hx hy hc hcin
   go_enter Tryd.func64, Tryd.ntmps64
   go_upto_region 1 with (fail)
   rw [← HW.out]
   go_upto_region 2 with (go_at_call 62; refine (HA.out _ hS).mono ?_; rintro e w2 ⟨rfl, hb2⟩; have hS2 := hS.step hb2; clear hb2 HA)
   obtain ⟨W3, hW3⟩ : ∃ W3, W3 = w2.alloc (.cells #[.int .i64 a1.f0, .int .i64 a1.f1, .string a1.f2] 23) := ⟨_, rfl⟩
   have hS3 : EvS u v w W3 := by rw [hW3]; exact hS2.step (below_alloc (Below.refl _ _) _)
   have hX3 : W3.heap[w2.heap.size]? = some (.cells #[.int .i64 a1.f0, .int .i64 a1.f1, .string a1.f2] 23 (0, 0)) := by rw [hW3]; exact blk_new w2 _
   have hBw3 : Below w2.heap.size w2 W3 := by rw [hW3]; exact below_alloc (Below.refl _ _) _
   rw [← hW3]
   clear hW3
   clear k0 k1
   obtain ⟨k0, k1⟩ := hS3.asks
   go_upto_region 3 with (go_at_call 62; refine (HB.out _ hS3).mono ?_; rintro e w4 ⟨rfl, hb2⟩; have hS4 := hS3.step hb2; have hX4 := blk_below hX3 hb2; clear hb2 HB)
   obtain ⟨W5, hW5⟩ : ∃ W5, W5 = w4.alloc (.cells #[.int .i64 b1.f0, .int .i64 b1.f1, .string b1.f2] 23) := ⟨_, rfl⟩
   have hS5 : EvS u v w W5 := by rw [hW5]; exact hS4.step (below_alloc (Below.refl _ _) _)
   have hY5 : W5.heap[w4.heap.size]? = some (.cells #[.int .i64 b1.f0, .int .i64 b1.f1, .string b1.f2] 23 (0, 0)) := by rw [hW5]; exact blk_new w4 _
   have hBw5 : Below w4.heap.size w4 W5 := by rw [hW5]; exact below_alloc (Below.refl _ _) _
   rw [← hW5]
   clear hW5
   have hX5 : W5.heap[w2.heap.size]? = some (.cells #[.int .i64 a1.f0, .int .i64 a1.f1, .string a1.f2] 23 (0, 0)) := blk_below hX4 hBw5
   clear k0 k1 hX3 hX4 hS hS2 hS3 hS4
   obtain ⟨k0, k1⟩ := hS5.asks
   obtain ⟨⟨x0, x1, x2, c0, c1, c2⟩, f0, f1, f2, hlt⟩ := hS5.room
   obtain ⟨b00, b01, b02, g00, g01, g02⟩ := box3 hX5
   obtain ⟨b10, b11, b12, g10, g11, g12⟩ := box3 hY5
   have n0 := (HG.out.below hS5.below).n0
   have n1 := (HG.out.below hS5.below).n1
   have n2 := (HG.out.below hS5.below).n2
   go_upto_region 6 with (go_at_call 83; refine (hcmp _).mono ?_; rintro e w6 ⟨rfl, hb6⟩; have hS6 := hS5.step hb6; clear hb6)
   clear k0 k1 x0 x1 x2 c0 c1 c2 f0 f1 f2 hlt b00 b01 b02 g00 g01 g02 b10 b11 b12 g10 g11 g12 n0 n1 n2 hX5 hY5 hS5 ex ey hcmp
   have q0 := pw_cell_below hS6.below M0.out
   have hop := HOp.out
   have hcin := HCin.out
   clear HOp HCin M0
   rcases hop with rfl | rfl | rfl | rfl <;> rcases hcin with rfl | rfl | rfl
   all_goals
    go_wp2_with (go_at_call 68; (first | (refine (value_Bool.calls true 2 1 ⟨#[]⟩ _ rfl).mono ?_) | (refine (value_Bool.calls false 2 0 ⟨#[]⟩ _ rfl).mono ?_)); rintro e w7 ⟨rfl, hb7⟩; have hS7 := hS6.step hb7; obtain ⟨⟨x0, x1, x2, c0, c1, c2⟩, f0, f1, f2, hlt⟩ := hS7.room; clear hb7)
    refine bodyPost_ret (results_single rfl (.cell _ _ _ _ _ rfl (hS7.done _ _ _) hu rfl (by kernel_rfl) .nil)) rfl ?_
    exact HQ.out _ (hS7.put _ _ _).below
  ·
   have HB := Aside0.mk (PartW.bad hB eb)
   clear hB
   obtain ⟨Q, hQ⟩ : ∃ Q, Q = WoOut (bindW (a1, 0) fun x => bindW (b1, b2) fun y => if x = nullV ∨ y = nullV then (nullV, 0) else (boolV (relS op (cmpV x y)), 0)) w := ⟨_, rfl⟩
   rw [← hQ]
   have HQ := Aside0.mk (show ∀ w', Below w.heap.size w w' → Q (.panicked (errP b2)) w' from fun w' h => by rw [hQ]; exact WoOut.pan (v := nullV) (by rw [bindW_ok, bindW_bad _ _ _ eb]) eb h)
   clear hQ
   go_enter Tryd.func64, Tryd.ntmps64
   go_upto_region 1 with (fail)
   rw [← HW.out]
   go_upto_region 2 with (go_at_call 62; refine (HA.out _ hS).mono ?_; rintro e w2 ⟨rfl, hb2⟩; have hS2 := hS.step hb2; clear hb2 HA)
   obtain ⟨W3, hW3⟩ : ∃ W3, W3 = w2.alloc (.cells #[.int .i64 a1.f0, .int .i64 a1.f1, .string a1.f2] 23) := ⟨_, rfl⟩
   have hS3 : EvS u v w W3 := by rw [hW3]; exact hS2.step (below_alloc (Below.refl _ _) _)
   have hX3 : W3.heap[w2.heap.size]? = some (.cells #[.int .i64 a1.f0, .int .i64 a1.f1, .string a1.f2] 23 (0, 0)) := by rw [hW3]; exact blk_new w2 _
   have hBw3 : Below w2.heap.size w2 W3 := by rw [hW3]; exact below_alloc (Below.refl _ _) _
   rw [← hW3]
   clear hW3
   clear k0 k1
   obtain ⟨k0, k1⟩ := hS3.asks
   go_wp2_with (go_at_call 62; refine (HB.out _ hS3).mono ?_; rintro e w4 ⟨rfl, hb2⟩; have HB := Aside0.mk (hS3.step hb2).below; clear hb2)
   exact ⟨rfl, HQ.out _ HB.out⟩
 ·
  have HA := Aside0.mk (PartW.bad hA ea)
  clear hA hB
  obtain ⟨Q, hQ⟩ : ∃ Q, Q = WoOut (bindW (a1, a2) fun x => bindW (b1, b2) fun y => if x = nullV ∨ y = nullV then (nullV, 0) else (boolV (relS op (cmpV x y)), 0)) w := ⟨_, rfl⟩
  rw [← hQ]
  have HQ := Aside0.mk (show ∀ w', Below w.heap.size w w' → Q (.panicked (errP a2)) w' from fun w' h => by rw [hQ]; exact WoOut.pan (v := nullV) (by rw [bindW_bad _ _ _ ea]) ea h)
  clear hQ
  go_enter Tryd.func64, Tryd.ntmps64
  go_upto_region 1 with (fail)
  rw [← HW.out]
  go_wp2_with (go_at_call 62; refine (HA.out _ hS).mono ?_; rintro e w2 ⟨rfl, hb2⟩; have HB := Aside0.mk (hS.step hb2).below; clear hb2)
  exact ⟨rfl, HQ.out _ HB.out⟩
end Go.Proofs.YtopolnbffmljaaaDoor.Q
namespace Go.Proofs.YtopolnbffmljaaaDoor.Q
attribute [local go_sem high] eqV
theorem fldDoes (x : Value) (w : World) : (Instr.field 68 (.agg #[x]) 0).run Tryd.prog w = .ok x w := by kernel_rfl
attribute [local go_sem] fldDoes
set_option maxHeartbeats 16000000 in
set_option maxRecDepth 100000 in
theorem worth_calls (u v : Value) (r : Wo) (n : Int) (h1 : 1 ≤ n) (h2 : n ≤ 20) (p ad : Addr) (i len c : Nat) (hi : i < len) (w : World) (m5 : w.cell? ⟨p.block, p.off + 5, none⟩ = some (.slice (some ad) len c)) (q0 : w.cell? (ad.add (i * 6)) = some (.int .i64 n))
  (hk : ∀ W, Below w.heap.size w W → Calls Tryd.prog (opF n) #[.agg #[u, v], .pointer (some (ad.add (i * 6)))] W (WoOut r W)) (hu0 : u.oneCell' = true) (hv0 : v.oneCell' = true) :
  Calls Tryd.prog 62 #[.agg #[u, v], .pointer (some p), .int .i64 i] w (WoOut r w) := by
 have hu := Tryd.underlying23
 obtain ⟨W, hW⟩ : ∃ W, W = (w.alloc (.cells #[u, v] 71)).alloc (.cells #[.int .i64 0, .int .i64 0, .string ⟨#[]⟩] 23) := ⟨_, rfl⟩
 have hS : EvS u v w W := by rw [hW]; exact EvS.new u v w
 have m5W := pw_cell_below hS.below m5
 have HW := Aside0.mk hW
 have HQ0 := Aside0.mk q0
 have hop := fun W => op_calls n h1 h2 W
 have HOp := Aside0.mk hop
 clear hW hop q0 m5 h1 h2
 have hof := opF_is n
 obtain ⟨r1, r2⟩ := r
 by_cases hr : r2 = 0
 ·subst hr
  have hk2 : ∀ W, EvS u v w W → Calls Tryd.prog (opF n) #[.agg #[u, v], .pointer (some (ad.add (i * 6)))] W fun e w' => e = .returned (.agg #[.int .i64 r1.f0, .int .i64 r1.f1, .string r1.f2]) ∧ Below W.heap.size W w' := fun W h => WoOut.ok (hk W h.below)
  clear hk
  generalize opF n = F at hk2 hof HOp
  obtain ⟨Q, hQ⟩ : ∃ Q, Q = WoOut (r1, 0) w := ⟨_, rfl⟩
  rw [← hQ]
  have HQ := Aside0.mk (show ∀ w', Below w.heap.size w w' → Q (.returned (.agg #[.int .i64 r1.f0, .int .i64 r1.f1, .string r1.f2])) w' from fun w' h => by rw [hQ]; exact WoOut.ret rfl h)
  have HK := Aside0.mk hk2
  clear hQ hk2
  obtain ⟨fn, hfn, hnm, hbd⟩ : ∃ fn, Tryd.prog.funcs[F]? = some fn ∧ (fn.name == "runtime.NumGoroutine") = false ∧ fn.body.isSome = true := by
   rcases hof with rfl | rfl | rfl | rfl | rfl | rfl | rfl | rfl | rfl | rfl | rfl | rfl
   ·exact ⟨_, Tryd.func56, by kernel_rfl, by kernel_rfl⟩
   ·exact ⟨_, Tryd.func57, by kernel_rfl, by kernel_rfl⟩
   ·exact ⟨_, Tryd.func58, by kernel_rfl, by kernel_rfl⟩
   ·exact ⟨_, Tryd.func59, by kernel_rfl, by kernel_rfl⟩
   ·exact ⟨_, Tryd.func63, by kernel_rfl, by kernel_rfl⟩
   ·exact ⟨_, Tryd.func64, by kernel_rfl, by kernel_rfl⟩
   ·exact ⟨_, Tryd.func65, by kernel_rfl, by kernel_rfl⟩
   ·exact ⟨_, Tryd.func66, by kernel_rfl, by kernel_rfl⟩
   ·exact ⟨_, Tryd.func67, by kernel_rfl, by kernel_rfl⟩
   ·exact ⟨_, Tryd.func69, by kernel_rfl, by kernel_rfl⟩
   ·exact ⟨_, Tryd.func70, by kernel_rfl, by kernel_rfl⟩
   ·exact ⟨_, Tryd.func71, by kernel_rfl, by kernel_rfl⟩
  have hent := fun (args : Array Value) (W : World) => enters_ (P := Tryd.prog) hfn hnm hbd args W
  clear hfn hnm hbd hof
  have hii : (i : Int) < (len : Int) := by omega
  go_enter Tryd.func62, Tryd.ntmps62
  go_upto_region 1 with (fail)
  rw [← HW.out]
  go_upto_region 2 with (fail)
  have hC := evc_of HQ0.out hS
  clear m5W hS
  go_region_held (fun w' => w'.cell? (ad.add (i * 6)) = some (.int .i64 n) ∧ w'.cell? ⟨w.heap.size, 0, none⟩ = some u ∧ w'.cell? ⟨w.heap.size, 1, none⟩ = some v ∧ EvS u v w w') (first | assumption | (refine evc_drew ?_; assumption) | (refine evc_put HQ0.out ?_ _ _ _; assumption))
   (first
   | (go_at_call 37; refine (HOp.out _).mono ?_; rintro e w2 ⟨rfl, hb2⟩; have hS2 := evc_step (by assumption) hb2; clear hb2)
   | (refine (HK.out _ (by exact (‹_ ∧ _ ∧ _ ∧ EvS u v w _›).2.2.2)).mono ?_; rintro e w3 ⟨rfl, hb3⟩; have hS3 := evc_step (by assumption) hb3; obtain ⟨⟨x0, x1, x2, c0, c1, c2⟩, f0, f1, f2, hlt⟩ := hS3.2.2.2.room; clear hb3))
  all_goals
   go_wp2
   refine bodyPost_ret (results_single rfl (.cell _ _ _ _ _ rfl (hS3.2.2.2.done _ _ _) hu rfl (by kernel_rfl) .nil)) rfl ?_
   exact HQ.out _ (hS3.2.2.2.put _ _ _).below
 ·have hk2 : ∀ W, EvS u v w W → Calls Tryd.prog (opF n) #[.agg #[u, v], .pointer (some (ad.add (i * 6)))] W fun e w' => e = .panicked (errP r2) ∧ Below W.heap.size W w' := fun W h => WoOut.bad hr (hk W h.below)
  clear hk
  generalize opF n = F at hk2 hof HOp
  obtain ⟨Q, hQ⟩ : ∃ Q, Q = WoOut (r1, r2) w := ⟨_, rfl⟩
  rw [← hQ]
  have HQ := Aside0.mk (show ∀ w', Below w.heap.size w w' → Q (.panicked (errP r2)) w' from fun w' h => by rw [hQ]; exact WoOut.pan rfl hr h)
  have HK := Aside0.mk hk2
  clear hQ hk2 hr
  obtain ⟨fn, hfn, hnm, hbd⟩ : ∃ fn, Tryd.prog.funcs[F]? = some fn ∧ (fn.name == "runtime.NumGoroutine") = false ∧ fn.body.isSome = true := by
   rcases hof with rfl | rfl | rfl | rfl | rfl | rfl | rfl | rfl | rfl | rfl | rfl | rfl
   ·exact ⟨_, Tryd.func56, by kernel_rfl, by kernel_rfl⟩
   ·exact ⟨_, Tryd.func57, by kernel_rfl, by kernel_rfl⟩
   ·exact ⟨_, Tryd.func58, by kernel_rfl, by kernel_rfl⟩
   ·exact ⟨_, Tryd.func59, by kernel_rfl, by kernel_rfl⟩
   ·exact ⟨_, Tryd.func63, by kernel_rfl, by kernel_rfl⟩
   ·exact ⟨_, Tryd.func64, by kernel_rfl, by kernel_rfl⟩
   ·exact ⟨_, Tryd.func65, by kernel_rfl, by kernel_rfl⟩
   ·exact ⟨_, Tryd.func66, by kernel_rfl, by kernel_rfl⟩
   ·exact ⟨_, Tryd.func67, by kernel_rfl, by kernel_rfl⟩
   ·exact ⟨_, Tryd.func69, by kernel_rfl, by kernel_rfl⟩
   ·exact ⟨_, Tryd.func70, by kernel_rfl, by kernel_rfl⟩
   ·exact ⟨_, Tryd.func71, by kernel_rfl, by kernel_rfl⟩
  clear hof
  have hii : (i : Int) < (len : Int) := by omega
  go_enter Tryd.func62, Tryd.ntmps62
  go_upto_region 1 with (fail)
  rw [← HW.out]
  go_upto_region 2 with (fail)
  have hC := evc_of HQ0.out hS
  clear m5W hS
  refine start_ (n := 10) (S := (fun w' => w'.cell? (ad.add (i * 6)) = some (.int .i64 n) ∧ w'.cell? ⟨w.heap.size, 0, none⟩ = some u ∧ w'.cell? ⟨w.heap.size, 1, none⟩ = some v ∧ EvS u v w w')) (ds := [8, 9]) (fB 10 0) (by kernel_rfl) rfl rfl (evc_drew hC) (fun hHeld => ?_)
  refine pure_ (i := 0) (N := some 14) (v := ?_) (a' := ?_) (fB 10 1) rfl rfl (by kernel_rfl) (fun _ _ _ h => h) (Or.inl ⟨by rfl, by intro w'; go_simp; (first | with_reducible rfl | skip)⟩) (by simp only [Act.put, zA, zB, zC]; rfl) ?_
  refine pure_ (i := 1) (N := some 15) (v := ?_) (a' := ?_) (fB 10 3) rfl rfl (by kernel_rfl) (fun _ _ _ h => h) (Or.inl ⟨by rfl, by intro w'; go_simp; (first | with_reducible rfl | skip)⟩) (by simp only [Act.put, zA, zB, zC]; rfl) ?_
  refine pure_ (i := 2) (N := some 16) (v := ?_) (a' := ?_) (fB 10 7) rfl rfl (by kernel_rfl) (fun _ _ _ h => h) (Or.inl ⟨by rfl, by intro w'; go_simp; (first | with_reducible rfl | skip)⟩) (by simp only [Act.put, zA, zB, zC]; rfl) ?_
  refine pure_ (i := 7) (N := some 21) (v := ?_) (a' := ?_) (fB 10 135) rfl rfl (by kernel_rfl) (fun _ _ _ h => h) (Or.inl ⟨by rfl, by intro w'; go_simp; (first | with_reducible rfl | skip)⟩) (by simp only [Act.put, zA, zB, zC]; rfl) ?_
  refine take_ (i := 3) (N := some 17) (v := ?_) (a' := ?_) (fB 10 143) rfl rfl (by kernel_rfl) (fun _ _ _ h => h) (Or.inl ⟨by rfl, by rintro w' ⟨s0, s1, s2, s3⟩; go_simp; with_reducible rfl⟩) hHeld (by simp only [Act.put, zA, zB, zC]; rfl) ?_
  refine take_ (i := 6) (N := some 20) (v := ?_) (a' := ?_) (fB 10 207) rfl rfl (by kernel_rfl) (fun _ _ _ h => h) (Or.inl ⟨by rfl, by rintro w' ⟨s0, s1, s2, s3⟩; go_simp; with_reducible rfl⟩) hHeld (by simp only [Act.put, zA, zB, zC]; rfl) ?_
  refine one1_ (i := 4) (N := some 18) (fB 10 223) rfl rfl (by kernel_rfl) (by decide) (fun K hK => ?_)
  refine goes_ Tryd.func37 (by kernel_rfl) rfl #[.int .i64 n] (by rfl) rfl rfl (by (try simp only [List.map_toArray, List.map_cons, List.map_nil]); first | done | rfl) ?_
  refine (HOp.out _).mono ?_
  rintro e w2 ⟨rfl, hb2⟩
  have hS2 := evc_step hHeld hb2
  refine ⟨_, rfl, ?_⟩
  clear hHeld
  refine hK.out _ _ (hS2) (fun hHeld => ?_)
  clear hK K
  refine norm_ (a' := ?_) ?_ ?_
  rotate_left
  ·show Act.put _ (some 18) _ = _
   simp only [Act.put, zA, zB, zC]
   rfl
  refine pure_ (i := 5) (N := some 19) (v := ?_) (a' := ?_) (fB 10 255) rfl rfl (by kernel_rfl) (fun _ _ _ h => h) (Or.inl ⟨by rfl, by intro w'; go_simp; (first | with_reducible rfl | skip)⟩) (by simp only [Act.put, zA, zB, zC]; rfl) ?_
  refine last_ (i := 8) (N := some 22) (fB 10 511) rfl rfl (by kernel_rfl) (by decide) (fun K hK => ?_)
  refine goesTP_ hfn hnm hbd #[.agg #[u, v], .pointer (some (ad.add (i * 6)))] (by rfl) rfl (by rfl) (by (try simp only [List.map_toArray, List.map_cons, List.map_nil]); first | done | rfl) ?_
  refine (HK.out _ hS2.2.2.2).mono ?_
  rintro e w3 ⟨rfl, hb3⟩
  refine ⟨_, rfl, ?_⟩
  exact ⟨rfl, HQ.out _ (hS2.2.2.2.step hb3).below⟩
end Go.Proofs.YtopolnbffmljaaaDoor.Q
namespace Go.Proofs.YtopolnbffmljaaaDoor.Q
attribute [local go_sem high] eqV
set_option maxHeartbeats 16000000 in
set_option maxRecDepth 100000 in
theorem joins_calls (u v : Value) (op : Int) (a b : Wo) (p : Addr) (w : World) (hu0 : u.oneCell' = true) (hv0 : v.oneCell' = true) (hA : PartW u v p 0 a w) (hB : PartW u v p 1 b w) (hG : GlobE w) (hop : op = 14 ∨ op = 15) (m0 : w.cell? p = some (.int .i64 op)) :
  Calls Tryd.prog 65 #[.agg #[u, v], .pointer (some p)] w (WoOut (bindW a fun x => if x = boolV (decide (op = 15)) then (x, 0) else bindW b fun y => if y = boolV (decide (op = 15)) then (y, 0) else if x = nullV ∨ y = nullV then (nullV, 0) else (boolV (decide (op = 14)), 0)) w) := by
 have hu := Tryd.underlying23
 obtain ⟨W, hW⟩ : ∃ W, W = (w.alloc (.cells #[u, v] 71)).alloc (.cells #[.int .i64 0, .int .i64 0, .string ⟨#[]⟩] 23) := ⟨_, rfl⟩
 have hS : EvS u v w W := by rw [hW]; exact EvS.new u v w
 have HW := Aside0.mk hW
 clear hW
 have HG := Aside0.mk hG
 have M0 := Aside0.mk m0
 clear hG m0
 obtain ⟨o, e, ho⟩ : ∃ (o : Bool) (e : Int), (op == 15) = o ∧ (if o = true then 1 else 0) = e ∧ boolV (decide (op = 15)) = ⟨2, e, ⟨#[]⟩⟩ ∧ boolV (decide (op = 14)) = ⟨2, 1 - e, ⟨#[]⟩⟩ ∧ (op == 14) = !o ∧ (if (!o) = true then 1 else 0) = 1 - e := by
  rcases hop with rfl | rfl
  ·exact ⟨false, 0, rfl, rfl, rfl, rfl, rfl, rfl⟩
  ·exact ⟨true, 1, rfl, rfl, rfl, rfl, rfl, rfl⟩
 obtain ⟨o1, o2, o3, o4, o5, o6⟩ := ho
 rw [o3, o4]
 have hbo := fun W => value_Bool.calls o 2 e ⟨#[]⟩ W (by unfold value_Bool.f; rw [o2])
 have hbn := fun W => value_Bool.calls (!o) 2 (1 - e) ⟨#[]⟩ W (by unfold value_Bool.f; rw [o6])
 clear hop o2 o3 o4 o6
 have q0 := pw_cell_below hS.below M0.out
 obtain ⟨a1, a2⟩ := a
 obtain ⟨b1, b2⟩ := b
 obtain ⟨k0, k1⟩ := hS.asks
 have eax : eqv a1.f0 2 a1.f1 e a1.f2 ⟨#[]⟩ = decide (a1 = ⟨2, e, ⟨#[]⟩⟩) := rfl
 have ebx : eqv b1.f0 2 b1.f1 e b1.f2 ⟨#[]⟩ = decide (b1 = ⟨2, e, ⟨#[]⟩⟩) := rfl
 by_cases ea : a2 = 0
 ·subst ea
  have HA := Aside0.mk (PartW.ok hA)
  clear hA
  have ex := eqv_null a1
  have ey := eqv_null b1
  by_cases hae : a1 = ⟨2, e, ⟨#[]⟩⟩
  ·rw [decide_eq_true hae] at eax
   clear hB ebx
   obtain ⟨Q, hQ⟩ : ∃ Q, Q = WoOut (bindW (a1, 0) fun x => if x = ⟨2, e, ⟨#[]⟩⟩ then (x, 0) else bindW (b1, b2) fun y => if y = ⟨2, e, ⟨#[]⟩⟩ then (y, 0) else if x = nullV ∨ y = nullV then (nullV, 0) else (⟨2, 1 - e, ⟨#[]⟩⟩, 0)) w := ⟨_, rfl⟩
   rw [← hQ]
   have HQ := Aside0.mk (show ∀ w', Below w.heap.size w w' → Q (.returned (.agg #[.int .i64 2, .int .i64 e, .string ⟨#[]⟩])) w' from fun w' h => by rw [hQ]; exact WoOut.ret (v := (⟨2, e, ⟨#[]⟩⟩ : Va)) (by rw [bindW_ok, if_pos hae, hae]) h)
   clear hQ
   clear hae ex ey
   go_enter Tryd.func65, Tryd.ntmps65
   go_upto_region 1 with (fail)
   rw [← HW.out]
   go_upto_region 2 with (go_at_call 68; refine (hbo _).mono ?_; rintro e_ w2 ⟨rfl, hb2⟩; have hS2 := hS.step hb2; clear hb2)
   obtain ⟨W3, hW3⟩ : ∃ W3, W3 = w2.alloc (.cells #[.int .i64 2, .int .i64 e, .string ⟨#[]⟩] 23) := ⟨_, rfl⟩
   have hS3 : EvS u v w W3 := by rw [hW3]; exact hS2.step (below_alloc (Below.refl _ _) _)
   have hE3 : W3.heap[w2.heap.size]? = some (.cells #[.int .i64 2, .int .i64 e, .string ⟨#[]⟩] 23 (0, 0)) := by rw [hW3]; exact blk_new w2 _
   rw [← hW3]
   clear hW3 k0 k1
   obtain ⟨k0, k1⟩ := hS3.asks
   go_upto_region 3 with (go_at_call 62; refine (HA.out _ hS3).mono ?_; rintro e w4 ⟨rfl, hb2⟩; have hS4 := hS3.step hb2; have hE4 := blk_below hE3 hb2; clear hb2 HA)
   obtain ⟨W5, hW5⟩ : ∃ W5, W5 = w4.alloc (.cells #[.int .i64 a1.f0, .int .i64 a1.f1, .string a1.f2] 23) := ⟨_, rfl⟩
   have hS5 : EvS u v w W5 := by rw [hW5]; exact hS4.step (below_alloc (Below.refl _ _) _)
   have hX5 : W5.heap[w4.heap.size]? = some (.cells #[.int .i64 a1.f0, .int .i64 a1.f1, .string a1.f2] 23 (0, 0)) := by rw [hW5]; exact blk_new w4 _
   have hBw5 : Below w4.heap.size w4 W5 := by rw [hW5]; exact below_alloc (Below.refl _ _) _
   rw [← hW5]
   clear hW5
   have hE5 := blk_below hE4 hBw5
   clear k0 k1 hE3 hE4 hS hS2 hS3 hS4 hBw5
   obtain ⟨k0, k1⟩ := hS5.asks
   obtain ⟨⟨x0, x1, x2, c0, c1, c2⟩, f0, f1, f2, hlt⟩ := hS5.room
   obtain ⟨b00, b01, b02, g00, g01, g02⟩ := box3 hX5
   obtain ⟨b10, b11, b12, g10, g11, g12⟩ := box3 hE5
   go_wp2
   refine bodyPost_ret (results_single rfl (.cell _ _ _ _ _ rfl (hS5.done _ _ _) hu rfl (by kernel_rfl) .nil)) rfl ?_
   exact HQ.out _ (hS5.put _ _ _).below
  rw [decide_eq_false hae] at eax
  by_cases eb : b2 = 0
  ·subst eb
   have HB := Aside0.mk (PartW.ok hB)
   clear hB
   by_cases hbe : b1 = ⟨2, e, ⟨#[]⟩⟩
   ·rw [decide_eq_true hbe] at ebx
    obtain ⟨Q, hQ⟩ : ∃ Q, Q = WoOut (bindW (a1, 0) fun x => if x = ⟨2, e, ⟨#[]⟩⟩ then (x, 0) else bindW (b1, 0) fun y => if y = ⟨2, e, ⟨#[]⟩⟩ then (y, 0) else if x = nullV ∨ y = nullV then (nullV, 0) else (⟨2, 1 - e, ⟨#[]⟩⟩, 0)) w := ⟨_, rfl⟩
    rw [← hQ]
    have HQ := Aside0.mk (show ∀ w', Below w.heap.size w w' → Q (.returned (.agg #[.int .i64 2, .int .i64 e, .string ⟨#[]⟩])) w' from fun w' h => by rw [hQ]; exact WoOut.ret (v := (⟨2, e, ⟨#[]⟩⟩ : Va)) (by rw [bindW_ok, if_neg hae, bindW_ok, if_pos hbe, hbe]) h)
    clear hQ
    clear hae hbe ex ey
    go_enter Tryd.func65, Tryd.ntmps65
    go_upto_region 1 with (fail)
    rw [← HW.out]
    go_upto_region 2 with (go_at_call 68; refine (hbo _).mono ?_; rintro e_ w2 ⟨rfl, hb2⟩; have hS2 := hS.step hb2; clear hb2)
    obtain ⟨W3, hW3⟩ : ∃ W3, W3 = w2.alloc (.cells #[.int .i64 2, .int .i64 e, .string ⟨#[]⟩] 23) := ⟨_, rfl⟩
    have hS3 : EvS u v w W3 := by rw [hW3]; exact hS2.step (below_alloc (Below.refl _ _) _)
    have hE3 : W3.heap[w2.heap.size]? = some (.cells #[.int .i64 2, .int .i64 e, .string ⟨#[]⟩] 23 (0, 0)) := by rw [hW3]; exact blk_new w2 _
    rw [← hW3]
    clear hW3 k0 k1
    obtain ⟨k0, k1⟩ := hS3.asks
    go_upto_region 3 with (go_at_call 62; refine (HA.out _ hS3).mono ?_; rintro e w4 ⟨rfl, hb2⟩; have hS4 := hS3.step hb2; have hE4 := blk_below hE3 hb2; clear hb2 HA)
    obtain ⟨W5, hW5⟩ : ∃ W5, W5 = w4.alloc (.cells #[.int .i64 a1.f0, .int .i64 a1.f1, .string a1.f2] 23) := ⟨_, rfl⟩
    have hS5 : EvS u v w W5 := by rw [hW5]; exact hS4.step (below_alloc (Below.refl _ _) _)
    have hX5 : W5.heap[w4.heap.size]? = some (.cells #[.int .i64 a1.f0, .int .i64 a1.f1, .string a1.f2] 23 (0, 0)) := by rw [hW5]; exact blk_new w4 _
    have hBw5 : Below w4.heap.size w4 W5 := by rw [hW5]; exact below_alloc (Below.refl _ _) _
    rw [← hW5]
    clear hW5
    have hE5 := blk_below hE4 hBw5
    clear k0 k1 hE3 hE4 hS hS2 hS3 hS4 hBw5
    obtain ⟨k0, k1⟩ := hS5.asks
    obtain ⟨b00, b01, b02, g00, g01, g02⟩ := box3 hX5
    obtain ⟨b10, b11, b12, g10, g11, g12⟩ := box3 hE5
    go_upto_region 6 with (go_at_call 62; refine (HB.out _ hS5).mono ?_; rintro e w6 ⟨rfl, hb2⟩; have hS6 := hS5.step hb2; have hX6 := blk_below hX5 hb2; have hE6 := blk_below hE5 hb2; clear hb2 HB)
    obtain ⟨W7, hW7⟩ : ∃ W7, W7 = w6.alloc (.cells #[.int .i64 b1.f0, .int .i64 b1.f1, .string b1.f2] 23) := ⟨_, rfl⟩
    have hS7 : EvS u v w W7 := by rw [hW7]; exact hS6.step (below_alloc (Below.refl _ _) _)
    have hY7 : W7.heap[w6.heap.size]? = some (.cells #[.int .i64 b1.f0, .int .i64 b1.f1, .string b1.f2] 23 (0, 0)) := by rw [hW7]; exact blk_new w6 _
    have hBw7 : Below w6.heap.size w6 W7 := by rw [hW7]; exact below_alloc (Below.refl _ _) _
    rw [← hW7]
    clear hW7
    have hX7 := blk_below hX6 hBw7
    have hE7 := blk_below hE6 hBw7
    clear k0 k1 b00 b01 b02 g00 g01 g02 b10 b11 b12 g10 g11 g12 hX5 hX6 hE5 hE6 hS5 hS6 hBw7
    obtain ⟨k0, k1⟩ := hS7.asks
    obtain ⟨⟨x0, x1, x2, c0, c1, c2⟩, f0, f1, f2, hlt⟩ := hS7.room
    obtain ⟨b00, b01, b02, g00, g01, g02⟩ := box3 hX7
    obtain ⟨b10, b11, b12, g10, g11, g12⟩ := box3 hE7
    have n0 := (HG.out.below hS7.below).n0
    have n1 := (HG.out.below hS7.below).n1
    have n2 := (HG.out.below hS7.below).n2
    obtain ⟨b20, b21, b22, g20, g21, g22⟩ := box3 hY7
    have q7 := pw_cell_below hS7.below M0.out
    go_wp2
    refine bodyPost_ret (results_single rfl (.cell _ _ _ _ _ rfl (hS7.done _ _ _) hu rfl (by kernel_rfl) .nil)) rfl ?_
    exact HQ.out _ (hS7.put _ _ _).below
   rw [decide_eq_false hbe] at ebx
   by_cases hx : a1 = nullV
   ·rw [decide_eq_true hx] at ex
    obtain ⟨Q, hQ⟩ : ∃ Q, Q = WoOut (bindW (a1, 0) fun x => if x = ⟨2, e, ⟨#[]⟩⟩ then (x, 0) else bindW (b1, 0) fun y => if y = ⟨2, e, ⟨#[]⟩⟩ then (y, 0) else if x = nullV ∨ y = nullV then (nullV, 0) else (⟨2, 1 - e, ⟨#[]⟩⟩, 0)) w := ⟨_, rfl⟩
    rw [← hQ]
    have HQ := Aside0.mk (show ∀ w', Below w.heap.size w w' → Q (.returned (.agg #[.int .i64 0, .int .i64 0, .string ⟨#[]⟩])) w' from fun w' h => by rw [hQ]; exact WoOut.ret (v := nullV) (by rw [bindW_ok, if_neg hae, bindW_ok, if_neg hbe, if_pos (.inl hx)]) h)
    clear hQ
    clear hae hbe hx ey
    go_enter Tryd.func65, Tryd.ntmps65
    go_upto_region 1 with (fail)
    rw [← HW.out]
    go_upto_region 2 with (go_at_call 68; refine (hbo _).mono ?_; rintro e_ w2 ⟨rfl, hb2⟩; have hS2 := hS.step hb2; clear hb2)
    obtain ⟨W3, hW3⟩ : ∃ W3, W3 = w2.alloc (.cells #[.int .i64 2, .int .i64 e, .string ⟨#[]⟩] 23) := ⟨_, rfl⟩
    have hS3 : EvS u v w W3 := by rw [hW3]; exact hS2.step (below_alloc (Below.refl _ _) _)
    have hE3 : W3.heap[w2.heap.size]? = some (.cells #[.int .i64 2, .int .i64 e, .string ⟨#[]⟩] 23 (0, 0)) := by rw [hW3]; exact blk_new w2 _
    rw [← hW3]
    clear hW3 k0 k1
    obtain ⟨k0, k1⟩ := hS3.asks
    go_upto_region 3 with (go_at_call 62; refine (HA.out _ hS3).mono ?_; rintro e w4 ⟨rfl, hb2⟩; have hS4 := hS3.step hb2; have hE4 := blk_below hE3 hb2; clear hb2 HA)
    obtain ⟨W5, hW5⟩ : ∃ W5, W5 = w4.alloc (.cells #[.int .i64 a1.f0, .int .i64 a1.f1, .string a1.f2] 23) := ⟨_, rfl⟩
    have hS5 : EvS u v w W5 := by rw [hW5]; exact hS4.step (below_alloc (Below.refl _ _) _)
    have hX5 : W5.heap[w4.heap.size]? = some (.cells #[.int .i64 a1.f0, .int .i64 a1.f1, .string a1.f2] 23 (0, 0)) := by rw [hW5]; exact blk_new w4 _
    have hBw5 : Below w4.heap.size w4 W5 := by rw [hW5]; exact below_alloc (Below.refl _ _) _
    rw [← hW5]
    clear hW5
    have hE5 := blk_below hE4 hBw5
    clear k0 k1 hE3 hE4 hS hS2 hS3 hS4 hBw5
    obtain ⟨k0, k1⟩ := hS5.asks
    obtain ⟨b00, b01, b02, g00, g01, g02⟩ := box3 hX5
    obtain ⟨b10, b11, b12, g10, g11, g12⟩ := box3 hE5
    go_upto_region 6 with (go_at_call 62; refine (HB.out _ hS5).mono ?_; rintro e w6 ⟨rfl, hb2⟩; have hS6 := hS5.step hb2; have hX6 := blk_below hX5 hb2; have hE6 := blk_below hE5 hb2; clear hb2 HB)
    obtain ⟨W7, hW7⟩ : ∃ W7, W7 = w6.alloc (.cells #[.int .i64 b1.f0, .int .i64 b1.f1, .string b1.f2] 23) := ⟨_, rfl⟩
    have hS7 : EvS u v w W7 := by rw [hW7]; exact hS6.step (below_alloc (Below.refl _ _) _)
    have hY7 : W7.heap[w6.heap.size]? = some (.cells #[.int .i64 b1.f0, .int .i64 b1.f1, .string b1.f2] 23 (0, 0)) := by rw [hW7]; exact blk_new w6 _
    have hBw7 : Below w6.heap.size w6 W7 := by rw [hW7]; exact below_alloc (Below.refl _ _) _
    rw [← hW7]
    clear hW7
    have hX7 := blk_below hX6 hBw7
    have hE7 := blk_below hE6 hBw7
    clear k0 k1 b00 b01 b02 g00 g01 g02 b10 b11 b12 g10 g11 g12 hX5 hX6 hE5 hE6 hS5 hS6 hBw7
    obtain ⟨k0, k1⟩ := hS7.asks
    obtain ⟨⟨x0, x1, x2, c0, c1, c2⟩, f0, f1, f2, hlt⟩ := hS7.room
    obtain ⟨b00, b01, b02, g00, g01, g02⟩ := box3 hX7
    obtain ⟨b10, b11, b12, g10, g11, g12⟩ := box3 hE7
    have n0 := (HG.out.below hS7.below).n0
    have n1 := (HG.out.below hS7.below).n1
    have n2 := (HG.out.below hS7.below).n2
    obtain ⟨b20, b21, b22, g20, g21, g22⟩ := box3 hY7
    have q7 := pw_cell_below hS7.below M0.out
    go_wp2
    refine bodyPost_ret (results_single rfl (.cell _ _ _ _ _ rfl (hS7.done _ _ _) hu rfl (by kernel_rfl) .nil)) rfl ?_
    exact HQ.out _ (hS7.put _ _ _).below
   rw [decide_eq_false hx] at ex
   by_cases hy : b1 = nullV
   ·rw [decide_eq_true hy] at ey
    obtain ⟨Q, hQ⟩ : ∃ Q, Q = WoOut (bindW (a1, 0) fun x => if x = ⟨2, e, ⟨#[]⟩⟩ then (x, 0) else bindW (b1, 0) fun y => if y = ⟨2, e, ⟨#[]⟩⟩ then (y, 0) else if x = nullV ∨ y = nullV then (nullV, 0) else (⟨2, 1 - e, ⟨#[]⟩⟩, 0)) w := ⟨_, rfl⟩
    rw [← hQ]
    have HQ := Aside0.mk (show ∀ w', Below w.heap.size w w' → Q (.returned (.agg #[.int .i64 0, .int .i64 0, .string ⟨#[]⟩])) w' from fun w' h => by rw [hQ]; exact WoOut.ret (v := nullV) (by rw [bindW_ok, if_neg hae, bindW_ok, if_neg hbe, if_pos (.inr hy)]) h)
    clear hQ
    clear hae hbe hx hy
    go_enter Tryd.func65, Tryd.ntmps65
    go_upto_region 1 with (fail)
    rw [← HW.out]
    go_upto_region 2 with (go_at_call 68; refine (hbo _).mono ?_; rintro e_ w2 ⟨rfl, hb2⟩; have hS2 := hS.step hb2; clear hb2)
    obtain ⟨W3, hW3⟩ : ∃ W3, W3 = w2.alloc (.cells #[.int .i64 2, .int .i64 e, .string ⟨#[]⟩] 23) := ⟨_, rfl⟩
    have hS3 : EvS u v w W3 := by rw [hW3]; exact hS2.step (below_alloc (Below.refl _ _) _)
    have hE3 : W3.heap[w2.heap.size]? = some (.cells #[.int .i64 2, .int .i64 e, .string ⟨#[]⟩] 23 (0, 0)) := by rw [hW3]; exact blk_new w2 _
    rw [← hW3]
    clear hW3 k0 k1
    obtain ⟨k0, k1⟩ := hS3.asks
    go_upto_region 3 with (go_at_call 62; refine (HA.out _ hS3).mono ?_; rintro e w4 ⟨rfl, hb2⟩; have hS4 := hS3.step hb2; have hE4 := blk_below hE3 hb2; clear hb2 HA)
    obtain ⟨W5, hW5⟩ : ∃ W5, W5 = w4.alloc (.cells #[.int .i64 a1.f0, .int .i64 a1.f1, .string a1.f2] 23) := ⟨_, rfl⟩
    have hS5 : EvS u v w W5 := by rw [hW5]; exact hS4.step (below_alloc (Below.refl _ _) _)
    have hX5 : W5.heap[w4.heap.size]? = some (.cells #[.int .i64 a1.f0, .int .i64 a1.f1, .string a1.f2] 23 (0, 0)) := by rw [hW5]; exact blk_new w4 _
    have hBw5 : Below w4.heap.size w4 W5 := by rw [hW5]; exact below_alloc (Below.refl _ _) _
    rw [← hW5]
    clear hW5
    have hE5 := blk_below hE4 hBw5
    clear k0 k1 hE3 hE4 hS hS2 hS3 hS4 hBw5
    obtain ⟨k0, k1⟩ := hS5.asks
    obtain ⟨b00, b01, b02, g00, g01, g02⟩ := box3 hX5
    obtain ⟨b10, b11, b12, g10, g11, g12⟩ := box3 hE5
    go_upto_region 6 with (go_at_call 62; refine (HB.out _ hS5).mono ?_; rintro e w6 ⟨rfl, hb2⟩; have hS6 := hS5.step hb2; have hX6 := blk_below hX5 hb2; have hE6 := blk_below hE5 hb2; clear hb2 HB)
    obtain ⟨W7, hW7⟩ : ∃ W7, W7 = w6.alloc (.cells #[.int .i64 b1.f0, .int .i64 b1.f1, .string b1.f2] 23) := ⟨_, rfl⟩
    have hS7 : EvS u v w W7 := by rw [hW7]; exact hS6.step (below_alloc (Below.refl _ _) _)
    have hY7 : W7.heap[w6.heap.size]? = some (.cells #[.int .i64 b1.f0, .int .i64 b1.f1, .string b1.f2] 23 (0, 0)) := by rw [hW7]; exact blk_new w6 _
    have hBw7 : Below w6.heap.size w6 W7 := by rw [hW7]; exact below_alloc (Below.refl _ _) _
    rw [← hW7]
    clear hW7
    have hX7 := blk_below hX6 hBw7
    have hE7 := blk_below hE6 hBw7
    clear k0 k1 b00 b01 b02 g00 g01 g02 b10 b11 b12 g10 g11 g12 hX5 hX6 hE5 hE6 hS5 hS6 hBw7
    obtain ⟨k0, k1⟩ := hS7.asks
    obtain ⟨⟨x0, x1, x2, c0, c1, c2⟩, f0, f1, f2, hlt⟩ := hS7.room
    obtain ⟨b00, b01, b02, g00, g01, g02⟩ := box3 hX7
    obtain ⟨b10, b11, b12, g10, g11, g12⟩ := box3 hE7
    have n0 := (HG.out.below hS7.below).n0
    have n1 := (HG.out.below hS7.below).n1
    have n2 := (HG.out.below hS7.below).n2
    obtain ⟨b20, b21, b22, g20, g21, g22⟩ := box3 hY7
    have q7 := pw_cell_below hS7.below M0.out
    go_wp2
    refine bodyPost_ret (results_single rfl (.cell _ _ _ _ _ rfl (hS7.done _ _ _) hu rfl (by kernel_rfl) .nil)) rfl ?_
    exact HQ.out _ (hS7.put _ _ _).below
   rw [decide_eq_false hy] at ey
   obtain ⟨Q, hQ⟩ : ∃ Q, Q = WoOut (bindW (a1, 0) fun x => if x = ⟨2, e, ⟨#[]⟩⟩ then (x, 0) else bindW (b1, 0) fun y => if y = ⟨2, e, ⟨#[]⟩⟩ then (y, 0) else if x = nullV ∨ y = nullV then (nullV, 0) else (⟨2, 1 - e, ⟨#[]⟩⟩, 0)) w := ⟨_, rfl⟩
   rw [← hQ]
   have HQ := Aside0.mk (show ∀ w', Below w.heap.size w w' → Q (.returned (.agg #[.int .i64 2, .int .i64 (1 - e), .string ⟨#[]⟩])) w' from fun w' h => by rw [hQ]; exact WoOut.ret (v := (⟨2, 1 - e, ⟨#[]⟩⟩ : Va)) (by rw [bindW_ok, if_neg hae, bindW_ok, if_neg hbe, if_neg (fun h => h.elim hx hy)]) h)
   clear hQ
   clear hae hbe hx hy
   go_enter Tryd.func65, Tryd.ntmps65
   go_upto_region 1 with (fail)
   rw [← HW.out]
   go_upto_region 2 with (go_at_call 68; refine (hbo _).mono ?_; rintro e_ w2 ⟨rfl, hb2⟩; have hS2 := hS.step hb2; clear hb2)
   obtain ⟨W3, hW3⟩ : ∃ W3, W3 = w2.alloc (.cells #[.int .i64 2, .int .i64 e, .string ⟨#[]⟩] 23) := ⟨_, rfl⟩
   have hS3 : EvS u v w W3 := by rw [hW3]; exact hS2.step (below_alloc (Below.refl _ _) _)
   have hE3 : W3.heap[w2.heap.size]? = some (.cells #[.int .i64 2, .int .i64 e, .string ⟨#[]⟩] 23 (0, 0)) := by rw [hW3]; exact blk_new w2 _
   rw [← hW3]
   clear hW3 k0 k1
   obtain ⟨k0, k1⟩ := hS3.asks
   go_upto_region 3 with (go_at_call 62; refine (HA.out _ hS3).mono ?_; rintro e w4 ⟨rfl, hb2⟩; have hS4 := hS3.step hb2; have hE4 := blk_below hE3 hb2; clear hb2 HA)
   obtain ⟨W5, hW5⟩ : ∃ W5, W5 = w4.alloc (.cells #[.int .i64 a1.f0, .int .i64 a1.f1, .string a1.f2] 23) := ⟨_, rfl⟩
   have hS5 : EvS u v w W5 := by rw [hW5]; exact hS4.step (below_alloc (Below.refl _ _) _)
   have hX5 : W5.heap[w4.heap.size]? = some (.cells #[.int .i64 a1.f0, .int .i64 a1.f1, .string a1.f2] 23 (0, 0)) := by rw [hW5]; exact blk_new w4 _
   have hBw5 : Below w4.heap.size w4 W5 := by rw [hW5]; exact below_alloc (Below.refl _ _) _
   rw [← hW5]
   clear hW5
   have hE5 := blk_below hE4 hBw5
   clear k0 k1 hE3 hE4 hS hS2 hS3 hS4 hBw5
   obtain ⟨k0, k1⟩ := hS5.asks
   obtain ⟨b00, b01, b02, g00, g01, g02⟩ := box3 hX5
   obtain ⟨b10, b11, b12, g10, g11, g12⟩ := box3 hE5
   go_upto_region 6 with (go_at_call 62; refine (HB.out _ hS5).mono ?_; rintro e w6 ⟨rfl, hb2⟩; have hS6 := hS5.step hb2; have hX6 := blk_below hX5 hb2; have hE6 := blk_below hE5 hb2; clear hb2 HB)
   obtain ⟨W7, hW7⟩ : ∃ W7, W7 = w6.alloc (.cells #[.int .i64 b1.f0, .int .i64 b1.f1, .string b1.f2] 23) := ⟨_, rfl⟩
   have hS7 : EvS u v w W7 := by rw [hW7]; exact hS6.step (below_alloc (Below.refl _ _) _)
   have hY7 : W7.heap[w6.heap.size]? = some (.cells #[.int .i64 b1.f0, .int .i64 b1.f1, .string b1.f2] 23 (0, 0)) := by rw [hW7]; exact blk_new w6 _
   have hBw7 : Below w6.heap.size w6 W7 := by rw [hW7]; exact below_alloc (Below.refl _ _) _
   rw [← hW7]
   clear hW7
   have hX7 := blk_below hX6 hBw7
   have hE7 := blk_below hE6 hBw7
   clear k0 k1 b00 b01 b02 g00 g01 g02 b10 b11 b12 g10 g11 g12 hX5 hX6 hE5 hE6 hS5 hS6 hBw7
   obtain ⟨k0, k1⟩ := hS7.asks
   obtain ⟨⟨x0, x1, x2, c0, c1, c2⟩, f0, f1, f2, hlt⟩ := hS7.room
   obtain ⟨b00, b01, b02, g00, g01, g02⟩ := box3 hX7
   obtain ⟨b10, b11, b12, g10, g11, g12⟩ := box3 hE7
   have n0 := (HG.out.below hS7.below).n0
   have n1 := (HG.out.below hS7.below).n1
   have n2 := (HG.out.below hS7.below).n2
   obtain ⟨b20, b21, b22, g20, g21, g22⟩ := box3 hY7
   have q7 := pw_cell_below hS7.below M0.out
   go_wp2_with (go_at_call 68; refine (hbn _).mono ?_; rintro e_ w9 ⟨rfl, hb9⟩; have hS9 := hS7.step hb9; clear x0 x1 x2 c0 c1 c2 f0 f1 f2 hlt hb9; obtain ⟨⟨x0, x1, x2, c0, c1, c2⟩, f0, f1, f2, hlt⟩ := hS9.room)
   refine bodyPost_ret (results_single rfl (.cell _ _ _ _ _ rfl (hS9.done _ _ _) hu rfl (by kernel_rfl) .nil)) rfl ?_
   exact HQ.out _ (hS9.put _ _ _).below
  ·
   have HB := Aside0.mk (PartW.bad hB eb)
   clear hB ebx
   obtain ⟨Q, hQ⟩ : ∃ Q, Q = WoOut (bindW (a1, 0) fun x => if x = ⟨2, e, ⟨#[]⟩⟩ then (x, 0) else bindW (b1, b2) fun y => if y = ⟨2, e, ⟨#[]⟩⟩ then (y, 0) else if x = nullV ∨ y = nullV then (nullV, 0) else (⟨2, 1 - e, ⟨#[]⟩⟩, 0)) w := ⟨_, rfl⟩
   rw [← hQ]
   have HQ := Aside0.mk (show ∀ w', Below w.heap.size w w' → Q (.panicked (errP b2)) w' from fun w' h => by rw [hQ]; exact WoOut.pan (v := nullV) (by rw [bindW_ok, if_neg hae, bindW_bad _ _ _ eb]) eb h)
   clear hQ
   clear hae ex ey
   go_enter Tryd.func65, Tryd.ntmps65
   go_upto_region 1 with (fail)
   rw [← HW.out]
   go_upto_region 2 with (go_at_call 68; refine (hbo _).mono ?_; rintro e_ w2 ⟨rfl, hb2⟩; have hS2 := hS.step hb2; clear hb2)
   obtain ⟨W3, hW3⟩ : ∃ W3, W3 = w2.alloc (.cells #[.int .i64 2, .int .i64 e, .string ⟨#[]⟩] 23) := ⟨_, rfl⟩
   have hS3 : EvS u v w W3 := by rw [hW3]; exact hS2.step (below_alloc (Below.refl _ _) _)
   have hE3 : W3.heap[w2.heap.size]? = some (.cells #[.int .i64 2, .int .i64 e, .string ⟨#[]⟩] 23 (0, 0)) := by rw [hW3]; exact blk_new w2 _
   rw [← hW3]
   clear hW3 k0 k1
   obtain ⟨k0, k1⟩ := hS3.asks
   go_upto_region 3 with (go_at_call 62; refine (HA.out _ hS3).mono ?_; rintro e w4 ⟨rfl, hb2⟩; have hS4 := hS3.step hb2; have hE4 := blk_below hE3 hb2; clear hb2 HA)
   obtain ⟨W5, hW5⟩ : ∃ W5, W5 = w4.alloc (.cells #[.int .i64 a1.f0, .int .i64 a1.f1, .string a1.f2] 23) := ⟨_, rfl⟩
   have hS5 : EvS u v w W5 := by rw [hW5]; exact hS4.step (below_alloc (Below.refl _ _) _)
   have hX5 : W5.heap[w4.heap.size]? = some (.cells #[.int .i64 a1.f0, .int .i64 a1.f1, .string a1.f2] 23 (0, 0)) := by rw [hW5]; exact blk_new w4 _
   have hBw5 : Below w4.heap.size w4 W5 := by rw [hW5]; exact below_alloc (Below.refl _ _) _
   rw [← hW5]
   clear hW5
   have hE5 := blk_below hE4 hBw5
   clear k0 k1 hE3 hE4 hS hS2 hS3 hS4 hBw5
   obtain ⟨k0, k1⟩ := hS5.asks
   obtain ⟨⟨x0, x1, x2, c0, c1, c2⟩, f0, f1, f2, hlt⟩ := hS5.room
   obtain ⟨b00, b01, b02, g00, g01, g02⟩ := box3 hX5
   obtain ⟨b10, b11, b12, g10, g11, g12⟩ := box3 hE5
   go_wp2_with (go_at_call 62; refine (HB.out _ hS5).mono ?_; rintro e w6 ⟨rfl, hb2⟩; have HB := Aside0.mk (hS5.step hb2).below; clear hb2)
   exact ⟨rfl, HQ.out _ HB.out⟩
 ·
  have HA := Aside0.mk (PartW.bad hA ea)
  clear hA hB eax ebx
  obtain ⟨Q, hQ⟩ : ∃ Q, Q = WoOut (bindW (a1, a2) fun x => if x = ⟨2, e, ⟨#[]⟩⟩ then (x, 0) else bindW (b1, b2) fun y => if y = ⟨2, e, ⟨#[]⟩⟩ then (y, 0) else if x = nullV ∨ y = nullV then (nullV, 0) else (⟨2, 1 - e, ⟨#[]⟩⟩, 0)) w := ⟨_, rfl⟩
  rw [← hQ]
  have HQ := Aside0.mk (show ∀ w', Below w.heap.size w w' → Q (.panicked (errP a2)) w' from fun w' h => by rw [hQ]; exact WoOut.pan (v := nullV) (by rw [bindW_bad _ _ _ ea]) ea h)
  clear hQ
  go_enter Tryd.func65, Tryd.ntmps65
  go_upto_region 1 with (fail)
  rw [← HW.out]
  go_upto_region 2 with (go_at_call 68; refine (hbo _).mono ?_; rintro e_ w2 ⟨rfl, hb2⟩; have hS2 := hS.step hb2; clear hb2)
  obtain ⟨W3, hW3⟩ : ∃ W3, W3 = w2.alloc (.cells #[.int .i64 2, .int .i64 e, .string ⟨#[]⟩] 23) := ⟨_, rfl⟩
  have hS3 : EvS u v w W3 := by rw [hW3]; exact hS2.step (below_alloc (Below.refl _ _) _)
  have hE3 : W3.heap[w2.heap.size]? = some (.cells #[.int .i64 2, .int .i64 e, .string ⟨#[]⟩] 23 (0, 0)) := by rw [hW3]; exact blk_new w2 _
  rw [← hW3]
  clear hW3 k0 k1
  obtain ⟨k0, k1⟩ := hS3.asks
  go_wp2_with (go_at_call 62; refine (HA.out _ hS3).mono ?_; rintro e w4 ⟨rfl, hb2⟩; have HB := Aside0.mk (hS3.step hb2).below; clear hb2)
  exact ⟨rfl, HQ.out _ HB.out⟩
end Go.Proofs.YtopolnbffmljaaaDoor.Q
namespace Go.Proofs.YtopolnbffmljaaaDoor.Q
def okV (v : Va) : Prop := in64 v.f1 ∧ v.f2.size ≤ 1000
theorem okV_null : okV nullV := by unfold okV in64; exact ⟨by decide, by decide⟩
theorem okV_bool (b : Bool) : okV (boolV b) := by cases b <;> (unfold okV in64; exact ⟨by decide, by decide⟩)
theorem okV_int {n : Int} (h : in64 n) : okV (intV n) := ⟨h, show (⟨#[]⟩ : ByteArray).size ≤ 1000 by decide⟩
theorem doS_in (op a b : Int) (ha : in64 a) (hb : in64 b) : in64 (doS op a b).1 := by
 have fz : ∀ x, in64 (fit x).1 := fun x => by
  unfold fit
  split
  ·assumption
  ·unfold in64; exact ⟨by decide, by decide⟩
 have z : in64 0 := by unfold in64; exact ⟨by decide, by decide⟩
 unfold doS
 split
 ·exact fz _
 split
 ·exact fz _
 split
 ·exact fz _
 split
 ·split
  ·exact z
  split
  ·exact z
  ·rename_i h1 h2
   exact tdiv_in ha h1 h2
 split
 ·split
  ·exact z
  ·rename_i h1
   have h := tmod_sign a b
   have h2 := tmod_abs (a := a) h1
   unfold in64 at *
   show -9223372036854775808 ≤ Int.tmod a b ∧ Int.tmod a b ≤ 9223372036854775807
   omega
 ·exact z
theorem okV_reck (op : Int) (a b : Va) (ha : okV a) (hb : okV b) : okV (reckS op a b).1 := by
 unfold reckS
 split
 ·exact okV_null
 split
 ·exact okV_null
 ·exact okV_int (doS_in _ _ _ ha.1 hb.1)
theorem okV_bind {a : Wo} {f : Va → Wo} (ha : okV a.1) (hf : ∀ x, okV x → okV (f x).1) : okV (bindW a f).1 := by
 unfold bindW
 split
 ·exact okV_null
 ·exact hf _ ha
theorem okV_worthO (l : List Co) (row : List Va) (op : Int) (nm : ByteArray) (v : Va) (a b c : Wo) (hrow : ∀ y ∈ row, okV y) (hv : okV v) (ha : okV a.1) (hb : okV b.1) (hc : okV c.1) : okV (worthO l row op nm v a b c).1 := by
 unfold worthO
 by_cases h1 : op = 1
 ·rw [if_pos h1]
  show okV (row.getD _ _)
  rw [List.getD_eq_getElem?_getD]
  cases h : row[(if findN nm l 0 < 0 then 0 else findN nm l 0).toNat]? with
  | none => exact okV_null
  | some y => exact hrow y (List.mem_of_getElem? h)
 rw [if_neg h1]
 by_cases h2 : op = 2
 ·rw [if_pos h2]; exact hv
 rw [if_neg h2]
 by_cases h3 : op = 3
 ·rw [if_pos h3]; exact okV_null
 rw [if_neg h3]
 by_cases h4 : op = 9
 ·rw [if_pos h4]
  exact okV_bind ha fun x hx => okV_reck _ _ _ (okV_int (by unfold in64; exact ⟨by decide, by decide⟩)) hx
 rw [if_neg h4]
 by_cases h5 : op = 4 ∨ op = 5 ∨ op = 6 ∨ op = 7 ∨ op = 8
 ·rw [if_pos h5]
  exact okV_bind ha fun x hx => okV_bind hb fun y hy => okV_reck _ _ _ hx hy
 rw [if_neg h5]
 by_cases h6 : op = 10 ∨ op = 11 ∨ op = 12 ∨ op = 13
 ·rw [if_pos h6]
  refine okV_bind ha fun x hx => okV_bind hb fun y hy => ?_
  by_cases g : x = nullV ∨ y = nullV
  ·rw [if_pos g]; exact okV_null
  ·rw [if_neg g]; exact okV_bool _
 rw [if_neg h6]
 by_cases h7 : op = 14 ∨ op = 15
 ·rw [if_pos h7]
  refine okV_bind ha fun x hx => ?_
  by_cases g : x = boolV (decide (op = 15))
  ·rw [if_pos g]; exact hx
  rw [if_neg g]
  refine okV_bind hb fun y hy => ?_
  by_cases g2 : y = boolV (decide (op = 15))
  ·rw [if_pos g2]; exact hy
  rw [if_neg g2]
  by_cases g3 : x = nullV ∨ y = nullV
  ·rw [if_pos g3]; exact okV_null
  ·rw [if_neg g3]; exact okV_bool _
 rw [if_neg h7]
 by_cases h8 : op = 16
 ·rw [if_pos h8]
  refine okV_bind ha fun x hx => ?_
  by_cases g : x = nullV
  ·rw [if_pos g]; exact hx
  ·rw [if_neg g]; exact ⟨wrap_is _, hx.2⟩
 rw [if_neg h8]
 by_cases h9 : op = 17
 ·rw [if_pos h9]; exact okV_bind ha fun x hx => okV_bool _
 rw [if_neg h9]
 by_cases h10 : op = 18
 ·rw [if_pos h10]
  refine okV_bind ha fun x hx => ?_
  by_cases g : x = boolV true
  ·rw [if_pos g]; exact hb
  ·rw [if_neg g]; exact hc
 rw [if_neg h10]
 by_cases h11 : op = 19
 ·rw [if_pos h11]
  refine okV_bind ha fun x hx => ?_
  by_cases g : x = nullV
  ·rw [if_pos g]; exact hb
  ·rw [if_neg g]; exact hx
 rw [if_neg h11]
 refine okV_bind ha fun x hx => ?_
 by_cases g : x = nullV
 ·rw [if_pos g]; exact okV_null
 ·rw [if_neg g]; exact okV_int (by have := hx.2; unfold in64; omega)
theorem okV_worth (l : List Co) (row : List Va) (hrow : ∀ y ∈ row, okV y) : ∀ x : Ex, goodE x = true → okV (worthE l row x).1 := by
 refine Ex.ind fun x ih hg => ?_
 have hg' := (goodE_iff x).1 hg
 have key : ∀ i, okV ((x.f3.map (worthE l row)).getD i (nullV, 0)).1 := by
  intro i
  rw [List.getD_eq_getElem?_getD, List.getElem?_map]
  cases h : x.f3[i]? with
  | none => exact okV_null
  | some k =>
   have hm := List.mem_of_getElem? h
   exact ih k hm (hg'.2.2.2 k hm)
 rw [worthE_eq]
 exact okV_worthO l row _ _ _ _ _ _ hrow ⟨hg'.2.2.1, hg'.2.1⟩ (key 0) (key 1) (key 2)
theorem form_ar {op : Int} {nm : ByteArray} {v : Va} {n : Nat} (h : formE op nm v n = true) : (n : Int) = arT.getD op.toNat 0 := by
 unfold formE at h
 by_cases h1 : op < 0 ∨ 21 ≤ op
 ·rw [if_pos h1] at h; cases h
 rw [if_neg h1] at h
 by_cases h2 : (n : Int) ≠ arT.getD op.toNat 0
 ·rw [if_pos h2] at h; cases h
 ·omega
theorem eval_calls (l : List Co) (row : List Va) (B : Option Addr) (c2 : Nat) (D : Option Addr) (c3 : Nat) (hrow : ∀ y ∈ row, okV y) (hr0 : 0 < row.length) : ∀ x : Ex, goodE x = true → allE x = true → ∀ (p : Addr) (w : World), Ctx l row B c2 D c3 w → AtE w p x →
  Calls Tryd.prog (opF x.f0) #[.agg #[.slice B l.length c2, .slice D row.length c3], .pointer (some p)] w (WoOut (worthE l row x) w) := by
 refine Ex.ind fun x ih hgd hall p w hx hp => ?_
 obtain ⟨A, c, m0, m1, m2, m3, m4, m5, hl, hC⟩ := hp.cells
 have hg := (goodE_iff x).1 hgd
 have hfm := allE_form hall
 have hform := form_len hfm
 have hkd : ∀ k ∈ x.f3, allE k = true := fun k hk => allE_kid hall hk
 have hok := okV_worth l row hrow
 rw [worthE_eq]
 obtain ⟨op, nm, v, ks⟩ := x
 simp only at ih hg hfm hform hkd m0 m1 m2 m3 m4 m5 hl hC ⊢
 have part : ∀ i, i < ks.length → PartW (.slice B l.length c2) (.slice D row.length c3) p i ((ks.map (worthE l row)).getD i (nullV, 0)) w := by
  intro i hi
  obtain ⟨ad, e, hat, hm⟩ := AtE.kid hC i hi
  subst e
  have hr : (ks.map (worthE l row)).getD i (nullV, 0) = worthE l row (ks.getD i z26) := by
   rw [List.getD_eq_getElem?_getD, List.getD_eq_getElem?_getD, List.getElem?_map, List.getElem?_eq_getElem hi]
   rfl
  rw [hr]
  intro W hW
  have hkf := form_len (allE_form (hkd _ hm))
  obtain ⟨_, _, q0, _⟩ := (hat.below hW).cells
  exact worth_calls _ _ _ (ks.getD i z26).f0 hkf.1 hkf.2.1 p ad i ks.length c hi W (pw_cell_below hW m5) q0 (fun W2 hW2 => ih _ hm (hg.2.2.2 _ hm) (hkd _ hm) _ W2 ((hx.below hW).below hW2) ((hat.below hW).below hW2)) rfl rfl
 have okk : ∀ i, i < ks.length → okV ((ks.map (worthE l row)).getD i (nullV, 0)).1 := by
  intro i hi
  obtain ⟨ad, e, hat, hm⟩ := AtE.kid hC i hi
  rw [List.getD_eq_getElem?_getD, List.getElem?_map, List.getElem?_eq_getElem hi]
  refine hok _ (hg.2.2.2 _ ?_)
  exact List.getElem_mem hi
 have har := form_ar hfm
 have hop : op = 1 ∨ op = 2 ∨ op = 3 ∨ op = 4 ∨ op = 5 ∨ op = 6 ∨ op = 7 ∨ op = 8 ∨ op = 9 ∨ op = 10 ∨ op = 11 ∨ op = 12 ∨ op = 13 ∨ op = 14 ∨ op = 15 ∨ op = 16 ∨ op = 17 ∨ op = 18 ∨ op = 19 ∨ op = 20 := by omega
 have hG := hx.glob
 generalize hA : (ks.map (worthE l row)).getD 0 (nullV, 0) = a
 generalize hB : (ks.map (worthE l row)).getD 1 (nullV, 0) = b
 generalize hC3 : (ks.map (worthE l row)).getD 2 (nullV, 0) = d
 have P0 : 0 < ks.length → PartW (.slice B l.length c2) (.slice D row.length c3) p 0 a w := fun h => hA ▸ part 0 h
 have P1 : 1 < ks.length → PartW (.slice B l.length c2) (.slice D row.length c3) p 1 b w := fun h => hB ▸ part 1 h
 have P2 : 2 < ks.length → PartW (.slice B l.length c2) (.slice D row.length c3) p 2 d w := fun h => hC3 ▸ part 2 h
 have K0 : 0 < ks.length → in64 a.1.f1 := fun h => (hA ▸ okk 0 h : okV a.1).1
 have K1 : 1 < ks.length → in64 b.1.f1 := fun h => (hB ▸ okk 1 h : okV b.1).1
 clear part okk hA hB hC3 ih
 rcases hop with rfl | rfl | rfl | rfl | rfl | rfl | rfl | rfl | rfl | rfl | rfl | rfl | rfl | rfl | rfl | rfl | rfl | rfl | rfl | rfl
 ·have hn : ks.length = 0 := by have : arT.getD (1 : Int).toNat 0 = 0 := rfl; omega
  exact op1_calls _ _ l row nm p w rfl rfl B c2 D c3 hx rfl rfl hr0 m1
 ·have hn : ks.length = 0 := by have : arT.getD (2 : Int).toNat 0 = 0 := rfl; omega
  exact op2_calls _ _ v p w rfl rfl m2 m3 m4
 ·have hn : ks.length = 0 := by have : arT.getD (3 : Int).toNat 0 = 0 := rfl; omega
  exact op3_calls _ _ p w rfl rfl hG
 ·have hn : ks.length = 2 := by have : arT.getD (4 : Int).toNat 0 = 2 := rfl; omega
  exact op5_calls _ _ 4 a b p w rfl rfl (P0 (by omega)) (P1 (by omega)) hG (K0 (by omega)) (K1 (by omega)) m0
 ·have hn : ks.length = 2 := by have : arT.getD (5 : Int).toNat 0 = 2 := rfl; omega
  exact op5_calls _ _ 5 a b p w rfl rfl (P0 (by omega)) (P1 (by omega)) hG (K0 (by omega)) (K1 (by omega)) m0
 ·have hn : ks.length = 2 := by have : arT.getD (6 : Int).toNat 0 = 2 := rfl; omega
  exact op5_calls _ _ 6 a b p w rfl rfl (P0 (by omega)) (P1 (by omega)) hG (K0 (by omega)) (K1 (by omega)) m0
 ·have hn : ks.length = 2 := by have : arT.getD (7 : Int).toNat 0 = 2 := rfl; omega
  exact op5_calls _ _ 7 a b p w rfl rfl (P0 (by omega)) (P1 (by omega)) hG (K0 (by omega)) (K1 (by omega)) m0
 ·have hn : ks.length = 2 := by have : arT.getD (8 : Int).toNat 0 = 2 := rfl; omega
  exact op5_calls _ _ 8 a b p w rfl rfl (P0 (by omega)) (P1 (by omega)) hG (K0 (by omega)) (K1 (by omega)) m0
 ·have hn : ks.length = 1 := by have : arT.getD (9 : Int).toNat 0 = 1 := rfl; omega
  exact op4_calls _ _ a p w rfl rfl (P0 (by omega)) hG (K0 (by omega))
 ·have hn : ks.length = 2 := by have : arT.getD (10 : Int).toNat 0 = 2 := rfl; omega
  exact cmp_op_calls _ _ 10 a b p w rfl rfl (P0 (by omega)) (P1 (by omega)) hG (by decide) m0
 ·have hn : ks.length = 2 := by have : arT.getD (11 : Int).toNat 0 = 2 := rfl; omega
  exact cmp_op_calls _ _ 11 a b p w rfl rfl (P0 (by omega)) (P1 (by omega)) hG (by decide) m0
 ·have hn : ks.length = 2 := by have : arT.getD (12 : Int).toNat 0 = 2 := rfl; omega
  exact cmp_op_calls _ _ 12 a b p w rfl rfl (P0 (by omega)) (P1 (by omega)) hG (by decide) m0
 ·have hn : ks.length = 2 := by have : arT.getD (13 : Int).toNat 0 = 2 := rfl; omega
  exact cmp_op_calls _ _ 13 a b p w rfl rfl (P0 (by omega)) (P1 (by omega)) hG (by decide) m0
 ·have hn : ks.length = 2 := by have : arT.getD (14 : Int).toNat 0 = 2 := rfl; omega
  exact joins_calls _ _ 14 a b p w rfl rfl (P0 (by omega)) (P1 (by omega)) hG (by decide) m0
 ·have hn : ks.length = 2 := by have : arT.getD (15 : Int).toNat 0 = 2 := rfl; omega
  exact joins_calls _ _ 15 a b p w rfl rfl (P0 (by omega)) (P1 (by omega)) hG (by decide) m0
 ·have hn : ks.length = 1 := by have : arT.getD (16 : Int).toNat 0 = 1 := rfl; omega
  exact op6_calls _ _ a p w rfl rfl (P0 (by omega)) hG
 ·have hn : ks.length = 1 := by have : arT.getD (17 : Int).toNat 0 = 1 := rfl; omega
  exact op7_calls _ _ a p w rfl rfl (P0 (by omega)) hG
 ·have hn : ks.length = 3 := by have : arT.getD (18 : Int).toNat 0 = 3 := rfl; omega
  exact op8_calls _ _ a b d p w rfl rfl (P0 (by omega)) (P1 (by omega)) (P2 (by omega))
 ·have hn : ks.length = 2 := by have : arT.getD (19 : Int).toNat 0 = 2 := rfl; omega
  exact op9_calls _ _ a b p w rfl rfl (P0 (by omega)) (P1 (by omega)) hG
 ·have hn : ks.length = 1 := by have : arT.getD (20 : Int).toNat 0 = 1 := rfl; omega
  exact op10_calls _ _ a p w rfl rfl (P0 (by omega)) hG
end Go.Proofs.YtopolnbffmljaaaDoor.Q
namespace Go.Proofs.YtopolnbffmljaaaDoor.Q
theorem Wt.split {k : Int} {r : Wo} (h : Wt k r) : (∃ er, er ≠ 0 ∧ r = (nullV, er)) ∨ ∃ y, r = (y, 0) ∧ Ok k y := by
 obtain ⟨v, e⟩ := r
 rcases h with ⟨h1, h2, _⟩ | ⟨h1, h2⟩
 ·exact .inl ⟨e, h1, by rw [show v = nullV from h2]⟩
 ·exact .inr ⟨v, by rw [show e = 0 from h1], h2⟩
theorem Ok.nul {k : Int} {y : Va} (h : Ok k y) : decide (y = nullV) = (y.f0 == 0) := by
 by_cases e : y = nullV
 ·rw [decide_eq_true e, e]; rfl
 ·rw [decide_eq_false e]
  exact (beq_eq_false_iff_ne.2 (fun h0 => e (h.nz h0))).symm
theorem Ok.nulf {k : Int} {y : Va} (h : Ok k y) (e : ¬ y = nullV) : (y.f0 == 0) = false := by rw [← h.nul, decide_eq_false e]
theorem worthO_err {l : List Co} {row : List Va} {op : Int} {nm : ByteArray} {v : Va} {er : Int} {b d : Wo} (h1 : op ≠ 1) (h2 : op ≠ 2) (h3 : op ≠ 3) (he : er ≠ 0) : worthO l row op nm v (nullV, er) b d = (nullV, er) := by
 unfold worthO
 rw [if_neg h1, if_neg h2, if_neg h3]
 repeat' split
 all_goals exact bind_err he _
theorem rel10 (c : Int) : relS 10 c = (c == 0) := by unfold relS; rw [Bool.eq_iff_iff]; simp
theorem rel11 (c : Int) : relS 11 c = (c != 0) := by unfold relS; rw [Bool.eq_iff_iff]; simp
theorem rel12 (c : Int) : relS 12 c = decide (c < 0) := by unfold relS; rw [Bool.eq_iff_iff]; simp
theorem rel13 (c : Int) : relS 13 c = decide (c ≤ 0) := by unfold relS; rw [Bool.eq_iff_iff]; simp
set_option maxHeartbeats 4000000 in
theorem refEval_calls (l : List Co) (row : List Va) (B : Option Addr) (c2 : Nat) (D : Option Addr) (c3 : Nat) (hrow : ∀ y ∈ row, okV y) (hf : fitsL l row = true) : ∀ x : Ex, goodE x = true → allE x = true → (kindE l x).2 = 0 → ∀ (A : Option Addr) (c : Nat) (w : World), x.f3.length ≤ c → Ctx l row B c2 D c3 w → Kd.C k26 w A x.f3.length x.f3 →
  Calls Tryd.prog 38 #[.agg #[.int .i64 x.f0, .string x.f1, .int .i64 x.f2.f0, .int .i64 x.f2.f1, .string x.f2.f2, .slice A x.f3.length c], .slice B l.length c2, .slice D row.length c3] w (RetW (worthE l row x) w) := by
 refine Ex.ind fun x ih hgd hall hk A c w hl hx hC => ?_
 have hg := (goodE_iff x).1 hgd
 have hfm := allE_form hall
 have hkd : ∀ k ∈ x.f3, allE k = true := fun k hk => allE_kid hall hk
 have hok := okV_worth l row hrow
 have hty := worth_typed l row hf
 rw [worthE_eq]
 obtain ⟨op, nm, v, ks⟩ := x
 simp only at ih hg hfm hkd hl hC ⊢
 rw [kindE] at hk
 by_cases hL : (kindL l ks).2 = 0
 rotate_left
 ·rw [if_pos hL] at hk
  exact absurd hk hL
 rw [if_neg (not_not_intro hL)] at hk
 obtain ⟨k1, k2⟩ := kindL_ok l ks hL
 rw [k2] at hk
 have kid : ∀ i : Nat, i < ks.length → rd_T26 ks (i : Int) ∈ ks ∧ (ks.map (worthE l row)).getD i (nullV, 0) = worthE l row (rd_T26 ks (i : Int)) ∧ (ks.map (fun k => (kindE l k).1)).getD i 0 = (kindE l (rd_T26 ks (i : Int))).1 := by
  intro i hi
  have e : rd_T26 ks (i : Int) = ks[i] := by
   unfold rd_T26
   rw [Int.toNat_natCast, List.getD_eq_getElem?_getD, List.getElem?_eq_getElem hi]
   rfl
  rw [e]
  refine ⟨List.getElem_mem hi, ?_, ?_⟩
  ·rw [List.getD_eq_getElem?_getD, List.getElem?_map, List.getElem?_eq_getElem hi]; rfl
  ·rw [List.getD_eq_getElem?_getD, List.getElem?_map, List.getElem?_eq_getElem hi]; rfl
 have part : ∀ i : Nat, i < ks.length → KidR B l.length c2 D row.length c3 (rd_T26 ks (i : Int)) ((ks.map (worthE l row)).getD i (nullV, 0)) w := by
  intro i hi W hW A' c' hl' hC'
  obtain ⟨hm, e1, e2⟩ := kid i hi
  rw [e1]
  exact ih _ hm (hg.2.2.2 _ hm) (hkd _ hm) (k1 _ hm) A' c' W hl' (hx.below hW) hC'
 have typ : ∀ i : Nat, i < ks.length → Wt ((ks.map (fun k => (kindE l k).1)).getD i 0) ((ks.map (worthE l row)).getD i (nullV, 0)) := by
  intro i hi
  obtain ⟨hm, e1, e2⟩ := kid i hi
  rw [e1, e2]
  exact hty _ (hkd _ hm) (k1 _ hm)
 have okk : ∀ i : Nat, i < ks.length → okV ((ks.map (worthE l row)).getD i (nullV, 0)).1 := by
  intro i hi
  obtain ⟨hm, e1, e2⟩ := kid i hi
  rw [e1]
  exact hok _ (hg.2.2.2 _ hm)
 obtain ⟨g0, g1, g2⟩ := form_op hfm
 have hop : op = 1 ∨ op = 2 ∨ op = 3 ∨ op = 4 ∨ op = 5 ∨ op = 6 ∨ op = 7 ∨ op = 8 ∨ op = 9 ∨ op = 10 ∨ op = 11 ∨ op = 12 ∨ op = 13 ∨ op = 14 ∨ op = 15 ∨ op = 16 ∨ op = 17 ∨ op = 18 ∨ op = 19 ∨ op = 20 := by omega
 clear kid hL k2 k1 hok hty hkd hfm hall hgd
 rcases hop with rfl | rfl | rfl | rfl | rfl | rfl | rfl | rfl | rfl | rfl | rfl | rfl | rfl | rfl | rfl | rfl | rfl | rfl | rfl | rfl
 ·have hn : ks.length = 0 := by have : arT.getD (1 : Int).toNat 0 = 0 := rfl; omega
  have hk : (if findN nm l 0 < 0 then ((0, 132) : Int × Int) else ((rd_T58 l (findN nm l 0)).f1, 0)).2 = 0 := hk
  by_cases hz : findN nm l 0 < 0
  ·rw [if_pos hz] at hk; cases hk
  ·show Calls _ _ _ _ (RetW (rd_T23 row (if findN nm l 0 < 0 then 0 else findN nm l 0), 0) w)
   rw [if_neg hz]
   have hb := findN_le nm l 0 (by omega)
   obtain ⟨K, hK⟩ := (refFind_ev l nm hx.ll).get
   exact ev1 nm v ks A c hl B c2 D c3 w hC l row hx.cols hx.lc hx.rows (findN nm l 0) (by omega) (by have := hx.eq; omega) K hK
 ·have hn : ks.length = 0 := by have : arT.getD (2 : Int).toNat 0 = 0 := rfl; omega
  exact ev2 nm v ks A c hl B _ c2 D _ c3 w hC
 ·have hn : ks.length = 0 := by have : arT.getD (3 : Int).toNat 0 = 0 := rfl; omega
  exact ev3 nm v ks A c hl B _ c2 D _ c3 w hC
 ·have hn : ks.length = 2 := by have : arT.getD (4 : Int).toNat 0 = 2 := rfl; omega
  have P0 := part 0 (by omega)
  have T0 := typ 0 (by omega)
  have I0 := okk 0 (by omega)
  have P1 := part 1 (by omega)
  have T1 := typ 1 (by omega)
  have I1 := okk 1 (by omega)
  clear part typ okk ih
  generalize (ks.map (worthE l row)).getD 0 (nullV, 0) = a at *
  generalize (ks.map (worthE l row)).getD 1 (nullV, 0) = b at *
  generalize (ks.map (worthE l row)).getD 2 (nullV, 0) = d at *
  generalize (ks.map (fun k => (kindE l k).1)).getD 0 0 = κ0 at *
  generalize (ks.map (fun k => (kindE l k).1)).getD 1 0 = κ1 at *
  generalize (ks.map (fun k => (kindE l k).1)).getD 2 0 = κ2 at *
  rcases T0.split with ⟨er, her, rfl⟩ | ⟨y, rfl, hy⟩
  ·rw [show worthO l row 4 nm v (nullV, er) b d = (nullV, er) from worthO_err (by decide) (by decide) (by decide) her]
   exact everr nm v ks A c hl B _ c2 D _ c3 w hC (by omega) 4 rfl rfl rfl er (bne_iff_ne.2 her) ⟨P0⟩
  ·rw [show worthO l row 4 nm v (y, 0) b d = bindW b fun z => reckS 4 y z from rfl]
   rcases T1.split with ⟨er, her, rfl⟩ | ⟨z, rfl, hz⟩
   ·rw [bind_err her]; exact ev2err nm v ks A c hl B _ c2 D _ c3 w hC hn 4 rfl rfl rfl rfl rfl rfl rfl rfl rfl rfl rfl y er (bne_iff_ne.2 her) ⟨P0⟩ ⟨P1⟩
   ·rw [bind_ok]
    exact evar nm v ks A c hl B _ c2 D _ c3 w hC hn 4 rfl rfl rfl rfl rfl rfl rfl rfl rfl rfl rfl rfl y z ⟨P0⟩ ⟨P1⟩ _ (refReck_eq 0 4 y z hy.nz hz.nz I0.1 I1.1)
 ·have hn : ks.length = 2 := by have : arT.getD (5 : Int).toNat 0 = 2 := rfl; omega
  have P0 := part 0 (by omega)
  have T0 := typ 0 (by omega)
  have I0 := okk 0 (by omega)
  have P1 := part 1 (by omega)
  have T1 := typ 1 (by omega)
  have I1 := okk 1 (by omega)
  clear part typ okk ih
  generalize (ks.map (worthE l row)).getD 0 (nullV, 0) = a at *
  generalize (ks.map (worthE l row)).getD 1 (nullV, 0) = b at *
  generalize (ks.map (worthE l row)).getD 2 (nullV, 0) = d at *
  generalize (ks.map (fun k => (kindE l k).1)).getD 0 0 = κ0 at *
  generalize (ks.map (fun k => (kindE l k).1)).getD 1 0 = κ1 at *
  generalize (ks.map (fun k => (kindE l k).1)).getD 2 0 = κ2 at *
  rcases T0.split with ⟨er, her, rfl⟩ | ⟨y, rfl, hy⟩
  ·rw [show worthO l row 5 nm v (nullV, er) b d = (nullV, er) from worthO_err (by decide) (by decide) (by decide) her]
   exact everr nm v ks A c hl B _ c2 D _ c3 w hC (by omega) 5 rfl rfl rfl er (bne_iff_ne.2 her) ⟨P0⟩
  ·rw [show worthO l row 5 nm v (y, 0) b d = bindW b fun z => reckS 5 y z from rfl]
   rcases T1.split with ⟨er, her, rfl⟩ | ⟨z, rfl, hz⟩
   ·rw [bind_err her]; exact ev2err nm v ks A c hl B _ c2 D _ c3 w hC hn 5 rfl rfl rfl rfl rfl rfl rfl rfl rfl rfl rfl y er (bne_iff_ne.2 her) ⟨P0⟩ ⟨P1⟩
   ·rw [bind_ok]
    exact evar nm v ks A c hl B _ c2 D _ c3 w hC hn 5 rfl rfl rfl rfl rfl rfl rfl rfl rfl rfl rfl rfl y z ⟨P0⟩ ⟨P1⟩ _ (refReck_eq 0 5 y z hy.nz hz.nz I0.1 I1.1)
 ·have hn : ks.length = 2 := by have : arT.getD (6 : Int).toNat 0 = 2 := rfl; omega
  have P0 := part 0 (by omega)
  have T0 := typ 0 (by omega)
  have I0 := okk 0 (by omega)
  have P1 := part 1 (by omega)
  have T1 := typ 1 (by omega)
  have I1 := okk 1 (by omega)
  clear part typ okk ih
  generalize (ks.map (worthE l row)).getD 0 (nullV, 0) = a at *
  generalize (ks.map (worthE l row)).getD 1 (nullV, 0) = b at *
  generalize (ks.map (worthE l row)).getD 2 (nullV, 0) = d at *
  generalize (ks.map (fun k => (kindE l k).1)).getD 0 0 = κ0 at *
  generalize (ks.map (fun k => (kindE l k).1)).getD 1 0 = κ1 at *
  generalize (ks.map (fun k => (kindE l k).1)).getD 2 0 = κ2 at *
  rcases T0.split with ⟨er, her, rfl⟩ | ⟨y, rfl, hy⟩
  ·rw [show worthO l row 6 nm v (nullV, er) b d = (nullV, er) from worthO_err (by decide) (by decide) (by decide) her]
   exact everr nm v ks A c hl B _ c2 D _ c3 w hC (by omega) 6 rfl rfl rfl er (bne_iff_ne.2 her) ⟨P0⟩
  ·rw [show worthO l row 6 nm v (y, 0) b d = bindW b fun z => reckS 6 y z from rfl]
   rcases T1.split with ⟨er, her, rfl⟩ | ⟨z, rfl, hz⟩
   ·rw [bind_err her]; exact ev2err nm v ks A c hl B _ c2 D _ c3 w hC hn 6 rfl rfl rfl rfl rfl rfl rfl rfl rfl rfl rfl y er (bne_iff_ne.2 her) ⟨P0⟩ ⟨P1⟩
   ·rw [bind_ok]
    exact evar nm v ks A c hl B _ c2 D _ c3 w hC hn 6 rfl rfl rfl rfl rfl rfl rfl rfl rfl rfl rfl rfl y z ⟨P0⟩ ⟨P1⟩ _ (refReck_eq 0 6 y z hy.nz hz.nz I0.1 I1.1)
 ·have hn : ks.length = 2 := by have : arT.getD (7 : Int).toNat 0 = 2 := rfl; omega
  have P0 := part 0 (by omega)
  have T0 := typ 0 (by omega)
  have I0 := okk 0 (by omega)
  have P1 := part 1 (by omega)
  have T1 := typ 1 (by omega)
  have I1 := okk 1 (by omega)
  clear part typ okk ih
  generalize (ks.map (worthE l row)).getD 0 (nullV, 0) = a at *
  generalize (ks.map (worthE l row)).getD 1 (nullV, 0) = b at *
  generalize (ks.map (worthE l row)).getD 2 (nullV, 0) = d at *
  generalize (ks.map (fun k => (kindE l k).1)).getD 0 0 = κ0 at *
  generalize (ks.map (fun k => (kindE l k).1)).getD 1 0 = κ1 at *
  generalize (ks.map (fun k => (kindE l k).1)).getD 2 0 = κ2 at *
  rcases T0.split with ⟨er, her, rfl⟩ | ⟨y, rfl, hy⟩
  ·rw [show worthO l row 7 nm v (nullV, er) b d = (nullV, er) from worthO_err (by decide) (by decide) (by decide) her]
   exact everr nm v ks A c hl B _ c2 D _ c3 w hC (by omega) 7 rfl rfl rfl er (bne_iff_ne.2 her) ⟨P0⟩
  ·rw [show worthO l row 7 nm v (y, 0) b d = bindW b fun z => reckS 7 y z from rfl]
   rcases T1.split with ⟨er, her, rfl⟩ | ⟨z, rfl, hz⟩
   ·rw [bind_err her]; exact ev2err nm v ks A c hl B _ c2 D _ c3 w hC hn 7 rfl rfl rfl rfl rfl rfl rfl rfl rfl rfl rfl y er (bne_iff_ne.2 her) ⟨P0⟩ ⟨P1⟩
   ·rw [bind_ok]
    exact evar nm v ks A c hl B _ c2 D _ c3 w hC hn 7 rfl rfl rfl rfl rfl rfl rfl rfl rfl rfl rfl rfl y z ⟨P0⟩ ⟨P1⟩ _ (refReck_eq 0 7 y z hy.nz hz.nz I0.1 I1.1)
 ·have hn : ks.length = 2 := by have : arT.getD (8 : Int).toNat 0 = 2 := rfl; omega
  have P0 := part 0 (by omega)
  have T0 := typ 0 (by omega)
  have I0 := okk 0 (by omega)
  have P1 := part 1 (by omega)
  have T1 := typ 1 (by omega)
  have I1 := okk 1 (by omega)
  clear part typ okk ih
  generalize (ks.map (worthE l row)).getD 0 (nullV, 0) = a at *
  generalize (ks.map (worthE l row)).getD 1 (nullV, 0) = b at *
  generalize (ks.map (worthE l row)).getD 2 (nullV, 0) = d at *
  generalize (ks.map (fun k => (kindE l k).1)).getD 0 0 = κ0 at *
  generalize (ks.map (fun k => (kindE l k).1)).getD 1 0 = κ1 at *
  generalize (ks.map (fun k => (kindE l k).1)).getD 2 0 = κ2 at *
  rcases T0.split with ⟨er, her, rfl⟩ | ⟨y, rfl, hy⟩
  ·rw [show worthO l row 8 nm v (nullV, er) b d = (nullV, er) from worthO_err (by decide) (by decide) (by decide) her]
   exact everr nm v ks A c hl B _ c2 D _ c3 w hC (by omega) 8 rfl rfl rfl er (bne_iff_ne.2 her) ⟨P0⟩
  ·rw [show worthO l row 8 nm v (y, 0) b d = bindW b fun z => reckS 8 y z from rfl]
   rcases T1.split with ⟨er, her, rfl⟩ | ⟨z, rfl, hz⟩
   ·rw [bind_err her]; exact ev2err nm v ks A c hl B _ c2 D _ c3 w hC hn 8 rfl rfl rfl rfl rfl rfl rfl rfl rfl rfl rfl y er (bne_iff_ne.2 her) ⟨P0⟩ ⟨P1⟩
   ·rw [bind_ok]
    exact evar nm v ks A c hl B _ c2 D _ c3 w hC hn 8 rfl rfl rfl rfl rfl rfl rfl rfl rfl rfl rfl rfl y z ⟨P0⟩ ⟨P1⟩ _ (refReck_eq 0 8 y z hy.nz hz.nz I0.1 I1.1)
 ·have hn : ks.length = 1 := by have : arT.getD (9 : Int).toNat 0 = 1 := rfl; omega
  have P0 := part 0 (by omega)
  have T0 := typ 0 (by omega)
  have I0 := okk 0 (by omega)
  clear part typ okk ih
  generalize (ks.map (worthE l row)).getD 0 (nullV, 0) = a at *
  generalize (ks.map (worthE l row)).getD 1 (nullV, 0) = b at *
  generalize (ks.map (worthE l row)).getD 2 (nullV, 0) = d at *
  generalize (ks.map (fun k => (kindE l k).1)).getD 0 0 = κ0 at *
  generalize (ks.map (fun k => (kindE l k).1)).getD 1 0 = κ1 at *
  generalize (ks.map (fun k => (kindE l k).1)).getD 2 0 = κ2 at *
  rcases T0.split with ⟨er, her, rfl⟩ | ⟨y, rfl, hy⟩
  ·rw [show worthO l row 9 nm v (nullV, er) b d = (nullV, er) from worthO_err (by decide) (by decide) (by decide) her]
   exact everr nm v ks A c hl B _ c2 D _ c3 w hC (by omega) 9 rfl rfl rfl er (bne_iff_ne.2 her) ⟨P0⟩
  ·rw [show worthO l row 9 nm v (y, 0) b d = reckS 5 (intV 0) y from rfl]
   exact ev9 nm v ks A c hl B _ c2 D _ c3 w hC hn y ⟨P0⟩ _ (refReck_eq 0 5 (intV 0) y (nz_intV 0) hy.nz (by unfold in64; exact ⟨by decide, by decide⟩) I0.1)
 ·have hn : ks.length = 2 := by have : arT.getD (10 : Int).toNat 0 = 2 := rfl; omega
  have P0 := part 0 (by omega)
  have T0 := typ 0 (by omega)
  have I0 := okk 0 (by omega)
  have P1 := part 1 (by omega)
  have T1 := typ 1 (by omega)
  have I1 := okk 1 (by omega)
  clear part typ okk ih
  generalize (ks.map (worthE l row)).getD 0 (nullV, 0) = a at *
  generalize (ks.map (worthE l row)).getD 1 (nullV, 0) = b at *
  generalize (ks.map (worthE l row)).getD 2 (nullV, 0) = d at *
  generalize (ks.map (fun k => (kindE l k).1)).getD 0 0 = κ0 at *
  generalize (ks.map (fun k => (kindE l k).1)).getD 1 0 = κ1 at *
  generalize (ks.map (fun k => (kindE l k).1)).getD 2 0 = κ2 at *
  rcases T0.split with ⟨er, her, rfl⟩ | ⟨y, rfl, hy⟩
  ·rw [show worthO l row 10 nm v (nullV, er) b d = (nullV, er) from worthO_err (by decide) (by decide) (by decide) her]
   exact everr nm v ks A c hl B _ c2 D _ c3 w hC (by omega) 10 rfl rfl rfl er (bne_iff_ne.2 her) ⟨P0⟩
  ·rw [show worthO l row 10 nm v (y, 0) b d = bindW b fun z => if y = nullV ∨ z = nullV then (nullV, 0) else (boolV (relS 10 (cmpV y z)), 0) from rfl]
   rcases T1.split with ⟨er, her, rfl⟩ | ⟨z, rfl, hz⟩
   ·rw [bind_err her]; exact ev2err nm v ks A c hl B _ c2 D _ c3 w hC hn 10 rfl rfl rfl rfl rfl rfl rfl rfl rfl rfl rfl y er (bne_iff_ne.2 her) ⟨P0⟩ ⟨P1⟩
   ·rw [bind_ok]
    by_cases ny : y = nullV
    ·rw [if_pos (.inl ny)]; exact evcn1 nm v ks A c hl B _ c2 D _ c3 w hC hn 10 rfl rfl rfl rfl rfl rfl rfl rfl rfl rfl rfl rfl y z ⟨P0⟩ ⟨P1⟩ (by rw [ny]; rfl)
    ·by_cases nz : z = nullV
     ·rw [if_pos (.inr nz)]; exact evcn2 nm v ks A c hl B _ c2 D _ c3 w hC hn 10 rfl rfl rfl rfl rfl rfl rfl rfl rfl rfl rfl rfl y z ⟨P0⟩ ⟨P1⟩ (hy.nulf ny) (by rw [nz]; rfl)
     ·rw [if_neg (fun e => e.elim ny nz)]
      exact evc nm v ks A c hl B _ c2 D _ c3 w hC hn 10 rfl rfl rfl rfl rfl rfl rfl rfl rfl rfl rfl rfl y z ⟨P0⟩ ⟨P1⟩ (hy.nulf ny) (hz.nulf nz) (cmpV y z) (by rw [← cmpX_eq]; exact refCmp_eq 0 _ _ _ _ _ _) _ (.inl ⟨rfl, rel10 _⟩)
 ·have hn : ks.length = 2 := by have : arT.getD (11 : Int).toNat 0 = 2 := rfl; omega
  have P0 := part 0 (by omega)
  have T0 := typ 0 (by omega)
  have I0 := okk 0 (by omega)
  have P1 := part 1 (by omega)
  have T1 := typ 1 (by omega)
  have I1 := okk 1 (by omega)
  clear part typ okk ih
  generalize (ks.map (worthE l row)).getD 0 (nullV, 0) = a at *
  generalize (ks.map (worthE l row)).getD 1 (nullV, 0) = b at *
  generalize (ks.map (worthE l row)).getD 2 (nullV, 0) = d at *
  generalize (ks.map (fun k => (kindE l k).1)).getD 0 0 = κ0 at *
  generalize (ks.map (fun k => (kindE l k).1)).getD 1 0 = κ1 at *
  generalize (ks.map (fun k => (kindE l k).1)).getD 2 0 = κ2 at *
  rcases T0.split with ⟨er, her, rfl⟩ | ⟨y, rfl, hy⟩
  ·rw [show worthO l row 11 nm v (nullV, er) b d = (nullV, er) from worthO_err (by decide) (by decide) (by decide) her]
   exact everr nm v ks A c hl B _ c2 D _ c3 w hC (by omega) 11 rfl rfl rfl er (bne_iff_ne.2 her) ⟨P0⟩
  ·rw [show worthO l row 11 nm v (y, 0) b d = bindW b fun z => if y = nullV ∨ z = nullV then (nullV, 0) else (boolV (relS 11 (cmpV y z)), 0) from rfl]
   rcases T1.split with ⟨er, her, rfl⟩ | ⟨z, rfl, hz⟩
   ·rw [bind_err her]; exact ev2err nm v ks A c hl B _ c2 D _ c3 w hC hn 11 rfl rfl rfl rfl rfl rfl rfl rfl rfl rfl rfl y er (bne_iff_ne.2 her) ⟨P0⟩ ⟨P1⟩
   ·rw [bind_ok]
    by_cases ny : y = nullV
    ·rw [if_pos (.inl ny)]; exact evcn1 nm v ks A c hl B _ c2 D _ c3 w hC hn 11 rfl rfl rfl rfl rfl rfl rfl rfl rfl rfl rfl rfl y z ⟨P0⟩ ⟨P1⟩ (by rw [ny]; rfl)
    ·by_cases nz : z = nullV
     ·rw [if_pos (.inr nz)]; exact evcn2 nm v ks A c hl B _ c2 D _ c3 w hC hn 11 rfl rfl rfl rfl rfl rfl rfl rfl rfl rfl rfl rfl y z ⟨P0⟩ ⟨P1⟩ (hy.nulf ny) (by rw [nz]; rfl)
     ·rw [if_neg (fun e => e.elim ny nz)]
      exact evc nm v ks A c hl B _ c2 D _ c3 w hC hn 11 rfl rfl rfl rfl rfl rfl rfl rfl rfl rfl rfl rfl y z ⟨P0⟩ ⟨P1⟩ (hy.nulf ny) (hz.nulf nz) (cmpV y z) (by rw [← cmpX_eq]; exact refCmp_eq 0 _ _ _ _ _ _) _ (.inr (.inl ⟨rfl, rel11 _⟩))
 ·have hn : ks.length = 2 := by have : arT.getD (12 : Int).toNat 0 = 2 := rfl; omega
  have P0 := part 0 (by omega)
  have T0 := typ 0 (by omega)
  have I0 := okk 0 (by omega)
  have P1 := part 1 (by omega)
  have T1 := typ 1 (by omega)
  have I1 := okk 1 (by omega)
  clear part typ okk ih
  generalize (ks.map (worthE l row)).getD 0 (nullV, 0) = a at *
  generalize (ks.map (worthE l row)).getD 1 (nullV, 0) = b at *
  generalize (ks.map (worthE l row)).getD 2 (nullV, 0) = d at *
  generalize (ks.map (fun k => (kindE l k).1)).getD 0 0 = κ0 at *
  generalize (ks.map (fun k => (kindE l k).1)).getD 1 0 = κ1 at *
  generalize (ks.map (fun k => (kindE l k).1)).getD 2 0 = κ2 at *
  rcases T0.split with ⟨er, her, rfl⟩ | ⟨y, rfl, hy⟩
  ·rw [show worthO l row 12 nm v (nullV, er) b d = (nullV, er) from worthO_err (by decide) (by decide) (by decide) her]
   exact everr nm v ks A c hl B _ c2 D _ c3 w hC (by omega) 12 rfl rfl rfl er (bne_iff_ne.2 her) ⟨P0⟩
  ·rw [show worthO l row 12 nm v (y, 0) b d = bindW b fun z => if y = nullV ∨ z = nullV then (nullV, 0) else (boolV (relS 12 (cmpV y z)), 0) from rfl]
   rcases T1.split with ⟨er, her, rfl⟩ | ⟨z, rfl, hz⟩
   ·rw [bind_err her]; exact ev2err nm v ks A c hl B _ c2 D _ c3 w hC hn 12 rfl rfl rfl rfl rfl rfl rfl rfl rfl rfl rfl y er (bne_iff_ne.2 her) ⟨P0⟩ ⟨P1⟩
   ·rw [bind_ok]
    by_cases ny : y = nullV
    ·rw [if_pos (.inl ny)]; exact evcn1 nm v ks A c hl B _ c2 D _ c3 w hC hn 12 rfl rfl rfl rfl rfl rfl rfl rfl rfl rfl rfl rfl y z ⟨P0⟩ ⟨P1⟩ (by rw [ny]; rfl)
    ·by_cases nz : z = nullV
     ·rw [if_pos (.inr nz)]; exact evcn2 nm v ks A c hl B _ c2 D _ c3 w hC hn 12 rfl rfl rfl rfl rfl rfl rfl rfl rfl rfl rfl rfl y z ⟨P0⟩ ⟨P1⟩ (hy.nulf ny) (by rw [nz]; rfl)
     ·rw [if_neg (fun e => e.elim ny nz)]
      exact evc nm v ks A c hl B _ c2 D _ c3 w hC hn 12 rfl rfl rfl rfl rfl rfl rfl rfl rfl rfl rfl rfl y z ⟨P0⟩ ⟨P1⟩ (hy.nulf ny) (hz.nulf nz) (cmpV y z) (by rw [← cmpX_eq]; exact refCmp_eq 0 _ _ _ _ _ _) _ (.inr (.inr (.inl ⟨rfl, rel12 _⟩)))
 ·have hn : ks.length = 2 := by have : arT.getD (13 : Int).toNat 0 = 2 := rfl; omega
  have P0 := part 0 (by omega)
  have T0 := typ 0 (by omega)
  have I0 := okk 0 (by omega)
  have P1 := part 1 (by omega)
  have T1 := typ 1 (by omega)
  have I1 := okk 1 (by omega)
  clear part typ okk ih
  generalize (ks.map (worthE l row)).getD 0 (nullV, 0) = a at *
  generalize (ks.map (worthE l row)).getD 1 (nullV, 0) = b at *
  generalize (ks.map (worthE l row)).getD 2 (nullV, 0) = d at *
  generalize (ks.map (fun k => (kindE l k).1)).getD 0 0 = κ0 at *
  generalize (ks.map (fun k => (kindE l k).1)).getD 1 0 = κ1 at *
  generalize (ks.map (fun k => (kindE l k).1)).getD 2 0 = κ2 at *
  rcases T0.split with ⟨er, her, rfl⟩ | ⟨y, rfl, hy⟩
  ·rw [show worthO l row 13 nm v (nullV, er) b d = (nullV, er) from worthO_err (by decide) (by decide) (by decide) her]
   exact everr nm v ks A c hl B _ c2 D _ c3 w hC (by omega) 13 rfl rfl rfl er (bne_iff_ne.2 her) ⟨P0⟩
  ·rw [show worthO l row 13 nm v (y, 0) b d = bindW b fun z => if y = nullV ∨ z = nullV then (nullV, 0) else (boolV (relS 13 (cmpV y z)), 0) from rfl]
   rcases T1.split with ⟨er, her, rfl⟩ | ⟨z, rfl, hz⟩
   ·rw [bind_err her]; exact ev2err nm v ks A c hl B _ c2 D _ c3 w hC hn 13 rfl rfl rfl rfl rfl rfl rfl rfl rfl rfl rfl y er (bne_iff_ne.2 her) ⟨P0⟩ ⟨P1⟩
   ·rw [bind_ok]
    by_cases ny : y = nullV
    ·rw [if_pos (.inl ny)]; exact evcn1 nm v ks A c hl B _ c2 D _ c3 w hC hn 13 rfl rfl rfl rfl rfl rfl rfl rfl rfl rfl rfl rfl y z ⟨P0⟩ ⟨P1⟩ (by rw [ny]; rfl)
    ·by_cases nz : z = nullV
     ·rw [if_pos (.inr nz)]; exact evcn2 nm v ks A c hl B _ c2 D _ c3 w hC hn 13 rfl rfl rfl rfl rfl rfl rfl rfl rfl rfl rfl rfl y z ⟨P0⟩ ⟨P1⟩ (hy.nulf ny) (by rw [nz]; rfl)
     ·rw [if_neg (fun e => e.elim ny nz)]
      exact evc nm v ks A c hl B _ c2 D _ c3 w hC hn 13 rfl rfl rfl rfl rfl rfl rfl rfl rfl rfl rfl rfl y z ⟨P0⟩ ⟨P1⟩ (hy.nulf ny) (hz.nulf nz) (cmpV y z) (by rw [← cmpX_eq]; exact refCmp_eq 0 _ _ _ _ _ _) _ (.inr (.inr (.inr ⟨rfl, rel13 _⟩)))
 ·have hn : ks.length = 2 := by have : arT.getD (14 : Int).toNat 0 = 2 := rfl; omega
  have P0 := part 0 (by omega)
  have T0 := typ 0 (by omega)
  have I0 := okk 0 (by omega)
  have P1 := part 1 (by omega)
  have T1 := typ 1 (by omega)
  have I1 := okk 1 (by omega)
  clear part typ okk ih
  generalize (ks.map (worthE l row)).getD 0 (nullV, 0) = a at *
  generalize (ks.map (worthE l row)).getD 1 (nullV, 0) = b at *
  generalize (ks.map (worthE l row)).getD 2 (nullV, 0) = d at *
  generalize (ks.map (fun k => (kindE l k).1)).getD 0 0 = κ0 at *
  generalize (ks.map (fun k => (kindE l k).1)).getD 1 0 = κ1 at *
  generalize (ks.map (fun k => (kindE l k).1)).getD 2 0 = κ2 at *
  rcases T0.split with ⟨er, her, rfl⟩ | ⟨y, rfl, hy⟩
  ·rw [show worthO l row 14 nm v (nullV, er) b d = (nullV, er) from worthO_err (by decide) (by decide) (by decide) her]
   exact everr nm v ks A c hl B _ c2 D _ c3 w hC (by omega) 14 rfl rfl rfl er (bne_iff_ne.2 her) ⟨P0⟩
  ·rw [show worthO l row 14 nm v (y, 0) b d = if y = boolV false then (y, 0) else bindW b fun z => if z = boolV false then (z, 0) else if y = nullV ∨ z = nullV then (nullV, 0) else (boolV true, 0) from rfl]
   by_cases h : y = boolV false
   ·rw [if_pos h]; exact ev14s nm v ks A c hl B _ c2 D _ c3 w hC hn y ⟨P0⟩ (decide_eq_true h)
   ·rw [if_neg h]
    rcases T1.split with ⟨er, her, rfl⟩ | ⟨z, rfl, hz⟩
    ·rw [bind_err her]; exact ev14e nm v ks A c hl B _ c2 D _ c3 w hC hn y ⟨P0⟩ er (bne_iff_ne.2 her) ⟨P1⟩ (decide_eq_false h)
    ·rw [bind_ok]
     by_cases g : z = boolV false
     ·rw [if_pos g]; exact ev14z nm v ks A c hl B _ c2 D _ c3 w hC hn y ⟨P0⟩ z ⟨P1⟩ (decide_eq_false h) (decide_eq_true g)
     ·rw [if_neg g]
      exact ev14b nm v ks A c hl B _ c2 D _ c3 w hC hn y ⟨P0⟩ z ⟨P1⟩ (decide_eq_false h) (decide_eq_false g) _ (fun e => if_pos (.inl (hy.nz (eq_of_beq e)))) (fun _ e => if_pos (.inr (hz.nz (eq_of_beq e)))) _ (refCmp_eq 0 _ _ _ _ _ _) (fun e1 e2 => if_neg (fun h => h.elim (fun q => absurd e1 (by rw [q]; decide)) (fun q => absurd e2 (by rw [q]; decide))))
 ·have hn : ks.length = 2 := by have : arT.getD (15 : Int).toNat 0 = 2 := rfl; omega
  have P0 := part 0 (by omega)
  have T0 := typ 0 (by omega)
  have I0 := okk 0 (by omega)
  have P1 := part 1 (by omega)
  have T1 := typ 1 (by omega)
  have I1 := okk 1 (by omega)
  clear part typ okk ih
  generalize (ks.map (worthE l row)).getD 0 (nullV, 0) = a at *
  generalize (ks.map (worthE l row)).getD 1 (nullV, 0) = b at *
  generalize (ks.map (worthE l row)).getD 2 (nullV, 0) = d at *
  generalize (ks.map (fun k => (kindE l k).1)).getD 0 0 = κ0 at *
  generalize (ks.map (fun k => (kindE l k).1)).getD 1 0 = κ1 at *
  generalize (ks.map (fun k => (kindE l k).1)).getD 2 0 = κ2 at *
  rcases T0.split with ⟨er, her, rfl⟩ | ⟨y, rfl, hy⟩
  ·rw [show worthO l row 15 nm v (nullV, er) b d = (nullV, er) from worthO_err (by decide) (by decide) (by decide) her]
   exact everr nm v ks A c hl B _ c2 D _ c3 w hC (by omega) 15 rfl rfl rfl er (bne_iff_ne.2 her) ⟨P0⟩
  ·rw [show worthO l row 15 nm v (y, 0) b d = if y = boolV true then (y, 0) else bindW b fun z => if z = boolV true then (z, 0) else if y = nullV ∨ z = nullV then (nullV, 0) else (boolV false, 0) from rfl]
   by_cases h : y = boolV true
   ·rw [if_pos h]; exact ev15s nm v ks A c hl B _ c2 D _ c3 w hC hn y ⟨P0⟩ (decide_eq_true h)
   ·rw [if_neg h]
    rcases T1.split with ⟨er, her, rfl⟩ | ⟨z, rfl, hz⟩
    ·rw [bind_err her]; exact ev15e nm v ks A c hl B _ c2 D _ c3 w hC hn y ⟨P0⟩ er (bne_iff_ne.2 her) ⟨P1⟩ (decide_eq_false h)
    ·rw [bind_ok]
     by_cases g : z = boolV true
     ·rw [if_pos g]; exact ev15z nm v ks A c hl B _ c2 D _ c3 w hC hn y ⟨P0⟩ z ⟨P1⟩ (decide_eq_false h) (decide_eq_true g)
     ·rw [if_neg g]
      exact ev15b nm v ks A c hl B _ c2 D _ c3 w hC hn y ⟨P0⟩ z ⟨P1⟩ (decide_eq_false h) (decide_eq_false g) _ (fun e => if_pos (.inl (hy.nz (eq_of_beq e)))) (fun _ e => if_pos (.inr (hz.nz (eq_of_beq e)))) _ (refCmp_eq 0 _ _ _ _ _ _) (fun e1 e2 => if_neg (fun h => h.elim (fun q => absurd e1 (by rw [q]; decide)) (fun q => absurd e2 (by rw [q]; decide))))
 ·have hn : ks.length = 1 := by have : arT.getD (16 : Int).toNat 0 = 1 := rfl; omega
  have P0 := part 0 (by omega)
  have T0 := typ 0 (by omega)
  have I0 := okk 0 (by omega)
  clear part typ okk ih
  generalize (ks.map (worthE l row)).getD 0 (nullV, 0) = a at *
  generalize (ks.map (worthE l row)).getD 1 (nullV, 0) = b at *
  generalize (ks.map (worthE l row)).getD 2 (nullV, 0) = d at *
  generalize (ks.map (fun k => (kindE l k).1)).getD 0 0 = κ0 at *
  generalize (ks.map (fun k => (kindE l k).1)).getD 1 0 = κ1 at *
  generalize (ks.map (fun k => (kindE l k).1)).getD 2 0 = κ2 at *
  have h0 : κ0 = 2 := by have hk : (if κ0 = 2 then ((2, 0) : Int × Int) else (0, 133)).2 = 0 := hk; split at hk; assumption; cases hk
  subst h0
  rcases T0.split with ⟨er, her, rfl⟩ | ⟨y, rfl, hy⟩
  ·rw [show worthO l row 16 nm v (nullV, er) b d = (nullV, er) from worthO_err (by decide) (by decide) (by decide) her]
   exact everr nm v ks A c hl B _ c2 D _ c3 w hC (by omega) 16 rfl rfl rfl er (bne_iff_ne.2 her) ⟨P0⟩
  ·rcases hy.bools with rfl | rfl | rfl
   ·exact ev16n nm v ks A c hl B _ c2 D _ c3 w hC hn nullV ⟨P0⟩ rfl
   ·rw [show worthO l row 16 nm v (boolV true, 0) b d = (boolV ((boolV true).f1 == 0), 0) from by show bindW (boolV true, 0) (fun x => if x = nullV then (x, 0) else (⟨x.f0, wrap64 (1 - x.f1), x.f2⟩, 0)) = _; decide +kernel]; exact ev16b nm v ks A c hl B _ c2 D _ c3 w hC hn (boolV true) ⟨P0⟩ rfl
   ·rw [show worthO l row 16 nm v (boolV false, 0) b d = (boolV ((boolV false).f1 == 0), 0) from by show bindW (boolV false, 0) (fun x => if x = nullV then (x, 0) else (⟨x.f0, wrap64 (1 - x.f1), x.f2⟩, 0)) = _; decide +kernel]; exact ev16b nm v ks A c hl B _ c2 D _ c3 w hC hn (boolV false) ⟨P0⟩ rfl
 ·have hn : ks.length = 1 := by have : arT.getD (17 : Int).toNat 0 = 1 := rfl; omega
  have P0 := part 0 (by omega)
  have T0 := typ 0 (by omega)
  have I0 := okk 0 (by omega)
  clear part typ okk ih
  generalize (ks.map (worthE l row)).getD 0 (nullV, 0) = a at *
  generalize (ks.map (worthE l row)).getD 1 (nullV, 0) = b at *
  generalize (ks.map (worthE l row)).getD 2 (nullV, 0) = d at *
  generalize (ks.map (fun k => (kindE l k).1)).getD 0 0 = κ0 at *
  generalize (ks.map (fun k => (kindE l k).1)).getD 1 0 = κ1 at *
  generalize (ks.map (fun k => (kindE l k).1)).getD 2 0 = κ2 at *
  rcases T0.split with ⟨er, her, rfl⟩ | ⟨y, rfl, hy⟩
  ·rw [show worthO l row 17 nm v (nullV, er) b d = (nullV, er) from worthO_err (by decide) (by decide) (by decide) her]
   exact everr nm v ks A c hl B _ c2 D _ c3 w hC (by omega) 17 rfl rfl rfl er (bne_iff_ne.2 her) ⟨P0⟩
  ·rw [show worthO l row 17 nm v (y, 0) b d = (boolV (y.f0 == 0), 0) from by
    show (boolV (decide (y = nullV)), (0 : Int)) = _
    rw [hy.nul]]
   exact ev17 nm v ks A c hl B _ c2 D _ c3 w hC hn y ⟨P0⟩
 ·have hn : ks.length = 3 := by have : arT.getD (18 : Int).toNat 0 = 3 := rfl; omega
  have P0 := part 0 (by omega)
  have T0 := typ 0 (by omega)
  have I0 := okk 0 (by omega)
  have P1 := part 1 (by omega)
  have T1 := typ 1 (by omega)
  have I1 := okk 1 (by omega)
  have P2 := part 2 (by omega)
  have T2 := typ 2 (by omega)
  clear part typ okk ih
  generalize (ks.map (worthE l row)).getD 0 (nullV, 0) = a at *
  generalize (ks.map (worthE l row)).getD 1 (nullV, 0) = b at *
  generalize (ks.map (worthE l row)).getD 2 (nullV, 0) = d at *
  generalize (ks.map (fun k => (kindE l k).1)).getD 0 0 = κ0 at *
  generalize (ks.map (fun k => (kindE l k).1)).getD 1 0 = κ1 at *
  generalize (ks.map (fun k => (kindE l k).1)).getD 2 0 = κ2 at *
  have h0 : κ0 = 2 := by have hk : (if κ0 = 2 ∧ κ1 = κ2 then ((κ1, 0) : Int × Int) else (0, 133)).2 = 0 := hk; split at hk; exact (‹_ ∧ _›).1; cases hk
  subst h0
  rcases T0.split with ⟨er, her, rfl⟩ | ⟨y, rfl, hy⟩
  ·rw [show worthO l row 18 nm v (nullV, er) b d = (nullV, er) from worthO_err (by decide) (by decide) (by decide) her]
   exact everr nm v ks A c hl B _ c2 D _ c3 w hC (by omega) 18 rfl rfl rfl er (bne_iff_ne.2 her) ⟨P0⟩
  ·rw [show worthO l row 18 nm v (y, 0) b d = if y = boolV true then b else d from rfl]
   by_cases h : y = boolV true
   ·rw [if_pos h]; exact ev18t nm v ks A c hl B _ c2 D _ c3 w hC hn y b ⟨P0⟩ ⟨P1⟩ (decide_eq_true h)
   ·rw [if_neg h]; exact ev18f nm v ks A c hl B _ c2 D _ c3 w hC hn y d ⟨P0⟩ ⟨P2⟩ (decide_eq_false h)
 ·have hn : ks.length = 2 := by have : arT.getD (19 : Int).toNat 0 = 2 := rfl; omega
  have P0 := part 0 (by omega)
  have T0 := typ 0 (by omega)
  have I0 := okk 0 (by omega)
  have P1 := part 1 (by omega)
  have T1 := typ 1 (by omega)
  have I1 := okk 1 (by omega)
  clear part typ okk ih
  generalize (ks.map (worthE l row)).getD 0 (nullV, 0) = a at *
  generalize (ks.map (worthE l row)).getD 1 (nullV, 0) = b at *
  generalize (ks.map (worthE l row)).getD 2 (nullV, 0) = d at *
  generalize (ks.map (fun k => (kindE l k).1)).getD 0 0 = κ0 at *
  generalize (ks.map (fun k => (kindE l k).1)).getD 1 0 = κ1 at *
  generalize (ks.map (fun k => (kindE l k).1)).getD 2 0 = κ2 at *
  rcases T0.split with ⟨er, her, rfl⟩ | ⟨y, rfl, hy⟩
  ·rw [show worthO l row 19 nm v (nullV, er) b d = (nullV, er) from worthO_err (by decide) (by decide) (by decide) her]
   exact everr nm v ks A c hl B _ c2 D _ c3 w hC (by omega) 19 rfl rfl rfl er (bne_iff_ne.2 her) ⟨P0⟩
  ·rw [show worthO l row 19 nm v (y, 0) b d = if y = nullV then b else (y, 0) from rfl]
   by_cases h : y = nullV
   ·rw [if_pos h]; subst h; exact ev19n nm v ks A c hl B _ c2 D _ c3 w hC hn nullV b ⟨P0⟩ ⟨P1⟩ rfl
   ·rw [if_neg h]; exact ev19t nm v ks A c hl B _ c2 D _ c3 w hC hn y ⟨P0⟩ (by have := hy.nulf h; rw [bne, this]; rfl)
 ·have hn : ks.length = 1 := by have : arT.getD (20 : Int).toNat 0 = 1 := rfl; omega
  have P0 := part 0 (by omega)
  have T0 := typ 0 (by omega)
  have I0 := okk 0 (by omega)
  clear part typ okk ih
  generalize (ks.map (worthE l row)).getD 0 (nullV, 0) = a at *
  generalize (ks.map (worthE l row)).getD 1 (nullV, 0) = b at *
  generalize (ks.map (worthE l row)).getD 2 (nullV, 0) = d at *
  generalize (ks.map (fun k => (kindE l k).1)).getD 0 0 = κ0 at *
  generalize (ks.map (fun k => (kindE l k).1)).getD 1 0 = κ1 at *
  generalize (ks.map (fun k => (kindE l k).1)).getD 2 0 = κ2 at *
  rcases T0.split with ⟨er, her, rfl⟩ | ⟨y, rfl, hy⟩
  ·rw [show worthO l row 20 nm v (nullV, er) b d = (nullV, er) from worthO_err (by decide) (by decide) (by decide) her]
   exact everr nm v ks A c hl B _ c2 D _ c3 w hC (by omega) 20 rfl rfl rfl er (bne_iff_ne.2 her) ⟨P0⟩
  ·rw [show worthO l row 20 nm v (y, 0) b d = if y = nullV then (nullV, 0) else (intV y.f2.size, 0) from rfl]
   by_cases h : y = nullV
   ·rw [if_pos h]; subst h; exact ev20n nm v ks A c hl B _ c2 D _ c3 w hC hn nullV ⟨P0⟩ rfl
   ·rw [if_neg h]; exact ev20t nm v ks A c hl B _ c2 D _ c3 w hC hn y ⟨P0⟩ (hy.nulf h)
end Go.Proofs.YtopolnbffmljaaaDoor.Q
