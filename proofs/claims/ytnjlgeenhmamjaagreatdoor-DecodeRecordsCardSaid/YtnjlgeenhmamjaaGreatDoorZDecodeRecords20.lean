/- The law DecodeRecords: walked. -/
import Derived.Test.YtnjlgeenhmamjaaGreatDoorZDecodeRecords15
import Derived.Test.YtnjlgeenhmamjaaGreatDoorZDecodeRecords19
import Derived.Test.YtnjlgeenhmamjaaGreatDoorZDecodeRecords18
namespace Go.Proofs.YtnjlgeenhmamjaaGreatDoor.Q
open Go.RowKit Go.Proofs.YtnjlgeenhmamjaaGreatDoorW.PrintWords Go.Proofs.YtnjlgeenhmamjaaGreatDoorW.PrintLast Go.Proofs.YtnjlgeenhmamjaaGreatDoorW.PrintMore
set_option linter.unusedVariables false
set_option linter.unusedSimpArgs false
theorem bigR_l0 (l : List Va) (hl : l.length ≤ 140737488355328) : ∀ n i : Nat, i + n = l.length → ∃ b, Ev (fun k => headgateref03_Big.l0 k l i) b
  | 0, i, h => ⟨false, Ev.const fun k => by
    simp only [headgateref03_Big.l0]
    rw [if_neg (by omega)]⟩
  | n + 1, i, h => by
    obtain ⟨b, ih⟩ := bigR_l0 l hl n (i + 1) (by omega)
    by_cases he : ((rd_T41 l (i : Int)).f2.size : Int) > 600
    · exact ⟨true, Ev.const fun k => by
        simp only [headgateref03_Big.l0]
        rw [if_pos (by omega), if_pos (by omega), if_pos he]⟩
    · refine ⟨b, Ev.step ih fun k => ?_⟩
      simp only [headgateref03_Big.l0]
      rw [if_pos (by omega), if_pos (by omega), if_neg he, w64n i (by omega)]
theorem bigR_ev (l : List Va) (hl : l.length ≤ 140737488355328) : ∃ b, Ev (fun k => headgateref03_Big.f k l) b ∧ (b = false → l.length ≤ 40) := by
  by_cases h : (l.length : Int) > 40
  · exact ⟨true, Ev.const' fun k => by unfold headgateref03_Big.f; rw [if_pos h], fun e => by cases e⟩
  · obtain ⟨b, h1⟩ := bigR_l0 l hl l.length 0 (by omega)
    exact ⟨b, h1.same fun k => by unfold headgateref03_Big.f; rw [if_neg h]; rfl, fun e => by omega⟩
set_option maxHeartbeats 8000000 in
set_option maxRecDepth 100000 in
theorem records_walk (A : Option Addr) (c : Nat) (l : List Co) (B : Option Addr) (d : Nat) (vs : List Va) (hl : l.length ≤ 140737488355328) (hv : vs.length ≤ 140737488355328) (h64 : ∀ v ∈ vs, in64 v.f1) (w : World) (hG : Glob w)
    (hC : Kd.C k39 w A l.length l) (hc : l.length ≤ c) (hD : Kd.C k41 w B vs.length vs) (hd : vs.length ≤ d) :
    Calls Tryz.prog 3 #[.slice A l.length c, .slice B vs.length d] w fun e w' => e = .returned (.bool true) ∧ Below w.heap.size w w' := by
  obtain ⟨b, hbe, hb⟩ := big_ev l hl
  obtain ⟨KB, hKB⟩ := hbe.get
  obtain ⟨b2, hbe2, hb2⟩ := bigR_ev vs hv
  obtain ⟨KB2, hKB2⟩ := hbe2.get
  have HC := Aside0.mk hC
  have HD := Aside0.mk hD
  have HG := Aside0.mk hG
  have HAl := Aside0.mk (alive_calls w hG)
  have HBig := Aside0.mk (fun W hW => headgateref12_Big.calls KB A c l b W (Kd.C_below hC hW) hc hKB)
  have HBig2 := Aside0.mk (fun W hW => headgateref03_Big.calls KB2 B d vs b2 W (Kd.C_below hD hW) hd hKB2)
  clear hC hG hD hbe hKB hbe2 hKB2
  by_cases hbb : b = false ∧ b2 = false
  · obtain ⟨rfl, rfl⟩ := hbb
    obtain ⟨hl40, hn⟩ := hb rfl
    have hv40 := hb2 rfl
    clear hb hb2
    have hn2 : ∀ c ∈ l, c.f0.size ≤ 140737488355328 := fun c hc => Nat.le_trans (hn c hc) (by decide)
    obtain ⟨KC, hKC⟩ := (check_ev l hl hn2).get
    obtain ⟨KR, hKR⟩ := (refRecord_ev l hl hn2 vs (by omega) h64).get
    have hrec : ∀ W, Below w.heap.size w W → Calls Tryz.prog 8 #[.slice A l.length c, .slice B vs.length d] W (RecPost (recR (if rightS l = true then 0 else 120) l vs) W) := fun W hW =>
      rec_walk KC A c l _ hKC B d vs h64 (by omega) W (HG.out.below hW) (Kd.C_below HC.out hW) hc (Kd.C_below HD.out hW) hd
    generalize hRR : recR (if rightS l = true then 0 else 120) l vs = R at hKR hrec
    obtain ⟨J, er⟩ := R
    simp only at hKR
    have HRec := Aside0.mk hrec
    have HRef := Aside0.mk (fun W hW => headgateref12_Record.calls KR A c l B d vs (strOfNums J) er W (Kd.C_below HC.out hW) hc (Kd.C_below HD.out hW) hd hKR)
    have cvb : ∀ (A1 : Option Addr) (c1 : Nat) W, Kd.C (Kd.int .u8) W A1 J.length J → (convert 27 9 (.slice A1 J.length c1)).run Tryz.prog W = .ok (.string (strOfNums J)) W := fun A1 c1 W hW => Kd.C_string (P := Tryz.prog) (c := c1) Tryz.underlying27 Tryz.underlying5 Tryz.underlying9 hW
    have HCV := Aside0.mk cvb
    have hee : (er == er) = true := beq_self_eq_true _
    generalize strOfNums J = JS at HRef HCV
    have hjj : (JS.toList == JS.toList) = true := beq_self_eq_true _
    clear hKC hKR hrec hn hn2 hl hv hl40 hv40 hRR cvb h64
    go_enter Tryz.func3, Tryz.ntmps3
    go_wp2_with (first
      | (go_at_call 5; refine HAl.out.mono ?_; rintro e w1 ⟨rfl, hb1⟩; have HB1 := Aside0.mk hb1; clear hb1)
      | (go_at_call 6; refine (HBig.out _ HB1.out).mono ?_; rintro e w2 ⟨rfl, hb2⟩; have HB2 := Aside0.mk (below_step HB1.out hb2.below); clear hb2)
      | (go_at_call 7; refine (HBig2.out _ HB2.out).mono ?_; rintro e w2b ⟨rfl, hb2⟩; have HB2b := Aside0.mk (below_step HB2.out hb2.below); clear hb2)
      | (go_at_call 8; refine (HRec.out _ HB2b.out).mono ?_; rintro e w3 ⟨A3, c3, rfl, hC3, hc3, hb3⟩; have HC3 := Aside0.mk hC3; have HB3 := Aside0.mk (below_step HB2b.out hb3); clear hC3 hb3)
      | (go_at_call 9; refine (HRef.out _ HB3.out).mono ?_; rintro e w4 ⟨rfl, hb4⟩; have HB4 := Aside0.mk (below_step HB3.out hb4); have cv4 := HCV.out A3 c3 w4 (Kd.C_below HC3.out hb4); clear hb4))
    first | exact ⟨rfl, HB4.out⟩ | (go_ret; exact ⟨rfl, HB4.out⟩)
  · clear hb hb2
    cases b with
    | true =>
      clear hbb
      go_enter Tryz.func3, Tryz.ntmps3
      go_wp2_with (first
        | (go_at_call 5; refine HAl.out.mono ?_; rintro e w1 ⟨rfl, hb1⟩; have HB1 := Aside0.mk hb1; clear hb1)
        | (go_at_call 6; refine (HBig.out _ HB1.out).mono ?_; rintro e w2 ⟨rfl, hb2⟩; have HB2 := Aside0.mk (below_step HB1.out hb2.below); clear hb2))
      first | exact ⟨rfl, HB2.out⟩ | (go_ret; exact ⟨rfl, HB2.out⟩)
    | false =>
      cases b2 with
      | false => exact absurd ⟨rfl, rfl⟩ hbb
      | true =>
        clear hbb
        go_enter Tryz.func3, Tryz.ntmps3
        go_wp2_with (first
          | (go_at_call 5; refine HAl.out.mono ?_; rintro e w1 ⟨rfl, hb1⟩; have HB1 := Aside0.mk hb1; clear hb1)
          | (go_at_call 6; refine (HBig.out _ HB1.out).mono ?_; rintro e w2 ⟨rfl, hb2⟩; have HB2 := Aside0.mk (below_step HB1.out hb2.below); clear hb2)
          | (go_at_call 7; refine (HBig2.out _ HB2.out).mono ?_; rintro e w2b ⟨rfl, hb2⟩; have HB2b := Aside0.mk (below_step HB2.out hb2.below); clear hb2))
        first | exact ⟨rfl, HB2b.out⟩ | (go_ret; exact ⟨rfl, HB2b.out⟩)
def headgatelaw12_DecodeRecords.f (k : Nat) (l0 : List Co) (l1 : List Va) : Option Bool := if l0.length ≤ 140737488355328 ∧ l1.length ≤ 140737488355328 ∧ ∀ v ∈ l1, in64 v.f1 then some true else none
theorem headgatelaw12_DecodeRecords.calls (k : Nat) (A0 : Option Addr) (c0 : Nat) (l0 : List Co) (A1 : Option Addr) (c1 : Nat) (l1 : List Va) (r : Bool) (w : World) (hG : Glob w) (hr0 : Kd.C k39 w A0 l0.length l0) (hc0 : l0.length ≤ c0) (hr1 : Kd.C k41 w A1 l1.length l1) (hc1 : l1.length ≤ c1) (h : headgatelaw12_DecodeRecords.f k l0 l1 = some r) :
    Calls Tryz.prog 3 #[.slice A0 l0.length c0, .slice A1 l1.length c1] w fun e w' => e = .returned (.bool r) ∧ Below w.heap.size w w' := by
  unfold headgatelaw12_DecodeRecords.f at h
  split at h
  · rename_i hl
    obtain rfl : true = r := Option.some.inj h
    exact records_walk A0 c0 l0 A1 c1 l1 hl.1 hl.2.1 hl.2.2 w hG hr0 hc0 hr1 hc1
  · cases h
theorem DecodeRecords_pure (l0 : List Co) (l1 : List Va) (h0 : l0.length * 24 ≤ 140737488351232 ∧ ∀ y ∈ l0, (y.f0.size ≤ 140737488351232) ∧ ((Lit.int .i64 y.f1).wf = true))
    (h1 : l1.length * 32 ≤ 140737488351232 ∧ ∀ z ∈ l1, ((Lit.int .i64 z.f0).wf = true) ∧ ((Lit.int .i64 z.f1).wf = true) ∧ (z.f2.size ≤ 140737488351232)) : ∃ k, headgatelaw12_DecodeRecords.f k l0 l1 = some true :=
  ⟨0, if_pos ⟨by omega, by omega, fun v hv => wf64 (h1.2 v hv).2.1⟩⟩
end Go.Proofs.YtnjlgeenhmamjaaGreatDoor.Q
