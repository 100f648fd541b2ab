/- The law DecodeRecords: walked. -/
import Derived.Test.YtnjlgeenhmamjaaGreatDoorZDecodeBack14
import Derived.Test.YtnjlgeenhmamjaaGreatDoorZDecodeBack18
import Derived.Test.YtnjlgeenhmamjaaGreatDoorZDecodeBack17
import Derived.Test.YtnjlgeenhmamjaaGreatDoorZDecodeBack13
namespace Go.Proofs.YtnjlgeenhmamjaaGreatDoor.Q
open Go.RowKit Go.Proofs.YtnjlgeenhmamjaaGreatDoorW.PrintWords Go.Proofs.YtnjlgeenhmamjaaGreatDoorW.PrintLast Go.Proofs.YtnjlgeenhmamjaaGreatDoorW.PrintMore
set_option linter.unusedVariables false
set_option linter.unusedSimpArgs false
theorem bigR_l0 (l : List Va) (hl : l.length ≤ 140737488355328) : ∀ n i : Nat, i + n = l.length → ∃ b, Ev (fun k => headgateref03_Big.l0 k l i) b
  | 0, i, h => ⟨false, Ev.const fun k => by
    simp only [headgateref03_Big.l0]
    rw [if_neg (by omega)]⟩
  | n + 1, i, h => by
    obtain ⟨b, ih⟩ := bigR_l0 l hl n (i + 1) (by omega)
    by_cases he : ((rd_T41 l (i : Int)).f2.size : Int) > 600
    · exact ⟨true, Ev.const fun k => by
        simp only [headgateref03_Big.l0]
        rw [if_pos (by omega), if_pos (by omega), if_pos he]⟩
    · refine ⟨b, Ev.step ih fun k => ?_⟩
      simp only [headgateref03_Big.l0]
      rw [if_pos (by omega), if_pos (by omega), if_neg he, w64n i (by omega)]
theorem bigR_ev (l : List Va) (hl : l.length ≤ 140737488355328) : ∃ b, Ev (fun k => headgateref03_Big.f k l) b ∧ (b = false → l.length ≤ 40) := by
  by_cases h : (l.length : Int) > 40
  · exact ⟨true, Ev.const' fun k => by unfold headgateref03_Big.f; rw [if_pos h], fun e => by cases e⟩
  · obtain ⟨b, h1⟩ := bigR_l0 l hl l.length 0 (by omega)
    exact ⟨b, h1.same fun k => by unfold headgateref03_Big.f; rw [if_neg h]; rfl, fun e => by omega⟩
end Go.Proofs.YtnjlgeenhmamjaaGreatDoor.Q
/- The law DecodeBack: walked. -/
namespace Go.Proofs.YtnjlgeenhmamjaaGreatDoor.Q
open Go.RowKit Go.Proofs.YtnjlgeenhmamjaaGreatDoorW.PrintWords Go.Proofs.YtnjlgeenhmamjaaGreatDoorW.PrintLast Go.Proofs.YtnjlgeenhmamjaaGreatDoorW.PrintMore
set_option linter.unusedVariables false
set_option linter.unusedSimpArgs false
theorem allC_kind (l : List Co) : ∀ (n i : Nat), i + n = l.length → allC l n i = true → ∀ c ∈ l.drop i, 1 ≤ c.f1 ∧ c.f1 ≤ 3
  | 0, i, h, _, c, hc => by rw [List.drop_of_length_le (by omega)] at hc; cases hc
  | n + 1, i, h, ha, c, hc => by
    have e : allC l (n + 1) i = (colS l i && allC l n (i + 1)) := rfl
    rw [e, Bool.and_eq_true] at ha
    rw [co_drop l i (by omega)] at hc
    rcases List.mem_cons.1 hc with rfl | hc
    · have hk := ha.1
      unfold colS kindS at hk
      simp only [Bool.and_eq_true, decide_eq_true_eq] at hk
      exact hk.2
    · exact allC_kind l n (i + 1) (by omega) ha.2 c hc
theorem right_parts (l : List Co) (h : rightS l = true) : l.length ≠ 0 ∧ l.length ≤ 12 ∧ ∀ c ∈ l, 1 ≤ c.f1 ∧ c.f1 ≤ 3 := by
  unfold rightS at h
  rw [Bool.and_eq_true, Bool.and_eq_true] at h
  exact ⟨of_decide_eq_true h.1.1, of_decide_eq_true h.1.2, fun c hc => allC_kind l l.length 0 (by omega) h.2 c (by rw [List.drop_zero]; exact hc)⟩
theorem backA (l : List Co) (vs : List Va) (h64 : ∀ v ∈ vs, in64 v.f1) (h : (recR (if rightS l = true then 0 else 120) l vs).2 = 0) :
    ∃ s1, (recR (if rightS l = true then 0 else 120) l vs).1 = bytesOf s1 ∧ s1.size ≤ 8000 ∧ rowR plO (if rightS l = true then 0 else 120) l s1 = (vs, 0) := by
  cases hr : rightS l with
  | false =>
    rw [hr] at h
    exact absurd h (by show ¬ (120 : Int) = 0; decide)
  | true =>
    obtain ⟨h1, h2, h3⟩ := right_parts l hr
    rw [hr] at h
    rw [if_pos rfl] at h ⊢
    unfold recR at h ⊢
    rw [if_neg (by decide)] at h ⊢
    by_cases hl : vs.length = l.length
    · rw [if_neg (fun e => e hl)] at h ⊢
      cases hrec : recL l vs with
      | none => rw [hrec] at h; exact absurd h (by show ¬ (122 : Int) = 0; decide)
      | some fs =>
        refine ⟨joinB fs, rfl, ?_, rec_row l h1 vs h64 fs hl hrec⟩
        have hs := recL_size l vs fs h64 hrec
        have := joinB_size fs 12 (by omega) hs.2
        show (Lib.join (fs.map (·.data.toList)) [44]).toArray.size ≤ _
        rw [List.size_toArray]
        omega
    · rw [if_pos hl] at h
      exact absurd h (by show ¬ (121 : Int) = 0; decide)
theorem backB (l : List Co) (s : ByteArray) (r : Int) (h : (rowR plO r l s).2 ≠ 0) : (rowR plO r l s).1 = [] := by
  unfold rowR at h ⊢
  split
  · rfl
  · split
    · rfl
    · rename_i h1 h2
      rw [if_neg h1, if_neg h2] at h
      split
      · rfl
      · rename_i us hv
        rw [hv] at h
        exact absurd rfl h
theorem backC (l : List Co) (s : ByteArray) (h : (rowR plO (if rightS l = true then 0 else 120) l s).2 = 0) :
    recR (if rightS l = true then 0 else 120) l (rowR plO (if rightS l = true then 0 else 120) l s).1 = (bytesOf s, 0) ∧ (rowR plO (if rightS l = true then 0 else 120) l s).1.length ≤ 1000 ∧ ∀ v ∈ (rowR plO (if rightS l = true then 0 else 120) l s).1, in64 v.f1 := by
  cases hr : rightS l with
  | false =>
    rw [hr] at h
    exact absurd h (by show ¬ (120 : Int) = 0; decide)
  | true =>
    obtain ⟨h1, h2, h3⟩ := right_parts l hr
    rw [hr] at h
    rw [if_pos rfl] at h ⊢
    obtain ⟨e1, e2, e3⟩ := row_rec l h3 s (rowR plO 0 l s).1 (Prod.ext rfl h)
    exact ⟨e1, by omega, e3⟩
theorem bl_self : ∀ l : List UInt8, Op.bytesLess l l = false
  | [] => rfl
  | c :: r => by
    have := bl_self r
    simp [Op.bytesLess, this]
theorem cmp_self (a b : Int) (c : ByteArray) : Ev (fun k => headgateref03_Cmp.f k a b c a b c) 0 := by
  refine Ev.const (f := fun k => headgateref03_Cmp.f k a b c a b c) fun k => ?_
  unfold headgateref03_Cmp.f
  rw [if_neg (Int.lt_irrefl a), if_pos rfl, if_neg (Int.lt_irrefl b), if_pos rfl, bl_self]
  simp only [headgateref03_Cmp.j0]
  rw [if_neg Bool.false_ne_true, if_pos (by simp)]
theorem cmpRow_self (l : List Va) (hl : l.length ≤ 100000) : ∀ (n i : Nat), i + n = l.length → Ev (fun k => headgateref03_CmpRow.l0 k l l i) 0
  | 0, i, h => Ev.const fun k => by
    simp only [headgateref03_CmpRow.l0]
    rw [if_neg (by omega), if_neg (by omega)]
  | n + 1, i, h => by
    refine Ev.bind1 (cmp_self (rd_T41 l (i : Int)).f0 (rd_T41 l (i : Int)).f1 (rd_T41 l (i : Int)).f2) (h := fun k t => if t = 0 then headgateref03_CmpRow.l0 k l l (wrap64 (i + 1)) else some t) ?_ fun k => ?_
    · refine (cmpRow_self l hl n (i + 1) (by omega)).same fun k => ?_
      rw [if_pos rfl, w64n i (by omega)]
    · simp only [headgateref03_CmpRow.l0]
      rw [if_pos (by omega), if_neg (by omega), if_pos (by omega), if_pos (by omega)]
theorem same_self (l : List Va) (hl : l.length ≤ 100000) : Ev (fun k => headgateref03_Same.f k l l) true := by
  refine Ev.bind ((cmpRow_self l hl l.length 0 (by omega)).same (f := fun k => headgateref03_CmpRow.f k l l) fun k => rfl) (h := fun k t => some (t == 0)) (Ev.const' fun k => rfl) fun k => ?_
  unfold headgateref03_Same.f
  rw [if_pos rfl]
set_option maxHeartbeats 16000000 in
set_option maxRecDepth 100000 in
theorem back_walk (A : Option Addr) (c : Nat) (l : List Co) (B : Option Addr) (d : Nat) (vs : List Va) (s : ByteArray) (hl : l.length ≤ 140737488355328) (hv : vs.length ≤ 140737488355328) (h64 : ∀ v ∈ vs, in64 v.f1) (w : World) (hG : Glob w)
    (hC : Kd.C k39 w A l.length l) (hc : l.length ≤ c) (hD : Kd.C k41 w B vs.length vs) (hd : vs.length ≤ d) :
    Calls Tryz.prog 4 #[.slice A l.length c, .slice B vs.length d, .string s] w fun e w' => e = .returned (.bool true) ∧ Below w.heap.size w w' := by
  obtain ⟨b, hbe, hb⟩ := big_ev l hl
  obtain ⟨KB, hKB⟩ := hbe.get
  obtain ⟨b2, hbe2, hb2⟩ := bigR_ev vs hv
  obtain ⟨KB2, hKB2⟩ := hbe2.get
  have HC := Aside0.mk hC
  have HD := Aside0.mk hD
  have HG := Aside0.mk hG
  have HAl := Aside0.mk (alive_calls w hG)
  have HBig := Aside0.mk (fun W hW => headgateref12_Big.calls KB A c l b W (Kd.C_below hC hW) hc hKB)
  have HBig2 := Aside0.mk (fun W hW => headgateref03_Big.calls KB2 B d vs b2 W (Kd.C_below hD hW) hd hKB2)
  clear hC hG hD hbe hKB hbe2 hKB2
  by_cases hbb : b = false ∧ b2 = false ∧ s.size ≤ 4000
  · obtain ⟨rfl, rfl, hs⟩ := hbb
    obtain ⟨hl40, hn⟩ := hb rfl
    have hv40 := hb2 rfl
    clear hb hb2
    have hs1 : decide (4000 < (s.size : Int)) = false := decide_eq_false (by omega)
    have hs2 : decide (4000 < s.size) = false := decide_eq_false (by omega)
    have hn2 : ∀ c ∈ l, c.f0.size ≤ 140737488355328 := fun c hc => Nat.le_trans (hn c hc) (by decide)
    obtain ⟨KC, hKC⟩ := (check_ev l hl hn2).get
    have hA := backA l vs h64
    have hB := backB l s (if rightS l = true then 0 else 120)
    have hCC := backC l s
    generalize (if rightS l = true then (0 : Int) else 120) = r0 at hKC hA hB hCC
    have hrec : ∀ (B d) (us : List Va), (∀ v ∈ us, in64 v.f1) → us.length ≤ 1000 → us.length ≤ d → ∀ W, Below w.heap.size w W → Kd.C k41 W B us.length us → Calls Tryz.prog 8 #[.slice A l.length c, .slice B us.length d] W (RecPost (recR r0 l us) W) := fun B d us h1 h2 h3 W hW h4 =>
      rec_walk KC A c l r0 hKC B d us h1 h2 W (HG.out.below hW) (Kd.C_below HC.out hW) hc h4 h3
    have hrow : ∀ (B d) (t : ByteArray), t.size ≤ 8000 → ∀ W, Below w.heap.size w W → Kd.C (Kd.int .u8) W B (bytesOf t).length (bytesOf t) → Calls Tryz.prog 10 #[.slice A l.length c, .slice B t.size d] W (RowPost (rowR plO r0 l t) W) := fun B d t h1 W hW h2 =>
      row_walk plO plain_ev KC A c l r0 hKC B d t h1 W (HG.out.below hW) (Kd.C_below HC.out hW) hc h2
    have HRec := Aside0.mk hrec
    have HRow := Aside0.mk hrow
    have HRec1 := Aside0.mk (fun W hW => hrec B d vs h64 (by omega) hd W hW (Kd.C_below HD.out hW))
    obtain ⟨KS, hKS⟩ := (same_self vs (by omega)).get
    have HSame := Aside0.mk (fun (A1 : Option Addr) (c1 : Nat) W h1 h2 h3 => headgateref03_Same.calls KS A1 c1 vs B d vs true W h1 h2 h3 hd hKS)
    have HSZ : Aside0 (s.size ≤ 8000) := ⟨by omega⟩
    have kb := fun W => print_bytes (P := Tryz.prog) 9 27 5 Tryz.underlying9 Tryz.underlying27 Tryz.underlying5 s W
    have HA := Aside0.mk hA
    have HB0 := Aside0.mk hB
    have HCC := Aside0.mk hCC
    clear hKC hrec hrow hn hn2 hl hv hl40 hv40 h64 hs hKS hA hB hCC
    generalize hR1 : recR r0 l vs = R1 at HRec1 HA
    generalize hR2 : rowR plO r0 l s = R2 at HB0 HCC
    have HR2 := Aside0.mk hR2
    obtain ⟨J1, e1⟩ := R1
    obtain ⟨us, e2⟩ := R2
    clear hR1 hR2
    simp only at HA HB0 HCC
    go_enter Tryz.func4, Tryz.ntmps4
    go_upto_region 6 with (first
      | (go_at_call 5; refine HAl.out.mono ?_; rintro e w1 ⟨rfl, hb1⟩; have HB1 := Aside0.mk hb1; clear hb1)
      | (go_at_call 6; refine (HBig.out _ HB1.out).mono ?_; rintro e w2 ⟨rfl, hb2⟩; have HB2 := Aside0.mk (below_step HB1.out hb2.below); clear hb2)
      | (go_at_call 7; refine (HBig2.out _ HB2.out).mono ?_; rintro e w2b ⟨rfl, hb2⟩; have HB2b := Aside0.mk (below_step HB2.out hb2.below); clear hb2)
      | (go_at_call 8; refine (HRec1.out _ HB2b.out).mono ?_; rintro e w3 ⟨A3, c3, rfl, hC3, hc3, hb3⟩; have HC3 := Aside0.mk hC3; have HB3 := Aside0.mk (below_step HB2b.out hb3); clear hC3 hb3))
    go_upto_if 35 with (fail)
    go_cut [8] (fun v8 wc => v8 = .int .i64 e1 ∧ Aside0 (Below w.heap.size w wc))
    case first =>
      clear HRec HRec1 HB0 HCC HR2 kb
      by_cases h1 : e1 = 0
      · subst h1
        obtain ⟨s1, rfl, hs1b, hrw⟩ := HA.out rfl
        have hrowc : Calls Tryz.prog 10 #[.slice A l.length c, .slice A3 (bytesOf s1).length c3] w3 (RowPost (vs, 0) w3) := by
          have h := HRow.out A3 c3 s1 hs1b w3 HB3.out HC3.out
          rw [hrw] at h
          rw [bytesOf_length]
          exact h
        clear hs1b hrw HRow HA
        go_wp2_with (first
          | (go_at_call 10; refine hrowc.mono ?_; rintro e w4 ⟨A4, c4, rfl, hC4, hc4, hb4⟩; have HB4 := Aside0.mk (below_step HB3.out hb4); have hsame := HSame.out A4 c4 w4 hC4 hc4 (Kd.C_below HD.out HB4.out); clear hC4 hb4 hrowc)
          | (go_at_call 11; refine hsame.mono ?_; rintro e w5 ⟨rfl, hb5⟩; have HB5 := Aside0.mk (below_step HB4.out hb5); clear hb5 hsame))
        go_meet
        case rel => exact ⟨rfl, HB5⟩
      · have h1b : (e1 == 0) = false := beq_eq_false_iff_ne.2 h1
        clear h1
        go_wp2
        go_meet
        case rel => exact ⟨rfl, HB3⟩
    case rest =>
      obtain ⟨rfl, HB4⟩ := hcut
      clear HB1 HB2 HB2b HB3 HC3 HA HRec1 HSame
      have HBW : Aside0 (Below w.heap.size w (Lib.bytesWorld wc 5 s)) := ⟨bytes_below HB4.out HB4.out.size _ _⟩
      have hCb : Kd.C (Kd.int .u8) (Lib.bytesWorld wc 5 s) (some ⟨wc.heap.size, 0, none⟩) s.size (bytesOf s) := Kd.C_of_reads (bytes_reads wc 5 s (by have := HSZ.out; omega))
      have hrow2 := HRow.out (some ⟨wc.heap.size, 0, none⟩) (grownCap wc s.size 0 5) s HSZ.out (Lib.bytesWorld wc 5 s) HBW.out (by rw [bytesOf_length]; exact hCb)
      rw [HR2.out] at hrow2
      clear hCb HRow HR2
      by_cases h2 : e2 = 0
      · subst h2
        obtain ⟨hr, hlen, h64u⟩ := HCC.out rfl
        have HRE := Aside0.mk hr
        have H64u := Aside0.mk h64u
        have hcv : ∀ (A6 : Option Addr) (c6 : Nat) W, Kd.C (Kd.int .u8) W A6 (bytesOf s).length (bytesOf s) → (convert 27 9 (.slice A6 (bytesOf s).length c6)).run Tryz.prog W = .ok (.string s) W := fun A6 c6 W hW => by
          have := Kd.C_string (P := Tryz.prog) (c := c6) Tryz.underlying27 Tryz.underlying5 Tryz.underlying9 hW
          rw [strNums_bytesOf] at this
          exact this
        have HCV := Aside0.mk hcv
        have hjj : (s.toList == s.toList) = true := beq_self_eq_true _
        clear hr h64u hcv HB0 HCC
        go_wp2_with (first
          | (go_at_call 10; refine hrow2.mono ?_; rintro e w5 ⟨A5, c5, rfl, hC5, hc5, hb5⟩; have HB5 := Aside0.mk (below_step HBW.out hb5); have hrec2 := HRec.out A5 c5 us H64u.out hlen hc5 w5 HB5.out hC5; rw [HRE.out] at hrec2; clear hC5 hb5 hrow2)
          | (go_at_call 8; refine hrec2.mono ?_; rintro e w6 ⟨A6, c6, rfl, hC6, hc6, hb6⟩; have HB6 := Aside0.mk (below_step HB5.out hb6); have cv6 := HCV.out A6 c6 w6 hC6; clear hC6 hb6 hrec2))
        first | exact ⟨rfl, HB6.out⟩ | (go_ret; exact ⟨by first | rfl | (simp; done) | (simp [*]; done), HB6.out⟩)
      · obtain rfl := HB0.out h2
        have h2b : (e2 != 0) = true := bne_iff_ne.2 h2
        clear h2 HB0 HCC HRec
        go_wp2_with (go_at_call 10; refine hrow2.mono ?_; rintro e w5 ⟨A5, c5, rfl, hC5, hc5, hb5⟩; have HB5 := Aside0.mk (below_step HBW.out hb5); clear hC5 hb5 hrow2)
        first | exact ⟨rfl, HB5.out⟩ | (go_ret; exact ⟨by first | rfl | (simp; done) | (simp [*]; done), HB5.out⟩)
  · clear hb hb2
    have kb := fun W => print_bytes (P := Tryz.prog) 9 27 5 Tryz.underlying9 Tryz.underlying27 Tryz.underlying5 s W
    cases b with
    | true =>
      clear hbb
      go_enter Tryz.func4, Tryz.ntmps4
      go_wp2_with (first
        | (go_at_call 5; refine HAl.out.mono ?_; rintro e w1 ⟨rfl, hb1⟩; have HB1 := Aside0.mk hb1; clear hb1)
        | (go_at_call 6; refine (HBig.out _ HB1.out).mono ?_; rintro e w2 ⟨rfl, hb2⟩; have HB2 := Aside0.mk (below_step HB1.out hb2.below); clear hb2))
      first | exact ⟨rfl, HB2.out⟩ | (go_ret; exact ⟨rfl, HB2.out⟩)
    | false =>
      cases b2 with
      | true =>
        clear hbb
        go_enter Tryz.func4, Tryz.ntmps4
        go_wp2_with (first
          | (go_at_call 5; refine HAl.out.mono ?_; rintro e w1 ⟨rfl, hb1⟩; have HB1 := Aside0.mk hb1; clear hb1)
          | (go_at_call 6; refine (HBig.out _ HB1.out).mono ?_; rintro e w2 ⟨rfl, hb2⟩; have HB2 := Aside0.mk (below_step HB1.out hb2.below); clear hb2)
          | (go_at_call 7; refine (HBig2.out _ HB2.out).mono ?_; rintro e w2b ⟨rfl, hb2⟩; have HB2b := Aside0.mk (below_step HB2.out hb2.below); clear hb2))
        first | exact ⟨rfl, HB2b.out⟩ | (go_ret; exact ⟨rfl, HB2b.out⟩)
      | false =>
        have hs : ¬ s.size ≤ 4000 := fun h => hbb ⟨rfl, rfl, h⟩
        have hs1 : decide (4000 < (s.size : Int)) = true := decide_eq_true (by omega)
        have hs2 : decide (4000 < s.size) = true := decide_eq_true (by omega)
        clear hbb hs
        go_enter Tryz.func4, Tryz.ntmps4
        go_wp2_with (first
          | (go_at_call 5; refine HAl.out.mono ?_; rintro e w1 ⟨rfl, hb1⟩; have HB1 := Aside0.mk hb1; clear hb1)
          | (go_at_call 6; refine (HBig.out _ HB1.out).mono ?_; rintro e w2 ⟨rfl, hb2⟩; have HB2 := Aside0.mk (below_step HB1.out hb2.below); clear hb2)
          | (go_at_call 7; refine (HBig2.out _ HB2.out).mono ?_; rintro e w2b ⟨rfl, hb2⟩; have HB2b := Aside0.mk (below_step HB2.out hb2.below); clear hb2))
        first | exact ⟨rfl, HB2b.out⟩ | (go_ret; exact ⟨rfl, HB2b.out⟩)
def headgatelaw12_DecodeBack.f (k : Nat) (l0 : List Co) (l1 : List Va) (a2 : ByteArray) : Option Bool := if l0.length ≤ 140737488355328 ∧ l1.length ≤ 140737488355328 ∧ ∀ v ∈ l1, in64 v.f1 then some true else none
theorem headgatelaw12_DecodeBack.calls (k : Nat) (A0 : Option Addr) (c0 : Nat) (l0 : List Co) (A1 : Option Addr) (c1 : Nat) (l1 : List Va) (a2 : ByteArray) (r : Bool) (w : World) (hG : Glob w) (hr0 : Kd.C k39 w A0 l0.length l0) (hc0 : l0.length ≤ c0) (hr1 : Kd.C k41 w A1 l1.length l1) (hc1 : l1.length ≤ c1) (h : headgatelaw12_DecodeBack.f k l0 l1 a2 = some r) :
    Calls Tryz.prog 4 #[.slice A0 l0.length c0, .slice A1 l1.length c1, .string a2] w fun e w' => e = .returned (.bool r) ∧ Below w.heap.size w w' := by
  unfold headgatelaw12_DecodeBack.f at h
  split at h
  · rename_i hl
    obtain rfl : true = r := Option.some.inj h
    exact back_walk A0 c0 l0 A1 c1 l1 a2 hl.1 hl.2.1 hl.2.2 w hG hr0 hc0 hr1 hc1
  · cases h
theorem DecodeBack_pure (l0 : List Co) (l1 : List Va) (a2 : ByteArray) (h0 : l0.length * 24 ≤ 140737488351232 ∧ ∀ y ∈ l0, (y.f0.size ≤ 140737488351232) ∧ ((Lit.int .i64 y.f1).wf = true))
    (h1 : l1.length * 32 ≤ 140737488351232 ∧ ∀ z ∈ l1, ((Lit.int .i64 z.f0).wf = true) ∧ ((Lit.int .i64 z.f1).wf = true) ∧ (z.f2.size ≤ 140737488351232)) (h2 : a2.size ≤ 140737488351232) : ∃ k, headgatelaw12_DecodeBack.f k l0 l1 a2 = some true :=
  ⟨0, if_pos ⟨by omega, by omega, fun v hv => wf64 (h1.2 v hv).2.1⟩⟩
end Go.Proofs.YtnjlgeenhmamjaaGreatDoor.Q
