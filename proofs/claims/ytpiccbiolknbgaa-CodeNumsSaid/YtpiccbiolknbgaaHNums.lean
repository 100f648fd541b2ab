/- The law CodeNums: walked. -/
import Derived.Test.YtpiccbiolknbgaaHUnnums
import Derived.Test.YtpiccbiolknbgaaJx1
import Derived.Test.YtpiccbiolknbgaaCx1
import Derived.Test.YtpiccbiolknbgaaNumsP
import Derived.Test.YtpiccbiolknbgaaNumsQ
import Derived.Deep.CutBlock
import Derived.Deep.RegionHeld
namespace Go.Proofs.Ytpiccbiolknbgaa.Q
open Go.RowKit Go.Proofs.YtpiccbiolknbgaaW.PrintWords Go.Proofs.YtpiccbiolknbgaaW.PrintLast Go.Proofs.YtpiccbiolknbgaaW.PrintMore
set_option linter.unusedVariables false
set_option linter.unusedSimpArgs false
set_option maxHeartbeats 4000000 in
set_option maxRecDepth 100000 in
theorem nums_calls (n : Int) (s : ByteArray) (hs : s.size ≤ 2000) (m kk ee m' nx : Int) (K1 K2 K3 K4 K5 : Nat) (bs : List Int) (hU : code_Unnum.f K2 (bytesOf s) = some (m, kk, ee)) (hV : headgateref04_Unnum.f K3 s 0 = some (m', nx))
    (hX : (ee = 0 ∧ 0 ≤ nx ∧ m' = m ∧ nx = kk) ∨ (ee = 41 ∧ nx < 0 ∧ m = 0 ∧ kk = 0)) (hN : code_Num.f K4 n = some bs) (hM : headgateref04_Num.f K5 n = some (strOfNums bs)) (hA : headgatelaw04_alive.f K1 = some true) (w : World) :
    Calls Try.prog 3 #[.int .u64 n, .string s] w fun e w' => e = .returned (.bool true) ∧ Below w.heap.size w w' := by
  have kb := fun W => print_bytes (P := Try.prog) 9 27 5 Try.underlying9 Try.underlying27 Try.underlying5 s W
  have hs1 : decide (2000 < (s.size : Int)) = false := decide_eq_false (by omega)
  have hs2 : decide (2000 < s.size) = false := decide_eq_false (by omega)
  have HN := Aside0.mk hN
  have HM := Aside0.mk hM
  have HU := Aside0.mk hU
  have HV := Aside0.mk hV
  have HX := Aside0.mk hX
  clear hN hM hU hV hX
  go_enter Try.func3, Try.ntmps3
  go_wp2_with fail
  refine (headgatelaw04_alive.calls K1 true _ hA).mono ?_
  rintro e w1 ⟨rfl, hb1⟩
  have HB1 := Aside0.mk hb1
  clear hb1
  go_wp2_with fail
  have hlen := bytesOf_length s
  have hC : Kd.C (Kd.int .u8) (Lib.bytesWorld w1 5 s) (some ⟨w1.heap.size, 0, none⟩) s.size (bytesOf s) := Kd.C_of_reads (bytes_reads w1 5 s (by omega))
  have hcap : s.size ≤ grownCap w1 s.size 0 5 := grownCap_ge _ _ _ _
  have hcall := code_Unnum.calls K2 (some ⟨w1.heap.size, 0, none⟩) (grownCap w1 s.size 0 5) (bytesOf s) m kk ee (Lib.bytesWorld w1 5 s) (by rw [hlen]; exact hC) (by rw [hlen]; exact hcap) HU.out
  rw [hlen] at hcall
  refine hcall.mono ?_
  rintro e w2 ⟨rfl, hd2⟩
  have HB2 : Aside0 (Below w.heap.size w w2) := by
    obtain ⟨j, rfl⟩ := hd2.out
    exact ⟨pw_below_drewN (bytes_below HB1.out HB1.out.size _ _) _⟩
  clear hcall hC hd2 kb HB1
  go_wp2_with fail
  refine (headgateref04_Unnum.calls K3 s 0 m' nx _ HV.out).mono ?_
  rintro e w3 ⟨rfl, hd3⟩
  have HB3 : Aside0 (Below w.heap.size w w3) := by
    obtain ⟨j, rfl⟩ := hd3.out
    exact ⟨pw_below_drewN HB2.out _⟩
  clear hd3 HB2
  have hX := HX.out
  clear HX
  rcases hX with ⟨rfl, h1, rfl, rfl⟩ | ⟨rfl, h1, rfl, rfl⟩
  · have d1 : decide (nx < 0) = false := decide_eq_false (by omega)
    clear h1
    go_upto_region 14 with (fail)
    go_cut [4] (fun v4 wc => v4 = .bool true ∧ Aside0 (Below w.heap.size w wc))
    case first =>
      have hB3 : Below w.heap.size w w3 ∧ True := ⟨HB3.out, trivial⟩
      clear HB3
      go_region_held (fun w' => Below w.heap.size w w' ∧ True) (first | assumption | exact ⟨below_drew1 (‹Below w.heap.size w _ ∧ True›).1, trivial⟩)
        (first
        | (go_at_call 15; refine (code_Num.calls K4 n bs _ HN.out).mono ?_; rintro e v1 ⟨v, rfl, hR, hb⟩; have hS1 : Below w.heap.size w v1 ∧ True := ⟨below_step (‹Below w.heap.size w _ ∧ True›).1 hb, trivial⟩; obtain ⟨Ab, cb, rfl⟩ := Kd.R_slice hR; have hcv := own_string (P := Try.prog) Try.underlying27 Try.underlying5 Try.underlying9 (Kd.own_of_R hR); have hcw : ∀ W, Below v1.heap.size v1 W → (convert 27 9 (.slice Ab bs.length cb)).run Try.prog W = .ok (.string (strOfNums bs)) W := (fun W hW => own_string (P := Try.prog) Try.underlying27 Try.underlying5 Try.underlying9 (Kd.own_of_R (Kd.R_below hR hW))))
        | (go_at_call 16; refine (headgateref04_Num.calls K5 n (strOfNums bs) _ HM.out).mono ?_; rintro e v2 ⟨rfl, hb⟩; have hS2 : Below w.heap.size w v2 ∧ True := ⟨below_step (‹Below w.heap.size w _ ∧ True›).1 hb, trivial⟩))
      all_goals (go_wp2; go_meet; case rel => exact ⟨rfl, ⟨(‹Below w.heap.size w _ ∧ True›).1⟩⟩)
    case rest =>
      obtain ⟨rfl, HB⟩ := hcut
      go_wp2
      go_ret
      exact ⟨rfl, HB.out⟩
  · have d1 : decide (nx < 0) = true := decide_eq_true h1
    clear h1
    go_upto_region 14 with (fail)
    go_cut [4] (fun v4 wc => v4 = .bool true ∧ Aside0 (Below w.heap.size w wc))
    case first =>
      have hB3 : Below w.heap.size w w3 ∧ True := ⟨HB3.out, trivial⟩
      clear HB3
      go_region_held (fun w' => Below w.heap.size w w' ∧ True) (first | assumption | exact ⟨below_drew1 (‹Below w.heap.size w _ ∧ True›).1, trivial⟩)
        (first
        | (go_at_call 15; refine (code_Num.calls K4 n bs _ HN.out).mono ?_; rintro e v1 ⟨v, rfl, hR, hb⟩; have hS1 : Below w.heap.size w v1 ∧ True := ⟨below_step (‹Below w.heap.size w _ ∧ True›).1 hb, trivial⟩; obtain ⟨Ab, cb, rfl⟩ := Kd.R_slice hR; have hcv := own_string (P := Try.prog) Try.underlying27 Try.underlying5 Try.underlying9 (Kd.own_of_R hR); have hcw : ∀ W, Below v1.heap.size v1 W → (convert 27 9 (.slice Ab bs.length cb)).run Try.prog W = .ok (.string (strOfNums bs)) W := (fun W hW => own_string (P := Try.prog) Try.underlying27 Try.underlying5 Try.underlying9 (Kd.own_of_R (Kd.R_below hR hW))))
        | (go_at_call 16; refine (headgateref04_Num.calls K5 n (strOfNums bs) _ HM.out).mono ?_; rintro e v2 ⟨rfl, hb⟩; have hS2 : Below w.heap.size w v2 ∧ True := ⟨below_step (‹Below w.heap.size w _ ∧ True›).1 hb, trivial⟩))
      all_goals (go_wp2; go_meet; case rel => exact ⟨rfl, ⟨(‹Below w.heap.size w _ ∧ True›).1⟩⟩)
    case rest =>
      obtain ⟨rfl, HB⟩ := hcut
      go_wp2
      go_ret
      exact ⟨rfl, HB.out⟩
theorem nums_long (n : Int) (s : ByteArray) (hs : 2000 < s.size) (K1 : Nat) (hA : headgatelaw04_alive.f K1 = some true) (w : World) :
    Calls Try.prog 3 #[.int .u64 n, .string s] w fun e w' => e = .returned (.bool true) ∧ Below w.heap.size w w' := by
  have hs1 : decide (2000 < (s.size : Int)) = true := decide_eq_true (by omega)
  have hs2 : decide (2000 < s.size) = true := decide_eq_true (by omega)
  go_enter Try.func3, Try.ntmps3
  go_wp2_with fail
  refine (headgatelaw04_alive.calls K1 true _ hA).mono ?_
  rintro e w1 ⟨rfl, hb1⟩
  go_wp2
  go_ret
  exact ⟨rfl, hb1⟩
theorem alive04 : headgatelaw04_alive.f 30 = some true := by kernel_rfl
theorem unS_err : ∀ (l : List Int) (i : Nat) (n : Int), (unS i n l).2.2 = 0 ∨ unS i n l = (0, 0, 41)
  | [], i, n => .inr rfl
  | c :: l, i, n => by
    unfold unS
    split
    · exact .inr rfl
    · split
      · exact .inl rfl
      · exact unS_err l (i + 1) (unAdd i n c)
def headgatelaw04_CodeNums.f (k : Nat) (a0 : Int) (a1 : ByteArray) : Option Bool := if 0 ≤ a0 ∧ a0 < 18446744073709551616 then some true else none
theorem headgatelaw04_CodeNums.calls (k : Nat) (a0 : Int) (a1 : ByteArray) (r : Bool) (w : World) (h : headgatelaw04_CodeNums.f k a0 a1 = some r) :
    Calls Try.prog 3 #[.int .u64 a0, .string a1] w fun e w' => e = .returned (.bool r) ∧ Below w.heap.size w w' := by
  unfold headgatelaw04_CodeNums.f at h
  split at h
  · rename_i ha
    cases h
    by_cases hs : a1.size ≤ 2000
    · obtain ⟨K2, h2⟩ := (un_ev (bytesOf a1) (by rw [bytesOf_length]; omega)).rounds
      obtain ⟨K3, h3⟩ := (ref_un a1 hs).rounds
      have hN := code_Num_eq a0 ha.1 ha.2 0
      have hM := ref_Num_eq 9 0 a0 ha.1 ha.2 (by have : (128 : Int) ^ 10 = 1180591620717411303424 := by decide
                                                 have := ha.2
                                                 omega) (by omega)
      have hle := unS_le (bytesOf a1) 0 0
      have hX : ((un (bytesOf a1)).2.2 = 0 ∧ 0 ≤ (refOf (un (bytesOf a1))).2 ∧ (refOf (un (bytesOf a1))).1 = (un (bytesOf a1)).1 ∧ (refOf (un (bytesOf a1))).2 = (un (bytesOf a1)).2.1) ∨ ((un (bytesOf a1)).2.2 = 41 ∧ (refOf (un (bytesOf a1))).2 < 0 ∧ (un (bytesOf a1)).1 = 0 ∧ (un (bytesOf a1)).2.1 = 0) := by
        rcases unS_err (bytesOf a1) 0 0 with h0 | h0
        · left
          have hr : refOf (un (bytesOf a1)) = ((un (bytesOf a1)).1, (un (bytesOf a1)).2.1) := if_pos h0
          rw [hr]
          exact ⟨h0, hle.1, rfl, rfl⟩
        · right
          have hu : un (bytesOf a1) = (0, 0, 41) := h0
          rw [hu]
          exact ⟨rfl, by decide, rfl, rfl⟩
      exact nums_calls a0 a1 hs _ _ _ _ _ 30 K2 K3 10 10 _ h2 h3 hX hN hM alive04 w
    · exact nums_long a0 a1 (by omega) 30 alive04 w
  · cases h
theorem CodeNums_pure (a0 : Int) (a1 : ByteArray) (w0 : (Lit.int .u64 a0).wf = true) (w1 : a1.size ≤ 140737488351232) : ∃ k, headgatelaw04_CodeNums.f k a0 a1 = some true := by
  have hmin : IntKind.u64.min = 0 := rfl
  have hmax : IntKind.u64.max = 18446744073709551615 := rfl
  simp only [Lit.wf, Bool.and_eq_true, decide_eq_true_eq] at w0
  exact ⟨0, if_pos (by omega)⟩
end Go.Proofs.Ytpiccbiolknbgaa.Q
