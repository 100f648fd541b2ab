/- num.Both: the sum of two sums of 128 bits, walked: the machine's call comes to what 'num_Both.f' says, where the parts are of their kinds. -/
import Derived.Test.YtphdbhneefmkcaaK
import Derived.Laws.Externs
namespace Go.Proofs.Ytphdbhneefmkcaa.Q
open Go.RowKit Go.Proofs.YtphdbhneefmkcaaW.PrintWords Go.Proofs.YtphdbhneefmkcaaW.PrintLast Go.Proofs.YtphdbhneefmkcaaW.PrintMore
set_option linter.unusedVariables false
set_option linter.unusedSimpArgs false

/-- Where four numbers are parts of sums. -/
def Parts (a b : Int) : Prop := -9223372036854775808 ≤ a ∧ a ≤ 9223372036854775807 ∧ 0 ≤ b ∧ b ≤ 18446744073709551615
instance (a b : Int) : Decidable (Parts a b) := by unfold Parts; infer_instance
def bothS (a b c d : Int) : Int × Int := (wrap64 (a + c + (b + d) / 18446744073709551616), (b + d) % 18446744073709551616)
def num_Both.f (a0_0 : Int) (a0_1 : Int) (a1_0 : Int) (a1_1 : Int) : Option (Int × Int) :=
  if Parts a0_0 a0_1 ∧ Parts a1_0 a1_1 then some (bothS a0_0 a0_1 a1_0 a1_1) else none

theorem add64_call (x y c : Int) (hx : 0 ≤ x) (hy : 0 ≤ y) (hc0 : 0 ≤ c) (hc : c ≤ 1) (w : World) :
    (callFunc 52 #[.int .u64 x, .int .u64 y, .int .u64 c]).run Try.prog w = .ok (.value (.tuple #[.int .u64 ((x + y + c) % 18446744073709551616), .int .u64 ((x + y + c) / 18446744073709551616)])) w := by
  rw [run_callFunc_extern (e := add64Entry) Try.func52 (by kernel_rfl) (by kernel_rfl) (by kernel_rfl) (by kernel_rfl), run_add64 x y c hx hy hc0 hc]
  rfl
theorem u64_wrap (a : Int) (h0 : -9223372036854775808 ≤ a) (h1 : a ≤ 9223372036854775807) : IntKind.u64.wrap a = a % 18446744073709551616 := by
  rfl
set_option maxHeartbeats 1000000 in
set_option maxRecDepth 100000 in
theorem num_Both.calls (a0_0 : Int) (a0_1 : Int) (a1_0 : Int) (a1_1 : Int) (r1 : Int) (r2 : Int) (w : World) (h : num_Both.f a0_0 a0_1 a1_0 a1_1 = some (r1, r2)) :
    Calls Try.prog 44 #[.agg #[.int .i64 a0_0, .int .u64 a0_1], .agg #[.int .i64 a1_0, .int .u64 a1_1]] w fun e w' => e = .returned (.agg #[.int .i64 r1, .int .u64 r2]) ∧ Below w.heap.size w w' := by
  unfold num_Both.f at h
  split at h
  · rename_i hp
    obtain ⟨⟨p1, p2, p3, p4⟩, p5, p6, p7, p8⟩ := hp
    have hr := Option.some.inj h
    unfold bothS at hr
    obtain ⟨rfl, rfl⟩ := Prod.mk.inj hr
    clear h hr
    have k1 := add64_call a0_1 a1_1 0 p3 p7 (by omega) (by omega)
    have hc : 0 ≤ (a0_1 + a1_1) / 18446744073709551616 ∧ (a0_1 + a1_1) / 18446744073709551616 ≤ 1 := by omega
    have k2 := add64_call (IntKind.u64.wrap a0_0) (IntKind.u64.wrap a1_0) ((a0_1 + a1_1) / 18446744073709551616) (by rw [u64_wrap _ p1 p2]; omega) (by rw [u64_wrap _ p5 p6]; omega) hc.1 hc.2
    have hw : wrap64 (a0_0 + a1_0 + (a0_1 + a1_1) / 18446744073709551616) = wrap64 ((IntKind.u64.wrap a0_0 + IntKind.u64.wrap a1_0 + (a0_1 + a1_1) / 18446744073709551616) % 18446744073709551616) := by
      rw [u64_wrap _ p1 p2, u64_wrap _ p5 p6]
      unfold wrap64
      omega
    rw [hw]
    clear hw hc
    go_enter Try.func44, Try.ntmps44
    go_wp2
    refine bodyPost_ret (v := .agg #[.int .i64 _, .int .u64 _]) (by simp [results, Try.results44, go_sem]) rfl ⟨rfl, ?_⟩
    repeat (first | exact Below.refl _ _ | apply below_alloc)
  · cases h
end Go.Proofs.Ytphdbhneefmkcaa.Q
