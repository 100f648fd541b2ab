/- headgateref01.Do, whole: what is made of two numbers. -/
import Derived.Test.YtapffiacgfdfaaaHRefDo
namespace Go.Proofs.Ytapffiacgfdfaaa.Q
open Go.RowKit Go.Proofs.YtapffiacgfdfaaaW.PrintWords Go.Proofs.YtapffiacgfdfaaaW.PrintLast Go.Proofs.YtapffiacgfdfaaaW.PrintMore
set_option linter.unusedVariables false
set_option linter.unusedSimpArgs false

def divS (op a b : Int) : Int × Int :=
  if b = 0 then (0, 11) else if b = -1 then (if op = 8 then (0, 0) else if a = -9223372036854775808 then (0, 10) else (wrap64 (-a), 0))
  else if op = 7 then (wrap64 (Int.tdiv a b), 0) else (wrap64 (a - wrap64 (wrap64 (Int.tdiv a b) * b)), 0)
def headgateref01_Do.f (a0 : Int) (a1 : Int) (a2 : Int) : Option (Int × Int) :=
  if in64 a1 ∧ in64 a2 then
    (if a0 = 4 then some (fit (a1 + a2)) else if a0 = 5 then some (fit (a1 - a2)) else if a0 = 6 then (headgateref01_product.f 9 a1 a2).bind (fun t => some (if t.2 = true then (t.1, 0) else (0, 10)))
     else if a0 = 7 ∨ a0 = 8 then some (divS a0 a1 a2) else some (0, 2))
  else none
set_option maxHeartbeats 4000000 in
set_option maxRecDepth 100000 in
theorem do_mul (a b r1 : Int) (r2 : Bool) (w : World) (h : headgateref01_product.f 9 a b = some (r1, r2)) :
    Calls Try.prog 12 #[.int .i64 6, .int .i64 a, .int .i64 b] w fun e w' => e = .returned (.tuple #[.int .i64 (if r2 = true then (r1, (0 : Int)) else (0, 10)).1, .int .i64 (if r2 = true then (r1, (0 : Int)) else (0, 10)).2]) ∧ Below w.heap.size w w' := by
  have HP := Aside0.mk h
  clear h
  cases r2
  all_goals
    simp only [if_true, if_false, Bool.false_eq_true]
    go_enter Try.func12, Try.ntmps12
    go_wp2_with fail
    refine (headgateref01_product.calls 9 a b r1 _ _ HP.out).mono ?_
    rintro e w1 ⟨rfl, hd⟩
    have hb : Below w.heap.size w w1 := by first | exact hd | (obtain ⟨n, rfl⟩ := hd.out; exact pw_below_drewN (Below.refl _ _) n)
    have B := Aside0.mk hb
    clear hb hd
    go_wp2
    go_ret2
    exact ⟨rfl, B.out⟩
set_option maxHeartbeats 4000000 in
set_option maxRecDepth 100000 in
theorem do_div (op a b : Int) (w : World) (hop : op = 7 ∨ op = 8) (ha : in64 a) (hb : in64 b) :
    Calls Try.prog 12 #[.int .i64 op, .int .i64 a, .int .i64 b] w fun e w' => e = .returned (.tuple #[.int .i64 (divS op a b).1, .int .i64 (divS op a b).2]) ∧ Below w.heap.size w w' := by
  unfold in64 at ha hb
  by_cases h0 : b = 0
  · subst h0
    clear hb
    have e0 : divS op a 0 = (0, 11) := by unfold divS; rw [if_pos rfl]
    rw [e0]
    clear e0 ha
    rcases hop with rfl | rfl
    all_goals
      go_enter Try.func12, Try.ntmps12
      go_wp2
      go_ret2
      exact ⟨rfl, Below.refl _ _⟩
  by_cases h1 : b = -1
  · subst h1
    clear h0 hb
    rcases hop with rfl | rfl
    · by_cases hm : a = -9223372036854775808
      · subst hm
        have e0 : divS 7 (-9223372036854775808) (-1) = (0, 10) := by unfold divS; rw [if_neg (by decide), if_pos rfl, if_neg (by decide), if_pos rfl]
        rw [e0]
        clear e0 ha
        go_enter Try.func12, Try.ntmps12
        go_wp2
        go_ret2
        exact ⟨rfl, Below.refl _ _⟩
      · have e0 : divS 7 a (-1) = (wrap64 (-a), 0) := by unfold divS; rw [if_neg (by decide), if_pos rfl, if_neg (by decide), if_neg hm]
        have hw : (IntKind.u64.wrap a == 9223372036854775808) = false := by rw [beq_eq_false_iff_ne, u64_wrap a ha.1 ha.2]; omega
        rw [e0]
        clear e0 ha hm
        go_enter Try.func12, Try.ntmps12
        go_wp2
        go_ret2
        exact ⟨rfl, Below.refl _ _⟩
    · have e0 : divS 8 a (-1) = (0, 0) := by unfold divS; rw [if_neg (by decide), if_pos rfl, if_pos rfl]
      rw [e0]
      clear e0 ha
      go_enter Try.func12, Try.ntmps12
      go_wp2
      go_ret2
      exact ⟨rfl, Below.refl _ _⟩
  · have b0 : (b == 0) = false := beq_eq_false_iff_ne.2 h0
    have b1 : (b == -1) = false := beq_eq_false_iff_ne.2 h1
    clear ha hb
    rcases hop with rfl | rfl
    · have e0 : divS 7 a b = (wrap64 (Int.tdiv a b), 0) := by unfold divS; rw [if_neg h0, if_neg h1, if_pos rfl]
      rw [e0]
      clear e0 h1
      go_enter Try.func12, Try.ntmps12
      go_wp2
      go_ret2
      exact ⟨rfl, Below.refl _ _⟩
    · have e0 : divS 8 a b = (wrap64 (a - wrap64 (wrap64 (Int.tdiv a b) * b)), 0) := by unfold divS; rw [if_neg h0, if_neg h1, if_neg (by decide)]
      rw [e0]
      clear e0 h1
      go_enter Try.func12, Try.ntmps12
      go_wp2
      go_ret2
      exact ⟨rfl, Below.refl _ _⟩
set_option maxHeartbeats 4000000 in
set_option maxRecDepth 100000 in
theorem do_none (op a b : Int) (w : World) (h4 : ¬ op = 4) (h5 : ¬ op = 5) (h6 : ¬ op = 6) (h7 : ¬ op = 7) (h8 : ¬ op = 8) :
    Calls Try.prog 12 #[.int .i64 op, .int .i64 a, .int .i64 b] w fun e w' => e = .returned (.tuple #[.int .i64 0, .int .i64 2]) ∧ Below w.heap.size w w' := by
  have b4 : (op == 4) = false := beq_eq_false_iff_ne.2 h4
  have b5 : (op == 5) = false := beq_eq_false_iff_ne.2 h5
  have b6 : (op == 6) = false := beq_eq_false_iff_ne.2 h6
  have b7 : (op == 7) = false := beq_eq_false_iff_ne.2 h7
  have b8 : (op == 8) = false := beq_eq_false_iff_ne.2 h8
  clear h4 h5 h6 h7 h8
  go_enter Try.func12, Try.ntmps12
  go_wp2
  go_ret2
  exact ⟨rfl, Below.refl _ _⟩
theorem headgateref01_Do.calls (a0 : Int) (a1 : Int) (a2 : Int) (r1 : Int) (r2 : Int) (w : World) (h : headgateref01_Do.f a0 a1 a2 = some (r1, r2)) :
    Calls Try.prog 12 #[.int .i64 a0, .int .i64 a1, .int .i64 a2] w fun e w' => e = .returned (.tuple #[.int .i64 r1, .int .i64 r2]) ∧ Below w.heap.size w w' := by
  unfold headgateref01_Do.f at h
  split at h
  · rename_i hin
    by_cases h4 : a0 = 4
    · subst h4
      rw [if_pos rfl] at h
      have q := do_add a1 a2 w hin.1 hin.2
      rw [Option.some.inj h] at q
      exact q
    rw [if_neg h4] at h
    by_cases h5 : a0 = 5
    · subst h5
      rw [if_pos rfl] at h
      have q := do_sub a1 a2 w hin.1 hin.2
      rw [Option.some.inj h] at q
      exact q
    rw [if_neg h5] at h
    by_cases h6 : a0 = 6
    · subst h6
      rw [if_pos rfl] at h
      obtain ⟨t, ht, h⟩ := Option.bind_eq_some_iff.1 h
      have q := do_mul a1 a2 t.1 t.2 w ht
      rw [Option.some.inj h] at q
      exact q
    rw [if_neg h6] at h
    by_cases h7 : a0 = 7 ∨ a0 = 8
    · rw [if_pos h7] at h
      have q := do_div a0 a1 a2 w h7 hin.1 hin.2
      rw [Option.some.inj h] at q
      exact q
    · rw [if_neg h7] at h
      obtain ⟨rfl, rfl⟩ := Prod.mk.inj (Option.some.inj h)
      exact do_none a0 a1 a2 w h4 h5 h6 (fun z => h7 (.inl z)) (fun z => h7 (.inr z))
  · cases h
end Go.Proofs.Ytapffiacgfdfaaa.Q
