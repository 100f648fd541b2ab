/- AggOrders in plain words: what is kept of values, in whatever order and groups they come. -/
import Derived.Test.YtphdbhneefmkcaaAggPR
import Derived.Test.YtphdbhneefmkcaaAggPF
namespace Go.Proofs.Ytphdbhneefmkcaa.Q
open Go.RowKit Go.Proofs.YtphdbhneefmkcaaW.PrintWords Go.Proofs.YtphdbhneefmkcaaW.PrintLast Go.Proofs.YtphdbhneefmkcaaW.PrintMore
set_option linter.unusedVariables false
set_option linter.unusedSimpArgs false

theorem cb_anti : ∀ a b : List UInt8, Lib.compareBytes b a = - Lib.compareBytes a b
  | [], [] => rfl
  | [], _ :: _ => rfl
  | _ :: _, [] => rfl
  | x :: a, y :: b => by
    have h := cb_anti a b
    unfold Lib.compareBytes
    by_cases hl : x < y
    · have hg : ¬ y < x := by simp only [UInt8.lt_iff_toNat_lt] at hl ⊢; omega
      simp [hl, hg]
    · by_cases hg : y < x
      · simp [hl, hg]
      · simp [hl, hg, h]
theorem cb_trans : ∀ a b c : List UInt8, 0 ≤ Lib.compareBytes a b → 0 ≤ Lib.compareBytes b c → 0 ≤ Lib.compareBytes a c
  | _, _, [], _, _ => by rename_i a _ _ _; cases a <;> simp [Lib.compareBytes]
  | _, [], _ :: _, _, h => by simp [Lib.compareBytes] at h
  | [], _ :: _, _ :: _, h, _ => by simp [Lib.compareBytes] at h
  | x :: a, y :: b, z :: c, h1, h2 => by
    unfold Lib.compareBytes at h1 h2 ⊢
    have ht := cb_trans a b c
    simp only [UInt8.lt_iff_toNat_lt] at h1 h2 ⊢
    by_cases x1 : x.toNat < y.toNat
    · rw [if_pos x1] at h1; omega
    rw [if_neg x1] at h1
    by_cases y1 : y.toNat < z.toNat
    · rw [if_pos y1] at h2; omega
    rw [if_neg y1] at h2
    rw [if_neg (by omega)]
    by_cases xz : z.toNat < x.toNat
    · rw [if_pos xz]; omega
    rw [if_neg xz]
    rw [if_neg (by omega)] at h1
    rw [if_neg (by omega)] at h2
    exact ht h1 h2
theorem cmpV_ge (a0 a1 : Int) (a2 : ByteArray) (b0 b1 : Int) (b2 : ByteArray) :
    0 ≤ cmpV a0 a1 a2 b0 b1 b2 ↔ a0 > b0 ∨ (a0 = b0 ∧ (a1 > b1 ∨ (a1 = b1 ∧ 0 ≤ Lib.compareBytes a2.data.toList b2.data.toList))) := by
  unfold cmpV c2
  by_cases h0 : a0 < b0
  · simp [h0]; omega
  by_cases h1 : a0 > b0
  · simp [h0, h1]
  obtain rfl : a0 = b0 := by omega
  by_cases h2 : a1 < b1
  · simp [h2]; omega
  by_cases h3 : a1 > b1
  · simp [h2, h3]
  obtain rfl : a1 = b1 := by omega
  simp
theorem cmpV_anti (a0 a1 : Int) (a2 : ByteArray) (b0 b1 : Int) (b2 : ByteArray) : cmpV b0 b1 b2 a0 a1 a2 = - cmpV a0 a1 a2 b0 b1 b2 := by
  unfold cmpV c2
  by_cases h0 : a0 < b0
  · have : ¬ b0 < a0 := by omega
    simp [h0, this]
  by_cases h1 : a0 > b0
  · have : b0 < a0 := h1
    simp [h0, this]
  obtain rfl : a0 = b0 := by omega
  by_cases h2 : a1 < b1
  · have : ¬ b1 < a1 := by omega
    simp [h2, this]
  by_cases h3 : a1 > b1
  · have : b1 < a1 := h3
    simp [h2, this]
  obtain rfl : a1 = b1 := by omega
  simp [cb_anti a2.data.toList b2.data.toList]
def cv (u v : S26) : Int := cmpV u.f0 u.f1 u.f2 v.f0 v.f1 v.f2
theorem cv_anti (u v : S26) : cv v u = - cv u v := cmpV_anti ..
theorem cv_self (u : S26) : cv u u = 0 := by have := cv_anti u u; omega
theorem cv_ge_trans {u v w : S26} (h1 : 0 ≤ cv u v) (h2 : 0 ≤ cv v w) : 0 ≤ cv u w := by
  unfold cv at *
  rw [cmpV_ge] at *
  have := cb_trans u.f2.data.toList v.f2.data.toList w.f2.data.toList
  omega
theorem sv_trans {s : Int} (hs : s = 1 ∨ s = -1) {u v w : S26} (h1 : 0 ≤ s * cv u v) (h2 : 0 ≤ s * cv v w) : 0 ≤ s * cv u w := by
  rcases hs with rfl | rfl
  · rw [Int.one_mul] at *
    exact cv_ge_trans h1 h2
  · have a1 := cv_anti u v
    have a2 := cv_anti v w
    have a3 := cv_anti u w
    have := @cv_ge_trans w v u (by omega) (by omega)
    omega
theorem cv_eq {u v : S26} (h : cv u v = 0) : u = v := by
  obtain ⟨u0, u1, u2⟩ := u
  obtain ⟨v0, v1, v2⟩ := v
  unfold cv cmpV c2 at h
  simp only at h
  by_cases h0 : u0 < v0
  · simp [h0] at h
  by_cases h1 : u0 > v0
  · simp [h0, h1] at h
  obtain rfl : u0 = v0 := by omega
  by_cases h2 : u1 < v1
  · simp [h2] at h
  by_cases h3 : u1 > v1
  · simp [h2, h3] at h
  obtain rfl : u1 = v1 := by omega
  simp at h
  have := (bl_cmp u2.data.toList v2.data.toList).2.1.2 h
  obtain ⟨⟨x⟩⟩ := u2
  obtain ⟨⟨y⟩⟩ := v2
  simp at this
  rw [this]
def sumN : List S26 → Int
  | [] => 0
  | v :: l => v.f1 + sumN l
theorem sumN_app : ∀ a b, sumN (a ++ b) = sumN a + sumN b
  | [], b => by simp [sumN]
  | v :: a, b => by simp only [List.cons_append, sumN, sumN_app a b]; omega
theorem sumN_perm {a b : List S26} (h : a.Perm b) : sumN a = sumN b := by
  induction h with
  | nil => rfl
  | cons x _ ih => simp only [sumN, ih]
  | swap x y l => simp only [sumN]; omega
  | trans _ _ h1 h2 => exact h1.trans h2
theorem sumN_le : ∀ l : List S26, (∀ v ∈ l, in64 v.f1) → -9223372036854775808 * (l.length : Int) ≤ sumN l ∧ sumN l ≤ 9223372036854775808 * (l.length : Int)
  | [], _ => by simp [sumN]
  | v :: l, h => by
    have h1 := sumN_le l fun u hu => h u (List.mem_cons_of_mem _ hu)
    have h2 := h v (List.mem_cons_self ..)
    unfold in64 at h2
    simp only [sumN, List.length_cons]
    push_cast
    omega
def best (s : Int) (b : S26) (L : List S26) : Prop := b ∈ L ∧ ∀ v ∈ L, 0 ≤ s * cv v b
/-- What is kept of the values L. -/
def Rep (k a0 a1 a2 a3 a4 : Int) (a5 : ByteArray) (L : List S26) : Prop :=
  L.length ≤ 200 ∧ a0 = L.length ∧ (∀ v ∈ L, in64 v.f1) ∧ Parts a1 a2 ∧ (k = 3 → a1 * 18446744073709551616 + a2 = sumN L) ∧ (k = 4 ∨ k = 5 → L = [] ∨ best (if k = 4 then 1 else -1) ⟨a3, a4, a5⟩ L)
theorem rep_nil (k : Int) : Rep k 0 0 0 0 0 ⟨#[]⟩ [] := ⟨by simp, rfl, by simp, by decide, fun _ => rfl, fun _ => .inl rfl⟩
theorem rep_perm {k a0 a1 a2 a3 a4 : Int} {a5 : ByteArray} {L M : List S26} (h : Rep k a0 a1 a2 a3 a4 a5 L) (p : L.Perm M) : Rep k a0 a1 a2 a3 a4 a5 M := by
  obtain ⟨h1, h2, h3, h4, h5, h6⟩ := h
  refine ⟨p.length_eq ▸ h1, by rw [h2, p.length_eq], fun v hv => h3 v (p.mem_iff.2 hv), h4, fun k3 => by rw [h5 k3, sumN_perm p], fun k4 => ?_⟩
  rcases h6 k4 with rfl | ⟨hm, hb⟩
  · exact .inl (List.nil_perm.1 p)
  · exact .inr ⟨p.mem_iff.1 hm, fun v hv => hb v (p.mem_iff.2 hv)⟩
theorem both_rep {k : Int} (hk : 1 ≤ k ∧ k ≤ 5) {a0 a1 a2 a3 a4 : Int} {a5 : ByteArray} {b0 b1 b2 b3 b4 : Int} {b5 : ByteArray} {L M : List S26} (hL : Rep k a0 a1 a2 a3 a4 a5 L) (hM : Rep k b0 b1 b2 b3 b4 b5 M) (hn : L.length + M.length ≤ 200) :
    ∃ r0 r1 r2 r3 r4 r5, agg_Both.f k a0 a1 a2 a3 a4 a5 b0 b1 b2 b3 b4 b5 = some (r0, r1, r2, r3, r4, r5, 0) ∧ Rep k r0 r1 r2 r3 r4 r5 (M ++ L) := by
  obtain ⟨l1, l2, l3, l4, l5, l6⟩ := hL
  obtain ⟨m1, m2, m3, m4, m5, m6⟩ := hM
  have hlen : (M ++ L).length ≤ 200 := by rw [List.length_append]; omega
  have hN : wrap64 (a0 + b0) = ((M ++ L).length : Int) := by
    rw [List.length_append, l2, m2]
    unfold wrap64
    push_cast
    omega
  have h64 : ∀ v ∈ M ++ L, in64 v.f1 := fun v hv => by
    rcases List.mem_append.1 hv with h | h
    · exact m3 v h
    · exact l3 v h
  unfold agg_Both.f
  rw [if_neg (by omega)]
  by_cases k12 : k = 1 ∨ k = 2
  · rw [if_pos k12]
    exact ⟨_, _, _, _, _, _, rfl, hlen, hN, h64, l4, fun h => by omega, fun h => by omega⟩
  rw [if_neg k12]
  by_cases k3 : k = 3
  · rw [if_pos k3]
    unfold num_Both.f
    rw [if_pos ⟨l4, m4⟩]
    refine ⟨_, _, _, _, _, _, rfl, hlen, hN, h64, bothS_parts l4 m4, fun _ => ?_, fun h => by omega⟩
    have e1 := l5 k3
    have e2 := m5 k3
    have s1 := sumN_le L l3
    have s2 := sumN_le M m3
    rw [sumN_app]
    unfold Parts at l4 m4
    unfold bothS wrap64
    simp only
    omega
  rw [if_neg k3]
  have hs : (if k = 4 then (1 : Int) else -1) = 1 ∨ (if k = 4 then (1 : Int) else -1) = -1 := by split; exact .inl rfl; exact .inr rfl
  have q1 := l6 (by omega)
  have q2 := m6 (by omega)
  clear l6 m6
  suffices hgoal : ∃ r0 r1 r2 r3 r4 r5, (if takes (if k = 4 then 1 else -1) a0 b0 (cmpV b3 b4 b5 a3 a4 a5) = true then some (wrap64 (a0 + b0), a1, a2, b3, b4, b5, (0 : Int)) else some (wrap64 (a0 + b0), a1, a2, a3, a4, a5, (0 : Int))) = some (r0, r1, r2, r3, r4, r5, 0) ∧ (r0 = ((M ++ L).length : Int) ∧ r1 = a1 ∧ r2 = a2 ∧ (M ++ L = [] ∨ best (if k = 4 then 1 else -1) ⟨r3, r4, r5⟩ (M ++ L))) by
    obtain ⟨r0, r1, r2, r3, r4, r5, e, e0, rfl, rfl, hb⟩ := hgoal
    exact ⟨r0, _, _, r3, r4, r5, e, hlen, e0, h64, l4, fun h => absurd h k3, fun _ => hb⟩
  generalize (if k = 4 then (1 : Int) else -1) = s at hs q1 q2 ⊢
  have hc : cmpV b3 b4 b5 a3 a4 a5 = cv ⟨b3, b4, b5⟩ ⟨a3, a4, a5⟩ := rfl
  have hin := cmpV_in b3 b4 b5 a3 a4 a5
  rw [hc] at hin ⊢
  have hw : wrap64 (s * cv ⟨b3, b4, b5⟩ ⟨a3, a4, a5⟩) = s * cv ⟨b3, b4, b5⟩ ⟨a3, a4, a5⟩ := by
    rcases hs with rfl | rfl
    · unfold wrap64; omega
    · unfold wrap64; omega
  have hanti := cv_anti ⟨b3, b4, b5⟩ ⟨a3, a4, a5⟩
  by_cases ht : takes s a0 b0 (cv ⟨b3, b4, b5⟩ ⟨a3, a4, a5⟩) = true
  · rw [if_pos ht]
    unfold takes at ht
    rw [hw] at ht
    simp only [Bool.and_eq_true, Bool.or_eq_true, decide_eq_true_eq, beq_iff_eq, bne_iff_ne] at ht
    refine ⟨_, _, _, _, _, _, rfl, hN, rfl, rfl, .inr ?_⟩
    rcases q2 with rfl | ⟨n1, n2⟩
    · exact absurd m2 ht.1
    refine ⟨List.mem_append.2 (.inl n1), fun v hv => ?_⟩
    rcases List.mem_append.1 hv with h | h
    · exact n2 v h
    · rcases q1 with rfl | ⟨o1, o2⟩
      · cases h
      · have hl : s * cv ⟨b3, b4, b5⟩ ⟨a3, a4, a5⟩ < 0 := by
          rcases ht.2 with h0 | h0
          · have := List.length_pos_of_mem h
            omega
          · exact h0
        refine sv_trans hs (o2 v h) ?_
        have hanti := cv_anti ⟨b3, b4, b5⟩ ⟨a3, a4, a5⟩
        rw [hanti]
        rcases hs with rfl | rfl <;> omega
  · rw [if_neg ht]
    unfold takes at ht
    rw [hw] at ht
    simp only [Bool.and_eq_true, Bool.or_eq_true, decide_eq_true_eq, beq_iff_eq, bne_iff_ne] at ht
    refine ⟨_, _, _, _, _, _, rfl, hN, rfl, rfl, ?_⟩
    rcases q1 with rfl | ⟨o1, o2⟩
    · rcases q2 with rfl | ⟨n1, n2⟩
      · exact .inl rfl
      · have := List.length_pos_of_mem n1
        exact absurd ⟨by omega, .inl l2⟩ ht
    · refine .inr ⟨List.mem_append.2 (.inr o1), fun v hv => ?_⟩
      rcases List.mem_append.1 hv with h | h
      · rcases q2 with rfl | ⟨n1, n2⟩
        · cases h
        · have hp := List.length_pos_of_mem n1
          have hge : ¬ s * cv ⟨b3, b4, b5⟩ ⟨a3, a4, a5⟩ < 0 := fun h0 => ht ⟨by omega, .inr h0⟩
          exact sv_trans hs (n2 v h) (by omega)
      · exact o2 v h
/-- Which values are looked at, and which of them are kept. -/
def counts (k : Int) (v : S26) : Bool := decide (checkV v.f0 v.f1 v.f2 = 0) && !(decide (k = 3) && decide (v.f0 > 1))
def taken (k : Int) (v : S26) : Bool := counts k v && (decide (k = 1) || decide (v.f0 ≠ 0))
theorem add_rep {k : Int} (hk : 1 ≤ k ∧ k ≤ 5) {a0 a1 a2 a3 a4 : Int} {a5 : ByteArray} {L : List S26} (v : S26) (hv : in64 v.f1) (hc : counts k v = true) (hL : Rep k a0 a1 a2 a3 a4 a5 L) (hn : L.length < 200) :
    ∃ r0 r1 r2 r3 r4 r5, agg_Add.f k a0 a1 a2 a3 a4 a5 v.f0 v.f1 v.f2 = some (r0, r1, r2, r3, r4, r5, 0) ∧ Rep k r0 r1 r2 r3 r4 r5 (if taken k v = true then v :: L else L) := by
  have hc' := hc
  unfold counts at hc'
  simp only [Bool.and_eq_true, decide_eq_true_eq, Bool.not_eq_true', Bool.and_eq_false_iff, decide_eq_false_iff_not] at hc'
  obtain ⟨hk0, hk3⟩ := hc'
  have hr := checkV_0 hk0
  unfold agg_Add.f
  rw [if_neg (by omega), if_neg (by omega)]
  by_cases hz : v.f0 = 0 ∧ k ≠ 1
  · rw [if_pos hz]
    have ht : ¬ taken k v = true := by unfold taken; simp [hz]
    rw [if_neg ht]
    exact ⟨_, _, _, _, _, _, rfl, hL⟩
  · rw [if_neg hz]
    have ht : taken k v = true := by
      unfold taken
      rw [hc]
      simp only [Bool.true_and, Bool.or_eq_true, decide_eq_true_eq]
      omega
    rw [if_pos ht]
    have hb : best (if k = 4 then 1 else -1) ⟨v.f0, v.f1, v.f2⟩ [v] := ⟨by simp, fun u hu => by
      rw [List.mem_singleton.1 hu]
      have : cv v ⟨v.f0, v.f1, v.f2⟩ = 0 := cv_self v
      rw [this]
      omega⟩
    by_cases k3 : k = 3
    · rw [if_pos k3, add0_eq hv]
      have hv' := hv
      unfold in64 at hv'
      exact both_rep hk (M := [v]) hL ⟨by simp, by simp, by simpa using hv, ws_parts _, fun _ => by
        have e : IntKind.u64.wrap v.f1 = v.f1 % 18446744073709551616 := rfl
        simp only [sumN]
        rw [e]
        unfold ws
        split <;> omega, fun h => by omega⟩ (by simp only [List.length_singleton]; omega)
    · rw [if_neg k3]
      exact both_rep hk (M := [v]) hL ⟨by simp, by simp, by simpa using hv, by decide, fun h => absurd h k3, fun _ => .inr hb⟩ (by simp only [List.length_singleton]; omega)
theorem rep_worth {k : Int} (hk : 1 ≤ k ∧ k ≤ 5) {a0 a1 a2 a3 a4 : Int} {a5 : ByteArray} {b0 b1 b2 b3 b4 : Int} {b5 : ByteArray} {L M : List S26} (hL : Rep k a0 a1 a2 a3 a4 a5 L) (hM : Rep k b0 b1 b2 b3 b4 b5 M) (p : L.Perm M) :
    agg_Worth.f k b0 b1 b2 b3 b4 b5 = agg_Worth.f k a0 a1 a2 a3 a4 a5 := by
  obtain ⟨l1, l2, l3, l4, l5, l6⟩ := hL
  obtain ⟨m1, m2, m3, m4, m5, m6⟩ := hM
  have h0 : b0 = a0 := by rw [l2, m2, p.length_eq]
  subst h0
  unfold agg_Worth.f
  by_cases k12 : k = 1 ∨ k = 2
  · simp only [k12, if_true]
  by_cases hz : b0 = 0
  · simp only [k12, hz, if_true, if_false]
  by_cases k45 : k = 4 ∨ k = 5
  · simp only [k12, hz, k45, if_true, if_false]
    rcases l6 k45 with rfl | ⟨o1, o2⟩
    · exact absurd l2 hz
    rcases m6 k45 with rfl | ⟨n1, n2⟩
    · exact absurd m2 hz
    have e1 := o2 _ (p.mem_iff.2 n1)
    have e2 := n2 _ (p.mem_iff.1 o1)
    have e3 := cv_anti ⟨a3, a4, a5⟩ ⟨b3, b4, b5⟩
    have e4 : cv ⟨a3, a4, a5⟩ ⟨b3, b4, b5⟩ = 0 := by
      split at e1 <;> split at e2 <;> omega
    have e5 := cv_eq e4
    cases e5
    rfl
  · have k3 : k = 3 := by omega
    have e1 := l5 k3
    have e2 := m5 k3
    rw [← sumN_perm p] at e2
    unfold Parts at l4 m4
    obtain rfl : a2 = b2 := by omega
    obtain rfl : a1 = b1 := by omega
    simp only [k12, hz, k45, if_false]
theorem worth_ok {k : Int} (hk : 1 ≤ k ∧ k ≤ 5) {a0 a1 a2 a3 a4 : Int} {a5 : ByteArray} {L : List S26} (hL : Rep k a0 a1 a2 a3 a4 a5 L) : ∃ r0 r1 r2, agg_Worth.f k a0 a1 a2 a3 a4 a5 = some (r0, r1, r2, 0) := by
  have hp := hL.2.2.2.1
  unfold agg_Worth.f
  rw [if_neg (by omega), int_eq hp]
  unfold headgateref01_Int.f
  rw [if_pos hp]
  simp only [Option.bind_some]
  split
  · exact ⟨_, _, _, rfl⟩
  split
  · exact ⟨_, _, _, rfl⟩
  split
  · exact ⟨_, _, _, rfl⟩
  generalize (if a1 = signOf a2 then (wrap64 a2, true) else ((0 : Int), false)) = q
  split <;> exact ⟨_, _, _, rfl⟩
end Go.Proofs.Ytphdbhneefmkcaa.Q
