/- value.word: walked: the text at the beginning of a key, and what is behind it. -/
import Derived.Test.YtindffllmlifiaaDoorZValueAll5
import Derived.Test.YtindffllmlifiaaDoorZValueAll1
import Derived.Test.YtindffllmlifiaaDoorZValueAll6
import Derived.WalkMore
import Derived.ScopeJumps
import Derived.Test.YtindffllmlifiaaDoorK
import Derived.Test.YtindffllmlifiaaDoorZValueAll2
namespace Go.Proofs.YtindffllmlifiaaDoor.Q
open Go.RowKit Go.Proofs.YtindffllmlifiaaDoorW.PrintWords Go.Proofs.YtindffllmlifiaaDoorW.PrintLast Go.Proofs.YtindffllmlifiaaDoorW.PrintMore
set_option linter.unusedVariables false
set_option linter.unusedSimpArgs false
/-- What value.word comes to: the text as bytes, what is left, whether it is right. -/
def wordR : Nat → ByteArray → List Int → ByteArray × ByteArray × Bool
  | 0, s, xs => (⟨#[]⟩, ⟨#[]⟩, false)
  | k + 1, s, xs =>
    if Lib.indexByte s.data.toList 0 < 0 ∨ Lib.indexByte s.data.toList 0 + 1 = s.size then (⟨#[]⟩, ⟨#[]⟩, false)
    else if bt s (Lib.indexByte s.data.toList 0 + 1) = 255 then wordR k (s.extract (Lib.indexByte s.data.toList 0 + 2).toNat s.size) (xs ++ bytesOf (s.extract 0 (Lib.indexByte s.data.toList 0).toNat) ++ [0])
    else (strOfNums (xs ++ bytesOf (s.extract 0 (Lib.indexByte s.data.toList 0).toNat)), s.extract (Lib.indexByte s.data.toList 0 + 2).toNat s.size, decide (bt s (Lib.indexByte s.data.toList 0 + 1) = 0))
def strLen : Value → Nat | .string s => s.size | _ => 0
theorem indexByte_lt (c : UInt8) : ∀ l : List UInt8, Lib.indexByte l c < l.length
  | [] => by simp [Lib.indexByte]
  | b :: l => by
    have ih := indexByte_lt c l
    unfold Lib.indexByte
    simp only [List.length_cons]
    split
    · omega
    · split <;> omega
theorem idx_run (s : ByteArray) (w : World) : Calls Tryd.prog 40 #[.string s, .int .u8 0] w fun e w' => e = .returned (.int .i64 (Lib.indexByte s.data.toList 0)) ∧ Below w.heap.size w w' := strings_IndexByte.calls s 0 _ w rfl
theorem infoU8 : (Tryd.prog.info? 5).map (fun i => (i.zero, i.size, i.bytes)) = some (some (.int .u8 0), 1, 1) := by kernel_rfl
theorem scope_jumps {P : Program} {a : Act} {w : World} {Q : Exit → Act → World → Prop} {c rest : Code} (l : Nat) (J : Act → World → Prop) (μ : Act → World → Nat) (hf : findLabel c l = some (.seq .skip rest))
    (first : (∀ a w, J a w → rest.wp P (Exit.jump l J Q) a w) → c.wp P (Exit.jump l J Q) a w)
    (pass : ∀ a w, J a w → rest.wp P (Exit.jump l (fun a' w' => J a' w' ∧ μ a' w' < μ a w) Q) a w) : (Code.scope c).wp P Q a w :=
  wp_scope_jumps l J μ hf (first (fun a w h => wp_mono (pass a w h) (fun e a' w' hq => by
    cases e with
    | goto l' => exact ⟨hq.1, hq.2.1⟩
    | normal => exact hq
    | exit id => exact hq
    | ret => exact hq
    | panic ch => exact hq
    | outgrown => exact hq))) (fun a w h => wp_seq (wp_skip (pass a w h)))
/-- What holds at the label. -/
def WordJ (w : World) (R : ByteArray × ByteArray × Bool) (a' : Act) (w' : World) : Prop :=
  ∃ (s' : ByteArray) (v : Value) (xs : List Int) (k : Nat) (u1 u6 u7 u8 u9 u10 u11 u12 u13 u14 u15 u16 u17 u18 u19 u20 u21 u22 u23 u24 u25 u26 u27 u28 u29 u30 u31 u32 u33 u34 u35 u36 u37 u38 u39 u40 u41 : Value), a' = { tmps := #[.string s', u1, .string ⟨#[]⟩, .string ⟨#[]⟩, .bool false, v, u6, u7, u8, u9, u10, u11, u12, u13, u14, u15, u16, u17, u18, u19, u20, u21, u22, u23, u24, u25, u26, u27, u28, u29, u30, u31, u32, u33, u34, u35, u36, u37, u38, u39, u40, u41], defers := [] } ∧ Aside0 (wordR k s' xs = R) ∧ Aside0 (s'.size < k) ∧ Aside0 (xs.length + s'.size ≤ 140737488355328) ∧ Aside0 (RB w' w.heap.size 5 v xs) ∧ Aside0 (Below w.heap.size w w') ∧ Aside0 (w.heap.size ≤ w'.heap.size)
set_option maxHeartbeats 4000000 in
set_option maxRecDepth 100000 in
theorem word_walk (s : ByteArray) (hs : s.size ≤ 140737488355328) (w : World) :
    Calls Tryd.prog 33 #[.string s] w fun e w' => e = .returned (.tuple #[.string (wordR (s.size + 1) s []).1, .string (wordR (s.size + 1) s []).2.1, .bool (wordR (s.size + 1) s []).2.2]) ∧ Below w.heap.size w w' := by
  obtain ⟨R, hR⟩ : ∃ R, wordR (s.size + 1) s [] = R := ⟨_, rfl⟩
  rw [hR]
  have HR := Aside0.mk hR
  clear hR
  go_enter Tryd.func33, Tryd.ntmps33
  go_wp2
  refine scope_jumps 0 (WordJ w R) (fun a' _ => strLen (a'.tmps.getD 0 undef)) rfl ?first ?pass
  case first =>
    intro hp
    go_wp2
    go_step3
    rename_i K hK
    refine hK _ _ ?_
    exact (hp _ _ ⟨s, _, [], s.size + 1, _, _, _, _, _, _, _, _, _, _, _, _, _, _, _, _, _, _, _, _, _, _, _, _, _, _, _, _, _, _, _, _, _, _, _, _, _, rfl, HR, ⟨Nat.lt_succ_self _⟩, ⟨by simpa using hs⟩, ⟨RB.nil _ _ _⟩, ⟨Below.refl _ _⟩, ⟨Nat.le_refl _⟩⟩)
  case pass =>
    rintro a' w' ⟨s', v, xs, k, u1, u6, u7, u8, u9, u10, u11, u12, u13, u14, u15, u16, u17, u18, u19, u20, u21, u22, u23, u24, u25, u26, u27, u28, u29, u30, u31, u32, u33, u34, u35, u36, u37, u38, u39, u40, u41, rfl, HR, HK, HL, HO, HB, HZ⟩
    cases k with
    | zero => exact absurd HK.out (Nat.not_lt_zero _)
    | succ k =>
    have hR := HR.out
    unfold wordR at hR
    have hlo := Lib.indexByte_ge s'.data.toList 0
    have hhi := indexByte_lt 0 s'.data.toList
    rw [data_length] at hhi
    have hcall := idx_run s' w'
    obtain ⟨i, hi⟩ : ∃ i, Lib.indexByte s'.data.toList 0 = i := ⟨_, rfl⟩
    rw [hi] at hR hlo hhi hcall
    clear hi HR
    have hsz : s'.size ≤ 140737488355328 := by have := HL.out; omega
    by_cases c1 : i < 0
    · have b1 : decide (i < 0) = true := decide_eq_true c1
      rw [if_pos (.inl c1)] at hR
      subst hR
      clear c1
      go_wp2_with (go_at_call 40; refine hcall.mono ?_; rintro e w1 ⟨rfl, hb1⟩; have HB1 := Aside0.mk (below_step HB.out hb1); clear hb1 hcall)
      simp only [Exit.jump]
      exact bodyPost_ret (results_tmp3 rfl _ _ _) rfl ⟨rfl, HB1.out⟩
    · obtain ⟨n, rfl⟩ := Int.eq_ofNat_of_zero_le (Int.not_lt.1 c1)
      have b1 : decide ((n : Int) < 0) = false := decide_eq_false c1
      have hw1 : wrap64 ((n : Int) + 1) = (n : Int) + 1 := wrap_in (by unfold in64; omega)
      have hw2 : wrap64 ((n : Int) + 2) = (n : Int) + 2 := wrap_in (by unfold in64; omega)
      by_cases c2 : (n : Int) + 1 = s'.size
      · rw [if_pos (.inr c2)] at hR
        subst hR
        have hb2 : ((n : Int) + 1 == (s'.size : Int)) = true := by rw [c2]; exact beq_self_eq_true _
        clear c1 hlo hhi
        go_wp2_with (go_at_call 40; refine hcall.mono ?_; rintro e w1 ⟨rfl, hb1⟩; have HB1 := Aside0.mk (below_step HB.out hb1); clear hb1 hcall)
        simp only [Exit.jump]
        exact bodyPost_ret (results_tmp3 rfl _ _ _) rfl ⟨rfl, HB1.out⟩
      · rw [if_neg (fun h => h.elim c1 c2)] at hR
        have hb2 : ((n : Int) + 1 == (s'.size : Int)) = false := beq_eq_false_iff_ne.2 c2
        have hlt : n + 2 ≤ s'.size := by omega
        have h0 : (0 : Int) ≤ (n : Int) := by omega
        have h1 : (n : Int) ≤ (s'.size : Int) := by omega
        have h2 : (n : Int) + 1 < (s'.size : Int) := by omega
        have h3 : (n : Int) + 2 ≤ (s'.size : Int) := by omega
        have h4 : (0 : Int) ≤ (n : Int) + 1 := by omega
        have h5 : (0 : Int) ≤ (n : Int) + 2 := by omega
        have hex : (s'.extract 0 n).size = n := by rw [ByteArray.size_extract]; omega
        have hcat := HL.out
        clear c1 c2 hlo hhi
        go_upto_region 8 with (first
          | (go_at_call 40; refine hcall.mono ?_; rintro e w1 ⟨rfl, hb1⟩; have HB1 := Aside0.mk (below_step HB.out hb1); have HO1 : Aside0 (RB w1 w.heap.size 5 v xs) := ⟨HO.out.below hb1⟩; have HZ1 := Aside0.mk (show w.heap.size ≤ w1.heap.size from HB1.out.size); clear hb1 hcall)
          | ((with_reducible refine gate_builtin (b := .append) (xs := #[.tmp 19, .tmp 22]) rfl ?_); (try (refine gate_guard (by rfl) ?_; dsimp only)); at_builtin; refine wp_append_text w w1 w.heap.size rfl (.tmp 19) (.tmp 22) 52 9 5 rfl Tryd.underlying52 Tryd.underlying9 infoU8 v xs rfl HO1.out (s'.extract 0 n) rfl (by rw [hex]; omega) HB1.out HZ1.out ?_; intro v2 w2 ho hb hz _; have HO2 := Aside0.mk ho; have HB2 := Aside0.mk hb; have HZ2 := Aside0.mk hz; have hcv := own_string (P := Tryd.prog) Tryd.underlying52 Tryd.underlying5 Tryd.underlying9 (show w2.ownsRow w.heap.size 5 1 v2 _ (nums .u8 (xs ++ bytesOf (s'.extract 0 n))) from HO2.out); clear ho hb hz HO1 HB1 HZ1 HO HB HZ))
        have hbt : bt s' ((n : Int) + 1) = ((s'[n + 1]'(by omega)).toNat : Int) := by
          unfold bt
          have e : ((n : Int) + 1).toNat = n + 1 := by omega
          rw [e, dif_pos (by omega)]
        have e1 : ((n : Int) + 2).toNat = n + 2 := by omega
        have e0 : ((n : Int)).toNat = n := by omega
        rw [hbt, e1, e0] at hR
        have hS2 : (s'.extract (n + 2) s'.size).size = s'.size - (n + 2) := by rw [ByteArray.size_extract]; omega
        have hY1 : (xs ++ bytesOf (s'.extract 0 n)).length = xs.length + n := by rw [List.length_append, bytesOf_length, hex]
        obtain ⟨m, hm⟩ : ∃ m : Int, ((s'[n + 1]'(by omega)).toNat : Int) = m := ⟨_, rfl⟩
        rw [hm] at hR ⊢
        obtain ⟨ys, hys⟩ : ∃ ys, xs ++ bytesOf (s'.extract 0 n) = ys := ⟨_, rfl⟩
        rw [hys] at hR hY1 HO2 hcv
        obtain ⟨s2, hs2⟩ : ∃ s2, s'.extract (n + 2) s'.size = s2 := ⟨_, rfl⟩
        rw [hs2] at hR hS2 ⊢
        have HY := Aside0.mk (show ys.length + s2.size + 1 ≤ 140737488355328 by omega)
        have HS2 := Aside0.mk (show s2.size < s'.size by omega)
        clear hbt hm hys hs2 hS2 hY1 hex hcat e1 e0 hb2 h0 h1 h2 h3 h4 h5 hw1 hw2 b1 hsz
        by_cases hm : m = 255
        · rw [if_pos hm] at hR
          have HR := Aside0.mk hR
          have hmb : (m == 255) = true := by rw [hm]; rfl
          clear hR hm hcv
          go_wp2_with (((with_reducible refine gate_builtin (b := .append) (xs := #[.tmp 34, .tmp 35]) rfl ?_); (try (refine gate_guard (by rfl) ?_; dsimp only)); at_builtin; refine Kd.R_append (Kd.int .u8) (w0 := w) w.heap.size rfl (.tmp 34) (.tmp 35) 52 5 (.int .u8 0) 1 rfl Tryd.underlying52 infoU8 rfl (by decide) (by omega) v2 ys 0 [.int .u8 0] (fun _ => True) (fun _ => False) rfl rfl ?aP (fun _ hk => hk.elim) ?aF ?aO ?aB ?aS ?aL ?_; (case aP => exact rfl); (case aB => exact HB2.out); (case aF => exact (fun _ _ => trivial)); (case aO => exact HO2.out.R); (case aS => exact HZ2.out); (case aL => have := HY.out; omega); intro v3 w3 ho hb hg hat; have HO3 := Aside0.mk (RB.of_R ho); have HB3 := Aside0.mk hb; have HZ3 := Aside0.mk (show w.heap.size ≤ w3.heap.size by have h1 := hg.size; have h2 := HZ2.out; omega); clear ho hb hg hat))
          go_step3
          exact ⟨rfl, ⟨s2, v3, ys ++ [0], k, _, _, _, _, _, _, _, _, _, _, _, _, _, _, _, _, _, _, _, _, _, _, _, _, _, _, _, _, _, _, _, _, _, _, _, _, _, rfl, HR, ⟨by have := HS2.out; have := HK.out; omega⟩, ⟨by have := HY.out; rw [List.length_append]; simp only [List.length_cons, List.length_nil]; omega⟩, HO3, HB3, HZ3⟩, HS2.out⟩
        · rw [if_neg hm] at hR
          subst hR
          have hmb : (m == 255) = false := beq_eq_false_iff_ne.2 hm
          have hmz : (m == 0) = decide (m = 0) := by by_cases h : m = 0 <;> simp [h]
          clear hm
          go_wp2
          simp only [Exit.jump]
          exact bodyPost_ret (results_tmp3 rfl _ _ _) rfl ⟨rfl, HB2.out⟩
def value_word.f (a0 : ByteArray) : Option (ByteArray × ByteArray × Bool) := if a0.size ≤ 140737488355328 then some (wordR (a0.size + 1) a0 []) else none
theorem value_word.calls (a0 : ByteArray) (r1 : ByteArray) (r2 : ByteArray) (r3 : Bool) (w : World) (h : value_word.f a0 = some (r1, r2, r3)) :
    Calls Tryd.prog 33 #[.string a0] w fun e w' => e = .returned (.tuple #[.string r1, .string r2, .bool r3]) ∧ Below w.heap.size w w' := by
  unfold value_word.f at h
  split at h
  · rename_i hs
    have := word_walk a0 hs w
    rw [Option.some.inj h] at this
    exact this
  · cases h
end Go.Proofs.YtindffllmlifiaaDoor.Q
-- Written by a program of the session over the translation's print: functions as plain Lean, and that the machine's call comes to them.
namespace Go.Proofs.YtindffllmlifiaaDoor.Q
open Go.RowKit Go.Proofs.YtindffllmlifiaaDoorW.PrintWords Go.Proofs.YtindffllmlifiaaDoorW.PrintLast Go.Proofs.YtindffllmlifiaaDoorW.PrintMore
attribute [local go_sem] max2_int min2_int max_two min_two max_three min_three max_four min_four   -- for this text's walks alone
set_option linter.unusedVariables false
set_option linter.unusedSimpArgs false

-- NOT PRINTED: function 58 (bytealg_IndexByteString)

-- NOT PRINTED: function 50 (stringslite_IndexByte)

/-! ### value_Unkey: function 18 -/
mutual
def value_Unkey.l0 : Nat → ByteArray → List (S23) → Option ((List (S23)) × Int)
  | 0, _, _ => none
  | k + 1, x0, x4 => if x0.toList = ([] : List UInt8) then (some (x4, 0)) else (if 0 < (x0.size : Int) then (if 1 ≤ (x0.size : Int) then (if (wrap64 ((wrap64 (bt x0 0)) - 1)) = 0 then (value_Unkey.j1 k (x0.extract 1 x0.size) x4 true (wrap64 ((wrap64 (bt x0 0)) - 1)) 0 (⟨#[]⟩ : ByteArray)) else (if (wrap64 ((wrap64 (bt x0 0)) - 1)) = 1 then (if ((x0.extract 1 x0.size).size : Int) ≥ 8 then (if 0 ≤ 8 then (if 8 ≤ ((x0.extract 1 x0.size).size : Int) then ((value_number.f k ((x0.extract 1 x0.size).extract 0 8)).bind fun t102 => (value_Unkey.j1 k ((x0.extract 1 x0.size).extract 8 (x0.extract 1 x0.size).size) x4 (decide (((x0.extract 1 x0.size).size : Int) ≥ 8)) (wrap64 ((wrap64 (bt x0 0)) - 1)) (wrap64 (Go.bits .xor .u64 t102 9223372036854775808)) (⟨#[]⟩ : ByteArray))) else (none)) else (none)) else (value_Unkey.j1 k (x0.extract 1 x0.size) x4 (decide (((x0.extract 1 x0.size).size : Int) ≥ 8)) (wrap64 ((wrap64 (bt x0 0)) - 1)) 0 (⟨#[]⟩ : ByteArray))) else (if (wrap64 ((wrap64 (bt x0 0)) - 1)) = 2 then (if ((x0.extract 1 x0.size).size : Int) ≥ 1 then (if 0 < ((x0.extract 1 x0.size).size : Int) then (if 1 ≤ ((x0.extract 1 x0.size).size : Int) then (value_Unkey.j1 k ((x0.extract 1 x0.size).extract 1 (x0.extract 1 x0.size).size) x4 (decide (((x0.extract 1 x0.size).size : Int) ≥ 1)) (wrap64 ((wrap64 (bt x0 0)) - 1)) (wrap64 (bt (x0.extract 1 x0.size) 0)) (⟨#[]⟩ : ByteArray)) else (none)) else (none)) else (value_Unkey.j1 k (x0.extract 1 x0.size) x4 (decide (((x0.extract 1 x0.size).size : Int) ≥ 1)) (wrap64 ((wrap64 (bt x0 0)) - 1)) 0 (⟨#[]⟩ : ByteArray))) else (if (wrap64 ((wrap64 (bt x0 0)) - 1)) = 3 then ((value_word.f (x0.extract 1 x0.size)).bind fun bt103 => (value_Unkey.j1 k bt103.2.1 x4 bt103.2.2 (wrap64 ((wrap64 (bt x0 0)) - 1)) 0 bt103.1)) else (value_Unkey.j1 k (x0.extract 1 x0.size) x4 false (wrap64 ((wrap64 (bt x0 0)) - 1)) 0 (⟨#[]⟩ : ByteArray)))))) else (none)) else (none))
def value_Unkey.j1 : Nat → ByteArray → List (S23) → Bool → Int → Int → ByteArray → Option ((List (S23)) × Int)
  | 0, _, _, _, _, _, _ => none
  | k + 1, x0, x4, x6, x102000, x102001, x102002 => if x6 = true then ((value_Check.f k x102000 x102001 x102002).bind fun t106 => (if t106 = 0 then (value_Unkey.j2 k x0 x4 ((x4.length : Int) == 12) x102000 x102001 x102002) else (value_Unkey.j2 k x0 x4 true x102000 x102001 x102002))) else (value_Unkey.j2 k x0 x4 true x102000 x102001 x102002)
def value_Unkey.j2 : Nat → ByteArray → List (S23) → Bool → Int → Int → ByteArray → Option ((List (S23)) × Int)
  | 0, _, _, _, _, _, _ => none
  | k + 1, x0, x4, x66, x102000, x102001, x102002 => if x66 = true then (some (([] : List (S23)), 31)) else (if x4.length < 4398046511104 then (value_Unkey.l0 k x0 (x4 ++ [(⟨x102000, x102001, x102002⟩ : S23)])) else (none))
end
def value_Unkey.f (k : Nat) (a0 : ByteArray) : Option ((List (S23)) × Int) := value_Unkey.l0 k a0 ([] : List (S23))
def value_Unkey.T12 : Bool × List (List Nat × List Nat) := (true, [([], []), ([0], [0]), ([1], [1]), ([2], [2]), ([3], [3]), ([], []), ([5], [5]), ([0, 1, 2, 3, 4], []), ([7, 4, 2, 0, 1, 2, 3, 4], [4, 7]), ([6, 8, 0, 1, 2, 3, 4, 5, 6, 7, 8], [0, 5, 6])])
def value_Unkey.B12 : List Nat := [0, 1, 3, 7, 15, 0, 32, 31, 159, 511]
theorem value_Unkey.tab12 : rtab .any (opsOf Tryd.f18 12) = value_Unkey.T12 := by kernel_rfl
theorem value_Unkey.bits12 : waitsOk value_Unkey.T12.2 value_Unkey.B12 = true := by kernel_rfl
def value_Unkey.T16 : Bool × List (List Nat × List Nat) := (true, [([], []), ([0], [0]), ([1], [1]), ([], []), ([3], [3]), ([0, 1, 2], []), ([5, 2, 0, 1, 2], [2, 5]), ([4, 6, 0, 1, 2, 3, 4, 5, 6], [0, 3, 4])])
def value_Unkey.B16 : List Nat := [0, 1, 3, 0, 8, 7, 39, 127]
theorem value_Unkey.tab16 : rtab .any (opsOf Tryd.f18 16) = value_Unkey.T16 := by kernel_rfl
theorem value_Unkey.bits16 : waitsOk value_Unkey.T16.2 value_Unkey.B16 = true := by kernel_rfl
set_option maxHeartbeats 8000000 in
set_option maxRecDepth 100000 in
theorem value_Unkey.calls (k : Nat) (a0 : ByteArray) (r1 : List (S23)) (r2 : Int) (w : World) (h : value_Unkey.f k a0 = some (r1, r2)) :
    Calls Tryd.prog 18 #[.string a0] w fun e w' => ∃ v0_ : Value, e = .returned (.tuple #[v0_, .int .i64 r2]) ∧ Kd.R k23 23 w' w.heap.size (fun _ => True) v0_ r1 ∧ Below w.heap.size w w' := by
  have hu23 := Tryd.underlying23
  have HB := Aside0.mk (Below.refl w.heap.size w)
  have H : (value_Unkey.l0 k a0 ([] : List (S23))) = some (r1, r2) := h
  clear h
  have H' := Aside0.mk H
  clear H
  go_enter Tryd.func18, Tryd.ntmps18
  go_wp2
  go_loopg [0, 4] k (fun kq v0 v4 w' => ∃ (x0_1 : ByteArray) (x4_1 : List (S23)), v0 = .string x0_1 ∧ Aside0 (value_Unkey.l0 kq x0_1 x4_1 = some (r1, r2)) ∧ Aside0 (kq ≤ k) ∧ Aside0 (Kd.R k23 23 w' w.heap.size (fun _ => True) v4 x4_1) ∧ Aside0 (Below w.heap.size w w'))
  case atStart => exact ⟨(a0), (([] : List (S23))), (by first | with_reducible rfl | (simp; done) | rfl | (simp [*]; done)), H', ⟨Nat.le_refl _⟩, ⟨by first | exact Kd.R_nil _ _ _ _ _ | exact Kd.N_nil _ _ _ _ _ | exact Kd.V_nil _ _ _ _ _ | exact Kd.Q_nil _ _ _ _ _ | exact Kd.S_nil _ _ _ _ _⟩, ⟨by repeat (first | (with_reducible first | exact HB.out | apply below_alloc | apply pw_below_drewN | apply below_drew1) | exact HB.out)⟩⟩
  case round =>
    clear H'
    try clear c1
    obtain ⟨x0_1, x4_1, rfl, HA, HK1, HO_4, HB⟩ := hrel
    cases gk with
    | zero => exact absurd HA.out (by simp [value_Unkey.l0])
    | succ k1 =>
      have H := HA.out
      clear HA
      simp only [value_Unkey.l0] at H
      by_cases c2 : x0_1.toList = ([] : List UInt8)
      · rw [if_pos c2] at H
        have c2b0 : (x0_1.toList == ([] : List UInt8)) = true := beq_iff_eq.mpr c2
        have c2b1 : (x0_1.toList != ([] : List UInt8)) = false := bne_eq_false_iff_eq.mpr c2
        clear c2
        simp only [Option.some.injEq, Prod.mk.injEq] at H
        obtain ⟨rfl, rfl⟩ := H
        go_wp2
        go_ret2
        exact ⟨_, by first | rfl | (simp [errW_none, errW_some] <;> rfl) | (simp [*, errW_none, errW_some] <;> rfl), by (with_reducible repeat (first | apply Kd.R_alloc | apply Kd.R_drewN | apply Kd.R_drew)); exact HO_4.out, by repeat (first | (with_reducible first | exact HB.out | apply below_alloc | apply pw_below_drewN | apply below_drew1) | exact HB.out)⟩
      · rw [if_neg c2] at H
        have c2b0 : (x0_1.toList == ([] : List UInt8)) = false := beq_eq_false_iff_ne.mpr c2
        have c2b1 : (x0_1.toList != ([] : List UInt8)) = true := bne_iff_ne.mpr c2
        by_cases c3 : 0 < (x0_1.size : Int)
        · rw [if_pos c3] at H
          have c3b0 : decide (0 < (x0_1.size : Int)) = true := decide_eq_true c3
          have c3b1 : decide (0 < x0_1.size) = true := decide_eq_true (by omega)
          clear c3
          by_cases c5 : 1 ≤ (x0_1.size : Int)
          · rw [if_pos c5] at H
            have c5b0 := eq_true c5
            try (have c5b0x := c5b0; simp only [ByteArray.size_extract, Nat.min_self] at c5b0x; try have c5b0y := eq_true (of_decide_eq_true c5b0x))
            have c5b1 : decide (1 ≤ (x0_1.size : Int)) = true := decide_eq_true c5
            clear c5
            have HC6 := Aside0.mk H
            clear H
            have p4 : 0 ≤ (0 : Int) := (by omega)
            have q4 : 0 < x0_1.size := (by have : (0 : Int) < (x0_1.size : Int) := of_decide_eq_true (by first | (with_reducible assumption) | assumption); omega)
            have hx4 : ∀ h : 0 < x0_1.size, ((x0_1[0]'h).toNat : Int) = bt x0_1 0 := bt_at x0_1 0
            clear p4
            have qi4 : (0 < (x0_1.size : Int)) = True := eq_true (of_decide_eq_true (by first | (with_reducible assumption) | assumption))
            replace q4 := eq_true q4
            go_upto_block 2 with (first | ((with_reducible refine gate_dst (N := 5) rfl ?_); (try (refine gate_guard (by rfl) ?_; dsimp only)); refine box_event ?hg (N := 5) ?hd (cs := #[.int .i64 0, .int .i64 0, .string (⟨#[]⟩ : ByteArray)]) (t := 23) ?hr ?_; (case hd => rfl); (case hg => rfl); (case hr => first | (go_simp; done) | (go_simp; rfl)); intro gb101 hg w7 hbox hb; have n0_ := Aside0.mk (Kd.R_below (Kd.R_elderB (by (with_reducible repeat (first | apply Kd.R_alloc | apply Kd.R_drewN | apply Kd.R_drew)); exact HO_4.out) gb101 (Nat.le_of_eq hg.symm)) hb); have n1_ := Aside0.mk (below_step (by repeat (first | (with_reducible first | exact HB.out | apply below_alloc | apply pw_below_drewN | apply below_drew1) | exact HB.out)) hb); have n2_ := Aside0.mk (hbox); have n3_ := Aside0.mk ((by rw [hg]; exact (below_size (by repeat (first | (with_reducible first | exact HB.out | apply below_alloc | apply pw_below_drewN | apply below_drew1) | exact HB.out))) : w.heap.size ≤ gb101)); have n4_ := Aside0.mk ((by rw [hg]; exact (below_size (by repeat (first | (with_reducible first | exact HB.out | apply below_alloc | apply pw_below_drewN | apply below_drew1) | exact HB.out))) : w.heap.size ≤ gb101)); clear HO_4; clear HB; have HO_4 := n0_; have HB := n1_; have BK101 := n2_; have GW101 := n3_; have GE101 := n4_; clear n0_ n1_ n2_ n3_ n4_; clear hb hbox hg; obtain ⟨hcz8_0, hcz8_1, hcz8_2, hfz8_0, hfz8_1, hfz8_2⟩ := bf3 BK101.out))
            (try simp only [Act.put, List.setIfInBounds_toArray, List.set_cons_zero, List.set_cons_succ])
            go_cut [0, 6] (fun v0 v6 wc => ∃ (kq : Nat) (x0_5 : ByteArray) (x6_5 : Bool) (x102001_5 : Int) (x102002_5 : ByteArray), v0 = .string x0_5 ∧ v6 = .bool x6_5 ∧ Aside0 (value_Unkey.j1 kq x0_5 x4_1 x6_5 (wrap64 ((wrap64 (bt x0_1 0)) - 1)) x102001_5 x102002_5 = some (r1, r2)) ∧ Aside0 (kq ≤ k1) ∧ Aside0 (Kd.R k23 23 wc w.heap.size (fun k_ => k_ ≠ gb101) u4 x4_1) ∧ Aside0 (wc.heap[gb101]? = some (.cells #[.int .i64 (wrap64 ((wrap64 (bt x0_1 0)) - 1)), .int .i64 x102001_5, .string x102002_5] 23 (0, 0))) ∧ Aside0 (Below w.heap.size w wc))
            case first =>
              have H := HC6.out
              clear HC6
              by_cases c9 : (wrap64 ((wrap64 (bt x0_1 0)) - 1)) = 0
              · rw [if_pos c9] at H
                have c9b0 : ((wrap64 ((wrap64 (bt x0_1 0)) - 1)) == 0) = true := beq_iff_eq.mpr c9
                have c9b1 : ((wrap64 ((wrap64 (bt x0_1 0)) - 1)) != 0) = false := bne_eq_false_iff_eq.mpr c9
                clear c9
                (first | rw [c9b0] | (simp only [i64_w, i32_w]; rw [c9b0]) | skip)
                have H' := Aside0.mk H
                clear H
                go_wp2
                go_meet
                case rel => exact ⟨_, (x0_1.extract 1 x0_1.size), (true), (0), ((⟨#[]⟩ : ByteArray)), (by first | with_reducible rfl | (simp; done) | rfl | (simp [*]; done)), (by first | with_reducible rfl | (simp; done) | rfl | (simp [*]; done)), H', ⟨by have := HK1.out; first | omega | exact Nat.le_refl _⟩, ⟨by (with_reducible repeat (first | apply Kd.R_alloc | apply Kd.R_drewN | apply Kd.R_drew)); exact Kd.R_mono (Kd.R_far (p := ⟨gb101, 2, none⟩) (Kd.R_far (p := ⟨gb101, 1, none⟩) (Kd.R_far (p := ⟨gb101, 0, none⟩) (Kd.R_mono HO_4.out (fun k_ hk => (⟨hk, hk.2⟩ : _ ∧ k_ ≠ gb101))) (fun _ hk => hk.2) (.int .i64 (wrap64 ((wrap64 (bt x0_1 0)) - 1)))) (fun _ hk => hk.2) (.int .i64 0)) (fun _ hk => hk.2) (.string (⟨#[]⟩ : ByteArray))) (fun _ hk => hk.1.2)⟩, ⟨by (with_reducible repeat (first | refine blk_drewN ?_ _ | refine blk_drew ?_ | refine blk_alloc ?_ _)); refine blk_put (cs := #[.int .i64 (wrap64 ((wrap64 (bt x0_1 0)) - 1)), .int .i64 0, .string (⟨#[]⟩ : ByteArray)]) ?_ 2 _ rfl; (with_reducible repeat (first | refine blk_drewN ?_ _ | refine blk_drew ?_ | refine blk_alloc ?_ _)); refine blk_put (cs := #[.int .i64 (wrap64 ((wrap64 (bt x0_1 0)) - 1)), .int .i64 0, .string (⟨#[]⟩ : ByteArray)]) ?_ 1 _ rfl; (with_reducible repeat (first | refine blk_drewN ?_ _ | refine blk_drew ?_ | refine blk_alloc ?_ _)); refine blk_put (cs := #[.int .i64 0, .int .i64 0, .string (⟨#[]⟩ : ByteArray)]) ?_ 0 _ rfl; (with_reducible repeat (first | refine blk_drewN ?_ _ | refine blk_drew ?_ | refine blk_alloc ?_ _)); exact BK101.out⟩, ⟨by repeat (first | (with_reducible first | exact HB.out | apply below_alloc | apply pw_below_drewN | apply below_drew1 | refine below_set ?_ GE101.out) | exact HB.out)⟩⟩
              · rw [if_neg c9] at H
                have c9b0 : ((wrap64 ((wrap64 (bt x0_1 0)) - 1)) == 0) = false := beq_eq_false_iff_ne.mpr c9
                have c9b1 : ((wrap64 ((wrap64 (bt x0_1 0)) - 1)) != 0) = true := bne_iff_ne.mpr c9
                (first | rw [c9b0] | (simp only [i64_w, i32_w]; rw [c9b0]) | skip)
                by_cases c10 : (wrap64 ((wrap64 (bt x0_1 0)) - 1)) = 1
                · rw [if_pos c10] at H
                  have c10b0 : ((wrap64 ((wrap64 (bt x0_1 0)) - 1)) == 1) = true := beq_iff_eq.mpr c10
                  have c10b1 : ((wrap64 ((wrap64 (bt x0_1 0)) - 1)) != 1) = false := bne_eq_false_iff_eq.mpr c10
                  clear c10
                  by_cases c11 : ((x0_1.extract 1 x0_1.size).size : Int) ≥ 8
                  · rw [if_pos c11] at H
                    have c11b0 : decide (8 ≤ ((x0_1.extract 1 x0_1.size).size : Int)) = true := decide_eq_true c11
                    try (have c11b0x := c11b0; simp only [ByteArray.size_extract, Nat.min_self] at c11b0x; try have c11b0y := eq_true (of_decide_eq_true c11b0x))
                    have c11b1 : decide (8 ≤ (x0_1.extract 1 x0_1.size).size) = true := decide_eq_true (by omega)
                    try (have c11b1x := c11b1; simp only [ByteArray.size_extract, Nat.min_self] at c11b1x; try have c11b1y := eq_true (of_decide_eq_true c11b1x))
                    clear c11
                    by_cases c12 : 0 ≤ 8
                    · rw [if_pos c12] at H
                      have c12b0 := eq_true c12
                      try (have c12b0x := c12b0; simp only [ByteArray.size_extract, Nat.min_self] at c12b0x; try have c12b0y := eq_true (of_decide_eq_true c12b0x))
                      have c12b1 : decide (0 ≤ 8) = true := decide_eq_true c12
                      clear c12
                      by_cases c13 : 8 ≤ ((x0_1.extract 1 x0_1.size).size : Int)
                      · rw [if_pos c13] at H
                        have c13b0 := eq_true c13
                        try (have c13b0x := c13b0; simp only [ByteArray.size_extract, Nat.min_self] at c13b0x; try have c13b0y := eq_true (of_decide_eq_true c13b0x))
                        have c13b1 : decide (8 ≤ ((x0_1.extract 1 x0_1.size).size : Int)) = true := decide_eq_true c13
                        try (have c13b1x := c13b1; simp only [ByteArray.size_extract, Nat.min_self] at c13b1x; try have c13b1y := eq_true (of_decide_eq_true c13b1x))
                        clear c13
                        replace H := Option.bind_eq_some_iff.mp H
                        obtain ⟨t102, A140, H⟩ := H
                        replace H : (value_Unkey.j1 k1 ((x0_1.extract 1 x0_1.size).extract 8 (x0_1.extract 1 x0_1.size).size) x4_1 (decide (((x0_1.extract 1 x0_1.size).size : Int) ≥ 8)) (wrap64 ((wrap64 (bt x0_1 0)) - 1)) (wrap64 (Go.bits .xor .u64 t102 9223372036854775808)) (⟨#[]⟩ : ByteArray)) = some (r1, r2) := H
                        have A14 := Aside0.mk A140
                        clear A140
                        have c15b0 := eq_true (of_decide_eq_true (by first | (with_reducible assumption) | assumption) : 8 ≤ ((x0_1.extract 1 x0_1.size).size : Int))
                        try (have c15b0x := c15b0; simp only [ByteArray.size_extract, Nat.min_self] at c15b0x; try have c15b0y := eq_true (of_decide_eq_true c15b0x))
                        have H' := Aside0.mk H
                        clear H
                        try go_wp2
                        have n0_ : Aside0 (Kd.R k23 23 (((w7.setCell ⟨gb101, 0, none⟩ (.int .i64 (wrap64 ((wrap64 (bt x0_1 0)) - 1)))).setCell ⟨gb101, 1, none⟩ (.int .i64 0)).setCell ⟨gb101, 2, none⟩ (.string (⟨#[]⟩ : ByteArray))) w.heap.size (fun k_ => k_ ≠ gb101) u4 x4_1) := ⟨by (with_reducible repeat (first | apply Kd.R_alloc | apply Kd.R_drewN | apply Kd.R_drew)); exact Kd.R_mono (Kd.R_far (p := ⟨gb101, 2, none⟩) (Kd.R_far (p := ⟨gb101, 1, none⟩) (Kd.R_far (p := ⟨gb101, 0, none⟩) (Kd.R_mono HO_4.out (fun k_ hk => (⟨hk, hk.2⟩ : _ ∧ k_ ≠ gb101))) (fun _ hk => hk.2) (.int .i64 (wrap64 ((wrap64 (bt x0_1 0)) - 1)))) (fun _ hk => hk.2) (.int .i64 0)) (fun _ hk => hk.2) (.string (⟨#[]⟩ : ByteArray))) (fun _ hk => hk.1.2)⟩
                        have n1_ : Aside0 ((((w7.setCell ⟨gb101, 0, none⟩ (.int .i64 (wrap64 ((wrap64 (bt x0_1 0)) - 1)))).setCell ⟨gb101, 1, none⟩ (.int .i64 0)).setCell ⟨gb101, 2, none⟩ (.string (⟨#[]⟩ : ByteArray))).heap[gb101]? = some (.cells #[.int .i64 (wrap64 ((wrap64 (bt x0_1 0)) - 1)), .int .i64 0, .string (⟨#[]⟩ : ByteArray)] 23 (0, 0))) := ⟨by (with_reducible repeat (first | refine blk_drewN ?_ _ | refine blk_drew ?_ | refine blk_alloc ?_ _)); refine blk_put (cs := #[.int .i64 (wrap64 ((wrap64 (bt x0_1 0)) - 1)), .int .i64 0, .string (⟨#[]⟩ : ByteArray)]) ?_ 2 _ rfl; (with_reducible repeat (first | refine blk_drewN ?_ _ | refine blk_drew ?_ | refine blk_alloc ?_ _)); refine blk_put (cs := #[.int .i64 (wrap64 ((wrap64 (bt x0_1 0)) - 1)), .int .i64 0, .string (⟨#[]⟩ : ByteArray)]) ?_ 1 _ rfl; (with_reducible repeat (first | refine blk_drewN ?_ _ | refine blk_drew ?_ | refine blk_alloc ?_ _)); refine blk_put (cs := #[.int .i64 0, .int .i64 0, .string (⟨#[]⟩ : ByteArray)]) ?_ 0 _ rfl; (with_reducible repeat (first | refine blk_drewN ?_ _ | refine blk_drew ?_ | refine blk_alloc ?_ _)); exact BK101.out⟩
                        have n2_ : Aside0 (Below w.heap.size w (((w7.setCell ⟨gb101, 0, none⟩ (.int .i64 (wrap64 ((wrap64 (bt x0_1 0)) - 1)))).setCell ⟨gb101, 1, none⟩ (.int .i64 0)).setCell ⟨gb101, 2, none⟩ (.string (⟨#[]⟩ : ByteArray)))) := ⟨by repeat (first | (with_reducible first | exact HB.out | apply below_alloc | apply pw_below_drewN | apply below_drew1 | refine below_set ?_ GE101.out) | exact HB.out)⟩
                        (try clear HO_4)
                        (try clear BK101)
                        (try clear HB)
                        generalize (((w7.setCell ⟨gb101, 0, none⟩ (.int .i64 (wrap64 ((wrap64 (bt x0_1 0)) - 1)))).setCell ⟨gb101, 1, none⟩ (.int .i64 0)).setCell ⟨gb101, 2, none⟩ (.string (⟨#[]⟩ : ByteArray))) = w16 at n0_ n1_ n2_ ⊢
                        have HO_4 := n0_
                        have BK101 := n1_
                        have HB := n2_
                        clear n0_ n1_ n2_
                        have n0_ := Aside0.mk (Kd.R_drew HO_4.out)
                        have n1_ := Aside0.mk (blk_drew BK101.out)
                        have n2_ := Aside0.mk (below_drew1 HB.out)
                        clear HO_4
                        clear BK101
                        clear HB
                        have HO_4 := n0_
                        have BK101 := n1_
                        have HB := n2_
                        clear n0_ n1_ n2_
                        refine start_ (n := 10) (S := fun w' => True) (ds := []) #[false, false, false, false, false, false, false, false, false, false] (by kernel_rfl) rfl rfl trivial (fun hHeld => ?_); refine with_tabW value_Unkey.tab12 value_Unkey.bits12 (fun HT_ HW_ => ?_)
                        generalize w16.drew = w17 at HO_4 BK101 HB hHeld ⊢
                        refine pure_ (i := 0) (N := some 26) (v := ?_) (a' := ?_) #[true, false, false, false, false, false, false, false, false, false] rfl rfl (any_of HT_.out (by kernel_rfl)) (fun _ _ _ h => h) (Or.inl ⟨by rfl, ?_⟩) ?_ ?_
                        rotate_left
                        · intro w'
                          go_simp
                          with_reducible rfl
                        rotate_left
                        · simp only [Act.put, List.setIfInBounds_toArray, List.set_cons_zero, List.set_cons_succ, i64_w, i32_w]
                          rfl
                        refine pure_ (i := 1) (N := some 27) (v := ?_) (a' := ?_) #[true, true, false, false, false, false, false, false, false, false] rfl rfl (any_of HT_.out (by kernel_rfl)) (fun _ _ _ h => h) (Or.inl ⟨by rfl, ?_⟩) ?_ ?_
                        rotate_left
                        · intro w'
                          go_simp
                          with_reducible rfl
                        rotate_left
                        · simp only [Act.put, List.setIfInBounds_toArray, List.set_cons_zero, List.set_cons_succ, i64_w, i32_w]
                          rfl
                        refine pure_ (i := 5) (N := some 31) (v := ?_) (a' := ?_) #[true, true, false, false, false, true, false, false, false, false] rfl rfl (any_of HT_.out (by kernel_rfl)) (fun _ _ _ h => h) (Or.inl ⟨by rfl, ?_⟩) ?_ ?_
                        rotate_left
                        · intro w'
                          go_simp
                          with_reducible rfl
                        rotate_left
                        · simp only [Act.put, List.setIfInBounds_toArray, List.set_cons_zero, List.set_cons_succ, i64_w, i32_w]
                          rfl
                        refine pure_ (i := 6) (N := some 32) (v := ?_) (a' := ?_) #[true, true, false, false, false, true, true, false, false, false] rfl rfl (any_of HT_.out (by kernel_rfl)) (fun _ _ _ h => h) (Or.inl ⟨by rfl, ?_⟩) ?_ ?_
                        rotate_left
                        · intro w'
                          go_simp
                          with_reducible rfl
                        rotate_left
                        · simp only [Act.put, List.setIfInBounds_toArray, List.set_cons_zero, List.set_cons_succ, i64_w, i32_w]
                          rfl
                        refine one_ (i := 2) (N := some 28) #[true, true, true, false, false, true, true, false, false, false] rfl rfl (one_of HT_.out (by kernel_rfl)) (by decide) (fun K hK => ?_)
                        refine goes_ Tryd.func32 (by kernel_rfl) rfl #[.string ((x0_1.extract 1 x0_1.size).extract 0 8)] (by rfl) rfl rfl (by (try simp only [List.map_toArray, List.map_cons, List.map_nil]); first | done | rfl | (simp only [List.length_drop, List.length_take]; rfl) | exact congrArg (fun x_ : Int => #[Value.int .u64 x_]) (show _ = _ % (18446744073709551616 : Int) by omega)) ?_
                        with_reducible refine (value_number.calls k1 ((x0_1.extract 1 x0_1.size).extract 0 8) t102 _ A14.out).mono ?_
                        rintro e w' ⟨rfl, ⟨nd, rfl⟩⟩
                        refine ⟨_, rfl, ?_⟩
                        refine hK.out _ _ trivial (fun hHeld => ?_)
                        clear hK K
                        refine norm_ (a' := ?_) ?_ ?_
                        rotate_left
                        · show Act.put _ (some 28) _ = _
                          simp only [Act.put, List.setIfInBounds_toArray, List.set_cons_zero, List.set_cons_succ, i64_w, i32_w]
                          rfl
                        refine pure_ (i := 3) (N := some 29) (v := ?_) (a' := ?_) #[true, true, true, true, false, true, true, false, false, false] rfl rfl (any_of HT_.out (by kernel_rfl)) (fun _ _ _ h => h) (Or.inl ⟨by rfl, ?_⟩) ?_ ?_
                        rotate_left
                        · intro w'
                          go_simp
                          with_reducible rfl
                        rotate_left
                        · simp only [Act.put, List.setIfInBounds_toArray, List.set_cons_zero, List.set_cons_succ, i64_w, i32_w]
                          rfl
                        refine pure_ (i := 4) (N := some 30) (v := ?_) (a' := ?_) #[true, true, true, true, true, true, true, false, false, false] rfl rfl (any_of HT_.out (by kernel_rfl)) (fun _ _ _ h => h) (Or.inl ⟨by rfl, ?_⟩) ?_ ?_
                        rotate_left
                        · intro w'
                          go_simp
                          with_reducible rfl
                        rotate_left
                        · simp only [Act.put, List.setIfInBounds_toArray, List.set_cons_zero, List.set_cons_succ, i64_w, i32_w]
                          rfl
                        refine pure_ (i := 7) (N := some 33) (v := ?_) (a' := ?_) #[true, true, true, true, true, true, true, true, false, false] rfl rfl (any_of HT_.out (by kernel_rfl)) (fun _ _ _ h => h) (Or.inl ⟨by rfl, ?_⟩) ?_ ?_
                        rotate_left
                        · intro w'
                          go_simp
                          with_reducible rfl
                        rotate_left
                        · simp only [Act.put, List.setIfInBounds_toArray, List.set_cons_zero, List.set_cons_succ, i64_w, i32_w]
                          rfl
                        refine one_ (i := 8) (N := none) #[true, true, true, true, true, true, true, true, true, false] rfl rfl (one_of HT_.out (by kernel_rfl)) (by decide) (fun K hK => ?_)
                        have hs18 : w17.cell? ⟨gb101, 1, none⟩ = some (.int .i64 0) := (blk_cell BK101.out 1).trans rfl
                        have hfs18 := blk_frozen BK101.out 1
                        refine skip_ (w1 := ?_) (by rfl) rfl ?_ ?_
                        rotate_left
                        · go_simp
                          rfl
                        refine hK.out _ _ trivial (fun hHeld => ?_)
                        clear hK K
                        refine pure_ (i := 9) (N := some 0) (v := ?_) (a' := ?_) #[true, true, true, true, true, true, true, true, true, true] rfl rfl (any_of HT_.out (by kernel_rfl)) (fun _ _ _ h => h) (Or.inl ⟨by rfl, ?_⟩) ?_ ?_
                        rotate_left
                        · intro w'
                          go_simp
                          with_reducible rfl
                        rotate_left
                        · simp only [Act.put, List.setIfInBounds_toArray, List.set_cons_zero, List.set_cons_succ, i64_w, i32_w]
                          rfl
                        refine done_ (done_of HT_.out (by kernel_rfl)) ?_
                        try go_wp2
                        go_meet
                        case rel => exact ⟨_, ((x0_1.extract 1 x0_1.size).extract 8 (x0_1.extract 1 x0_1.size).size), (decide (((x0_1.extract 1 x0_1.size).size : Int) ≥ 8)), (wrap64 (Go.bits .xor .u64 t102 9223372036854775808)), ((⟨#[]⟩ : ByteArray)), (by first | with_reducible rfl | (simp; done) | rfl | (simp [*]; done)), (by first | with_reducible rfl | (simp; done) | rfl | (simp [*]; done)), H', ⟨by have := HK1.out; first | omega | exact Nat.le_refl _⟩, ⟨by (with_reducible repeat (first | apply Kd.R_alloc | apply Kd.R_drewN | apply Kd.R_drew)); exact Kd.R_mono (Kd.R_far (p := ⟨gb101, 1, none⟩) (Kd.R_mono HO_4.out (fun k_ hk => (⟨hk, hk⟩ : _ ∧ k_ ≠ gb101))) (fun _ hk => hk.2) (.int .i64 (wrap64 (Go.bits .xor .u64 t102 9223372036854775808)))) (fun _ hk => hk.1)⟩, ⟨by (with_reducible repeat (first | refine blk_drewN ?_ _ | refine blk_drew ?_ | refine blk_alloc ?_ _)); refine blk_put (cs := #[.int .i64 (wrap64 ((wrap64 (bt x0_1 0)) - 1)), .int .i64 0, .string (⟨#[]⟩ : ByteArray)]) ?_ 1 _ rfl; (with_reducible repeat (first | refine blk_drewN ?_ _ | refine blk_drew ?_ | refine blk_alloc ?_ _)); exact BK101.out⟩, ⟨by repeat (first | (with_reducible first | exact HB.out | apply below_alloc | apply pw_below_drewN | apply below_drew1 | refine below_set ?_ GE101.out) | exact HB.out)⟩⟩
                      · rw [if_neg c13] at H
                        exact absurd H (by simp)
                    · rw [if_neg c12] at H
                      exact absurd H (by simp)
                  · rw [if_neg c11] at H
                    have c11b0 : decide (8 ≤ ((x0_1.extract 1 x0_1.size).size : Int)) = false := decide_eq_false c11
                    try (have c11b0x := c11b0; simp only [ByteArray.size_extract, Nat.min_self] at c11b0x; try have c11b0y := eq_true (of_decide_eq_true c11b0x))
                    have c11b1 : decide (8 ≤ (x0_1.extract 1 x0_1.size).size) = false := decide_eq_false (by omega)
                    try (have c11b1x := c11b1; simp only [ByteArray.size_extract, Nat.min_self] at c11b1x; try have c11b1y := eq_true (of_decide_eq_true c11b1x))
                    clear c11
                    have H' := Aside0.mk H
                    clear H
                    go_wp2
                    go_meet
                    case rel => exact ⟨_, (x0_1.extract 1 x0_1.size), (decide (((x0_1.extract 1 x0_1.size).size : Int) ≥ 8)), (0), ((⟨#[]⟩ : ByteArray)), (by first | with_reducible rfl | (simp; done) | rfl | (simp [*]; done)), (by first | with_reducible rfl | (simp; done) | rfl | (simp [*]; done)), H', ⟨by have := HK1.out; first | omega | exact Nat.le_refl _⟩, ⟨by (with_reducible repeat (first | apply Kd.R_alloc | apply Kd.R_drewN | apply Kd.R_drew)); exact Kd.R_mono (Kd.R_far (p := ⟨gb101, 2, none⟩) (Kd.R_far (p := ⟨gb101, 1, none⟩) (Kd.R_far (p := ⟨gb101, 0, none⟩) (Kd.R_mono HO_4.out (fun k_ hk => (⟨hk, hk.2⟩ : _ ∧ k_ ≠ gb101))) (fun _ hk => hk.2) (.int .i64 (wrap64 ((wrap64 (bt x0_1 0)) - 1)))) (fun _ hk => hk.2) (.int .i64 0)) (fun _ hk => hk.2) (.string (⟨#[]⟩ : ByteArray))) (fun _ hk => hk.1.2)⟩, ⟨by (with_reducible repeat (first | refine blk_drewN ?_ _ | refine blk_drew ?_ | refine blk_alloc ?_ _)); refine blk_put (cs := #[.int .i64 (wrap64 ((wrap64 (bt x0_1 0)) - 1)), .int .i64 0, .string (⟨#[]⟩ : ByteArray)]) ?_ 2 _ rfl; (with_reducible repeat (first | refine blk_drewN ?_ _ | refine blk_drew ?_ | refine blk_alloc ?_ _)); refine blk_put (cs := #[.int .i64 (wrap64 ((wrap64 (bt x0_1 0)) - 1)), .int .i64 0, .string (⟨#[]⟩ : ByteArray)]) ?_ 1 _ rfl; (with_reducible repeat (first | refine blk_drewN ?_ _ | refine blk_drew ?_ | refine blk_alloc ?_ _)); refine blk_put (cs := #[.int .i64 0, .int .i64 0, .string (⟨#[]⟩ : ByteArray)]) ?_ 0 _ rfl; (with_reducible repeat (first | refine blk_drewN ?_ _ | refine blk_drew ?_ | refine blk_alloc ?_ _)); exact BK101.out⟩, ⟨by repeat (first | (with_reducible first | exact HB.out | apply below_alloc | apply pw_below_drewN | apply below_drew1 | refine below_set ?_ GE101.out) | exact HB.out)⟩⟩
                · rw [if_neg c10] at H
                  have c10b0 : ((wrap64 ((wrap64 (bt x0_1 0)) - 1)) == 1) = false := beq_eq_false_iff_ne.mpr c10
                  have c10b1 : ((wrap64 ((wrap64 (bt x0_1 0)) - 1)) != 1) = true := bne_iff_ne.mpr c10
                  by_cases c19 : (wrap64 ((wrap64 (bt x0_1 0)) - 1)) = 2
                  · rw [if_pos c19] at H
                    have c19b0 : ((wrap64 ((wrap64 (bt x0_1 0)) - 1)) == 2) = true := beq_iff_eq.mpr c19
                    have c19b1 : ((wrap64 ((wrap64 (bt x0_1 0)) - 1)) != 2) = false := bne_eq_false_iff_eq.mpr c19
                    clear c19
                    by_cases c20 : ((x0_1.extract 1 x0_1.size).size : Int) ≥ 1
                    · rw [if_pos c20] at H
                      have c20b0 : decide (1 ≤ ((x0_1.extract 1 x0_1.size).size : Int)) = true := decide_eq_true c20
                      try (have c20b0x := c20b0; simp only [ByteArray.size_extract, Nat.min_self] at c20b0x; try have c20b0y := eq_true (of_decide_eq_true c20b0x))
                      have c20b1 : decide (1 ≤ (x0_1.extract 1 x0_1.size).size) = true := decide_eq_true (by omega)
                      try (have c20b1x := c20b1; simp only [ByteArray.size_extract, Nat.min_self] at c20b1x; try have c20b1y := eq_true (of_decide_eq_true c20b1x))
                      clear c20
                      by_cases c21 : 0 < ((x0_1.extract 1 x0_1.size).size : Int)
                      · rw [if_pos c21] at H
                        have c21b0 : decide (0 < ((x0_1.extract 1 x0_1.size).size : Int)) = true := decide_eq_true c21
                        try (have c21b0x := c21b0; simp only [ByteArray.size_extract, Nat.min_self] at c21b0x; try have c21b0y := eq_true (of_decide_eq_true c21b0x))
                        have c21b1 : decide (0 < (x0_1.extract 1 x0_1.size).size) = true := decide_eq_true (by omega)
                        try (have c21b1x := c21b1; simp only [ByteArray.size_extract, Nat.min_self] at c21b1x; try have c21b1y := eq_true (of_decide_eq_true c21b1x))
                        clear c21
                        by_cases c23 : 1 ≤ ((x0_1.extract 1 x0_1.size).size : Int)
                        · rw [if_pos c23] at H
                          have c23b0 := eq_true c23
                          try (have c23b0x := c23b0; simp only [ByteArray.size_extract, Nat.min_self] at c23b0x; try have c23b0y := eq_true (of_decide_eq_true c23b0x))
                          have c23b1 : decide (1 ≤ ((x0_1.extract 1 x0_1.size).size : Int)) = true := decide_eq_true c23
                          try (have c23b1x := c23b1; simp only [ByteArray.size_extract, Nat.min_self] at c23b1x; try have c23b1y := eq_true (of_decide_eq_true c23b1x))
                          clear c23
                          have H' := Aside0.mk H
                          clear H
                          try go_wp2
                          have n0_ : Aside0 (Kd.R k23 23 (((w7.setCell ⟨gb101, 0, none⟩ (.int .i64 (wrap64 ((wrap64 (bt x0_1 0)) - 1)))).setCell ⟨gb101, 1, none⟩ (.int .i64 0)).setCell ⟨gb101, 2, none⟩ (.string (⟨#[]⟩ : ByteArray))) w.heap.size (fun k_ => k_ ≠ gb101) u4 x4_1) := ⟨by (with_reducible repeat (first | apply Kd.R_alloc | apply Kd.R_drewN | apply Kd.R_drew)); exact Kd.R_mono (Kd.R_far (p := ⟨gb101, 2, none⟩) (Kd.R_far (p := ⟨gb101, 1, none⟩) (Kd.R_far (p := ⟨gb101, 0, none⟩) (Kd.R_mono HO_4.out (fun k_ hk => (⟨hk, hk.2⟩ : _ ∧ k_ ≠ gb101))) (fun _ hk => hk.2) (.int .i64 (wrap64 ((wrap64 (bt x0_1 0)) - 1)))) (fun _ hk => hk.2) (.int .i64 0)) (fun _ hk => hk.2) (.string (⟨#[]⟩ : ByteArray))) (fun _ hk => hk.1.2)⟩
                          have n1_ : Aside0 ((((w7.setCell ⟨gb101, 0, none⟩ (.int .i64 (wrap64 ((wrap64 (bt x0_1 0)) - 1)))).setCell ⟨gb101, 1, none⟩ (.int .i64 0)).setCell ⟨gb101, 2, none⟩ (.string (⟨#[]⟩ : ByteArray))).heap[gb101]? = some (.cells #[.int .i64 (wrap64 ((wrap64 (bt x0_1 0)) - 1)), .int .i64 0, .string (⟨#[]⟩ : ByteArray)] 23 (0, 0))) := ⟨by (with_reducible repeat (first | refine blk_drewN ?_ _ | refine blk_drew ?_ | refine blk_alloc ?_ _)); refine blk_put (cs := #[.int .i64 (wrap64 ((wrap64 (bt x0_1 0)) - 1)), .int .i64 0, .string (⟨#[]⟩ : ByteArray)]) ?_ 2 _ rfl; (with_reducible repeat (first | refine blk_drewN ?_ _ | refine blk_drew ?_ | refine blk_alloc ?_ _)); refine blk_put (cs := #[.int .i64 (wrap64 ((wrap64 (bt x0_1 0)) - 1)), .int .i64 0, .string (⟨#[]⟩ : ByteArray)]) ?_ 1 _ rfl; (with_reducible repeat (first | refine blk_drewN ?_ _ | refine blk_drew ?_ | refine blk_alloc ?_ _)); refine blk_put (cs := #[.int .i64 0, .int .i64 0, .string (⟨#[]⟩ : ByteArray)]) ?_ 0 _ rfl; (with_reducible repeat (first | refine blk_drewN ?_ _ | refine blk_drew ?_ | refine blk_alloc ?_ _)); exact BK101.out⟩
                          have n2_ : Aside0 (Below w.heap.size w (((w7.setCell ⟨gb101, 0, none⟩ (.int .i64 (wrap64 ((wrap64 (bt x0_1 0)) - 1)))).setCell ⟨gb101, 1, none⟩ (.int .i64 0)).setCell ⟨gb101, 2, none⟩ (.string (⟨#[]⟩ : ByteArray)))) := ⟨by repeat (first | (with_reducible first | exact HB.out | apply below_alloc | apply pw_below_drewN | apply below_drew1 | refine below_set ?_ GE101.out) | exact HB.out)⟩
                          (try clear HO_4)
                          (try clear BK101)
                          (try clear HB)
                          generalize (((w7.setCell ⟨gb101, 0, none⟩ (.int .i64 (wrap64 ((wrap64 (bt x0_1 0)) - 1)))).setCell ⟨gb101, 1, none⟩ (.int .i64 0)).setCell ⟨gb101, 2, none⟩ (.string (⟨#[]⟩ : ByteArray))) = w24 at n0_ n1_ n2_ ⊢
                          have HO_4 := n0_
                          have BK101 := n1_
                          have HB := n2_
                          clear n0_ n1_ n2_
                          have n0_ := Aside0.mk (Kd.R_drew HO_4.out)
                          have n1_ := Aside0.mk (blk_drew BK101.out)
                          have n2_ := Aside0.mk (below_drew1 HB.out)
                          clear HO_4
                          clear BK101
                          clear HB
                          have HO_4 := n0_
                          have BK101 := n1_
                          have HB := n2_
                          clear n0_ n1_ n2_
                          have p22 : 0 ≤ (0 : Int) := (by omega)
                          have q22 : 0 < (x0_1.extract 1 x0_1.size).size := (by have : (0 : Int) < ((x0_1.extract 1 x0_1.size).size : Int) := of_decide_eq_true (by first | (with_reducible assumption) | assumption); omega)
                          have hx22 : ∀ h : 0 < (x0_1.extract 1 x0_1.size).size, (((x0_1.extract 1 x0_1.size)[0]'h).toNat : Int) = bt (x0_1.extract 1 x0_1.size) 0 := bt_at (x0_1.extract 1 x0_1.size) 0
                          clear p22
                          have qi22 : (0 < ((x0_1.extract 1 x0_1.size).size : Int)) = True := eq_true (of_decide_eq_true (by first | (with_reducible assumption) | assumption))
                          replace q22 := eq_true q22
                          refine start_ (n := 8) (S := fun w' => True) (ds := []) #[false, false, false, false, false, false, false, false] (by kernel_rfl) rfl rfl trivial (fun hHeld => ?_); refine with_tabW value_Unkey.tab16 value_Unkey.bits16 (fun HT_ HW_ => ?_)
                          generalize w24.drew = w25 at HO_4 BK101 HB hHeld ⊢
                          refine pure_ (i := 0) (N := some 40) (v := ?_) (a' := ?_) #[true, false, false, false, false, false, false, false] rfl rfl (any_of HT_.out (by kernel_rfl)) (fun _ _ _ h => h) (Or.inl ⟨by rfl, ?_⟩) ?_ ?_
                          rotate_left
                          · intro w'
                            go_simp
                            with_reducible rfl
                          rotate_left
                          · simp only [Act.put, List.setIfInBounds_toArray, List.set_cons_zero, List.set_cons_succ, i64_w, i32_w]
                            rfl
                          refine pure_ (i := 3) (N := some 43) (v := ?_) (a' := ?_) #[true, false, false, true, false, false, false, false] rfl rfl (any_of HT_.out (by kernel_rfl)) (fun _ _ _ h => h) (Or.inl ⟨by rfl, ?_⟩) ?_ ?_
                          rotate_left
                          · intro w'
                            go_simp
                            with_reducible rfl
                          rotate_left
                          · simp only [Act.put, List.setIfInBounds_toArray, List.set_cons_zero, List.set_cons_succ, i64_w, i32_w]
                            rfl
                          refine pure_ (i := 4) (N := some 44) (v := ?_) (a' := ?_) #[true, false, false, true, true, false, false, false] rfl rfl (any_of HT_.out (by kernel_rfl)) (fun _ _ _ h => h) (Or.inl ⟨by rfl, ?_⟩) ?_ ?_
                          rotate_left
                          · intro w'
                            go_simp
                            with_reducible rfl
                          rotate_left
                          · simp only [Act.put, List.setIfInBounds_toArray, List.set_cons_zero, List.set_cons_succ, i64_w, i32_w]
                            rfl
                          refine take_ (i := 1) (N := some 41) (v := ?_) (a' := ?_) #[true, true, false, true, true, false, false, false] rfl rfl (take_ofW HT_.out HW_.out (by kernel_rfl)) (fun _ _ _ h => h) (Or.inl ⟨by rfl, ?_⟩) hHeld ?_ ?_
                          rotate_left
                          · intro w' _
                            go_simp
                            with_reducible rfl
                          rotate_left
                          · simp only [Act.put, List.setIfInBounds_toArray, List.set_cons_zero, List.set_cons_succ, i64_w, i32_w]
                            rfl
                          refine pure_ (i := 2) (N := some 42) (v := ?_) (a' := ?_) #[true, true, true, true, true, false, false, false] rfl rfl (any_of HT_.out (by kernel_rfl)) (fun _ _ _ h => h) (Or.inl ⟨by rfl, ?_⟩) ?_ ?_
                          rotate_left
                          · intro w'
                            go_simp
                            with_reducible rfl
                          rotate_left
                          · simp only [Act.put, List.setIfInBounds_toArray, List.set_cons_zero, List.set_cons_succ, i64_w, i32_w]
                            rfl
                          refine pure_ (i := 5) (N := some 45) (v := ?_) (a' := ?_) #[true, true, true, true, true, true, false, false] rfl rfl (any_of HT_.out (by kernel_rfl)) (fun _ _ _ h => h) (Or.inl ⟨by rfl, ?_⟩) ?_ ?_
                          rotate_left
                          · intro w'
                            go_simp
                            with_reducible rfl
                          rotate_left
                          · simp only [Act.put, List.setIfInBounds_toArray, List.set_cons_zero, List.set_cons_succ, i64_w, i32_w]
                            rfl
                          refine one_ (i := 6) (N := none) #[true, true, true, true, true, true, true, false] rfl rfl (one_of HT_.out (by kernel_rfl)) (by decide) (fun K hK => ?_)
                          have hs26 : w25.cell? ⟨gb101, 1, none⟩ = some (.int .i64 0) := (blk_cell BK101.out 1).trans rfl
                          have hfs26 := blk_frozen BK101.out 1
                          refine skip_ (w1 := ?_) (by rfl) rfl ?_ ?_
                          rotate_left
                          · go_simp
                            rfl
                          refine hK.out _ _ trivial (fun hHeld => ?_)
                          clear hK K
                          refine pure_ (i := 7) (N := some 0) (v := ?_) (a' := ?_) #[true, true, true, true, true, true, true, true] rfl rfl (any_of HT_.out (by kernel_rfl)) (fun _ _ _ h => h) (Or.inl ⟨by rfl, ?_⟩) ?_ ?_
                          rotate_left
                          · intro w'
                            go_simp
                            with_reducible rfl
                          rotate_left
                          · simp only [Act.put, List.setIfInBounds_toArray, List.set_cons_zero, List.set_cons_succ, i64_w, i32_w]
                            rfl
                          refine done_ (done_of HT_.out (by kernel_rfl)) ?_
                          try go_wp2
                          go_meet
                          case rel => exact ⟨_, ((x0_1.extract 1 x0_1.size).extract 1 (x0_1.extract 1 x0_1.size).size), (decide (((x0_1.extract 1 x0_1.size).size : Int) ≥ 1)), (wrap64 (bt (x0_1.extract 1 x0_1.size) 0)), ((⟨#[]⟩ : ByteArray)), (by first | with_reducible rfl | (simp; done) | rfl | (simp [*]; done)), (by first | with_reducible rfl | (simp; done) | rfl | (simp [*]; done)), H', ⟨by have := HK1.out; first | omega | exact Nat.le_refl _⟩, ⟨by (with_reducible repeat (first | apply Kd.R_alloc | apply Kd.R_drewN | apply Kd.R_drew)); exact Kd.R_mono (Kd.R_far (p := ⟨gb101, 1, none⟩) (Kd.R_mono HO_4.out (fun k_ hk => (⟨hk, hk⟩ : _ ∧ k_ ≠ gb101))) (fun _ hk => hk.2) (.int .i64 (wrap64 (bt (x0_1.extract 1 x0_1.size) 0)))) (fun _ hk => hk.1)⟩, ⟨by (with_reducible repeat (first | refine blk_drewN ?_ _ | refine blk_drew ?_ | refine blk_alloc ?_ _)); refine blk_put (cs := #[.int .i64 (wrap64 ((wrap64 (bt x0_1 0)) - 1)), .int .i64 0, .string (⟨#[]⟩ : ByteArray)]) ?_ 1 _ rfl; (with_reducible repeat (first | refine blk_drewN ?_ _ | refine blk_drew ?_ | refine blk_alloc ?_ _)); exact BK101.out⟩, ⟨by repeat (first | (with_reducible first | exact HB.out | apply below_alloc | apply pw_below_drewN | apply below_drew1 | refine below_set ?_ GE101.out) | exact HB.out)⟩⟩
                        · rw [if_neg c23] at H
                          exact absurd H (by simp)
                      · rw [if_neg c21] at H
                        exact absurd H (by simp)
                    · rw [if_neg c20] at H
                      have c20b0 : decide (1 ≤ ((x0_1.extract 1 x0_1.size).size : Int)) = false := decide_eq_false c20
                      try (have c20b0x := c20b0; simp only [ByteArray.size_extract, Nat.min_self] at c20b0x; try have c20b0y := eq_true (of_decide_eq_true c20b0x))
                      have c20b1 : decide (1 ≤ (x0_1.extract 1 x0_1.size).size) = false := decide_eq_false (by omega)
                      try (have c20b1x := c20b1; simp only [ByteArray.size_extract, Nat.min_self] at c20b1x; try have c20b1y := eq_true (of_decide_eq_true c20b1x))
                      clear c20
                      have H' := Aside0.mk H
                      clear H
                      go_wp2
                      go_meet
                      case rel => exact ⟨_, (x0_1.extract 1 x0_1.size), (decide (((x0_1.extract 1 x0_1.size).size : Int) ≥ 1)), (0), ((⟨#[]⟩ : ByteArray)), (by first | with_reducible rfl | (simp; done) | rfl | (simp [*]; done)), (by first | with_reducible rfl | (simp; done) | rfl | (simp [*]; done)), H', ⟨by have := HK1.out; first | omega | exact Nat.le_refl _⟩, ⟨by (with_reducible repeat (first | apply Kd.R_alloc | apply Kd.R_drewN | apply Kd.R_drew)); exact Kd.R_mono (Kd.R_far (p := ⟨gb101, 2, none⟩) (Kd.R_far (p := ⟨gb101, 1, none⟩) (Kd.R_far (p := ⟨gb101, 0, none⟩) (Kd.R_mono HO_4.out (fun k_ hk => (⟨hk, hk.2⟩ : _ ∧ k_ ≠ gb101))) (fun _ hk => hk.2) (.int .i64 (wrap64 ((wrap64 (bt x0_1 0)) - 1)))) (fun _ hk => hk.2) (.int .i64 0)) (fun _ hk => hk.2) (.string (⟨#[]⟩ : ByteArray))) (fun _ hk => hk.1.2)⟩, ⟨by (with_reducible repeat (first | refine blk_drewN ?_ _ | refine blk_drew ?_ | refine blk_alloc ?_ _)); refine blk_put (cs := #[.int .i64 (wrap64 ((wrap64 (bt x0_1 0)) - 1)), .int .i64 0, .string (⟨#[]⟩ : ByteArray)]) ?_ 2 _ rfl; (with_reducible repeat (first | refine blk_drewN ?_ _ | refine blk_drew ?_ | refine blk_alloc ?_ _)); refine blk_put (cs := #[.int .i64 (wrap64 ((wrap64 (bt x0_1 0)) - 1)), .int .i64 0, .string (⟨#[]⟩ : ByteArray)]) ?_ 1 _ rfl; (with_reducible repeat (first | refine blk_drewN ?_ _ | refine blk_drew ?_ | refine blk_alloc ?_ _)); refine blk_put (cs := #[.int .i64 0, .int .i64 0, .string (⟨#[]⟩ : ByteArray)]) ?_ 0 _ rfl; (with_reducible repeat (first | refine blk_drewN ?_ _ | refine blk_drew ?_ | refine blk_alloc ?_ _)); exact BK101.out⟩, ⟨by repeat (first | (with_reducible first | exact HB.out | apply below_alloc | apply pw_below_drewN | apply below_drew1 | refine below_set ?_ GE101.out) | exact HB.out)⟩⟩
                  · rw [if_neg c19] at H
                    have c19b0 : ((wrap64 ((wrap64 (bt x0_1 0)) - 1)) == 2) = false := beq_eq_false_iff_ne.mpr c19
                    have c19b1 : ((wrap64 ((wrap64 (bt x0_1 0)) - 1)) != 2) = true := bne_iff_ne.mpr c19
                    by_cases c27 : (wrap64 ((wrap64 (bt x0_1 0)) - 1)) = 3
                    · rw [if_pos c27] at H
                      have c27b0 : ((wrap64 ((wrap64 (bt x0_1 0)) - 1)) == 3) = true := beq_iff_eq.mpr c27
                      have c27b1 : ((wrap64 ((wrap64 (bt x0_1 0)) - 1)) != 3) = false := bne_eq_false_iff_eq.mpr c27
                      clear c27
                      replace H := Option.bind_eq_some_iff.mp H
                      obtain ⟨⟨t103, t104, t105⟩, A280, H⟩ := H
                      replace H : (value_Unkey.j1 k1 t104 x4_1 t105 (wrap64 ((wrap64 (bt x0_1 0)) - 1)) 0 t103) = some (r1, r2) := H
                      have A28 := Aside0.mk A280
                      clear A280
                      have H' := Aside0.mk H
                      clear H
                      go_wp2_with (first | ((with_reducible refine gate_callee (f := 33) rfl ?_); refine goesL_ (some 50) rfl rfl Tryd.func33 (by kernel_rfl) rfl #[.string (x0_1.extract 1 x0_1.size)] rfl (by (try simp only [List.map_toArray, List.map_cons, List.map_nil]); first | done | rfl | (simp only [List.length_drop, List.length_take]; rfl) | exact congrArg (fun x_ : Int => #[Value.int .u64 x_]) (show _ = _ % (18446744073709551616 : Int) by omega)) ?_; (with_reducible refine (value_word.calls (x0_1.extract 1 x0_1.size) t103 t104 t105 _ A28.out).mono ?_); rintro e w29 ⟨rfl, hb⟩; refine ⟨_, rfl, ?_⟩; have n0_ := Aside0.mk (Kd.R_below (by (with_reducible repeat (first | apply Kd.R_alloc | apply Kd.R_drewN | apply Kd.R_drew)); exact (Kd.R_mono (Kd.R_far (p := ⟨gb101, 2, none⟩) (Kd.R_far (p := ⟨gb101, 1, none⟩) (Kd.R_far (p := ⟨gb101, 0, none⟩) (Kd.R_mono HO_4.out (fun k_ hk => (⟨hk, hk.2⟩ : _ ∧ k_ ≠ gb101))) (fun _ hk => hk.2) (.int .i64 (wrap64 ((wrap64 (bt x0_1 0)) - 1)))) (fun _ hk => hk.2) (.int .i64 0)) (fun _ hk => hk.2) (.string (⟨#[]⟩ : ByteArray))) (fun _ h_ => h_.1))) hb); have n1_ := Aside0.mk (blk_below (g := gb101) (o := .cells #[.int .i64 (wrap64 ((wrap64 (bt x0_1 0)) - 1)), .int .i64 0, .string (⟨#[]⟩ : ByteArray)] 23 (0, 0)) (by (with_reducible repeat (first | refine blk_drewN ?_ _ | refine blk_drew ?_ | refine blk_alloc ?_ _)); refine blk_put (cs := #[.int .i64 (wrap64 ((wrap64 (bt x0_1 0)) - 1)), .int .i64 0, .string (⟨#[]⟩ : ByteArray)]) ?_ 2 _ rfl; (with_reducible repeat (first | refine blk_drewN ?_ _ | refine blk_drew ?_ | refine blk_alloc ?_ _)); refine blk_put (cs := #[.int .i64 (wrap64 ((wrap64 (bt x0_1 0)) - 1)), .int .i64 0, .string (⟨#[]⟩ : ByteArray)]) ?_ 1 _ rfl; (with_reducible repeat (first | refine blk_drewN ?_ _ | refine blk_drew ?_ | refine blk_alloc ?_ _)); refine blk_put (cs := #[.int .i64 0, .int .i64 0, .string (⟨#[]⟩ : ByteArray)]) ?_ 0 _ rfl; (with_reducible repeat (first | refine blk_drewN ?_ _ | refine blk_drew ?_ | refine blk_alloc ?_ _)); exact BK101.out) hb); have n2_ := Aside0.mk (below_step (by repeat (first | (with_reducible first | exact HB.out | apply below_alloc | apply pw_below_drewN | apply below_drew1 | refine below_set ?_ GE101.out) | exact HB.out)) hb); clear HO_4; clear BK101; clear HB; have HO_4 := n0_; have BK101 := n1_; have HB := n2_; clear n0_ n1_ n2_; (try clear hb); (try clear hb2); (try clear hk); (try clear hi); obtain ⟨hcz30_0, hcz30_1, hcz30_2, hfz30_0, hfz30_1, hfz30_2⟩ := bf3 BK101.out))
                      go_meet
                      case rel => exact ⟨_, (t104), (t105), (0), (t103), (by first | with_reducible rfl | (simp; done) | rfl | (simp [*]; done)), (by first | with_reducible rfl | (simp; done) | rfl | (simp [*]; done)), H', ⟨by have := HK1.out; first | omega | exact Nat.le_refl _⟩, ⟨by (with_reducible repeat (first | apply Kd.R_alloc | apply Kd.R_drewN | apply Kd.R_drew)); exact Kd.R_mono (Kd.R_far (p := ⟨gb101, 2, none⟩) (Kd.R_mono HO_4.out (fun k_ hk => (⟨hk, hk.2⟩ : _ ∧ k_ ≠ gb101))) (fun _ hk => hk.2) (.string t103)) (fun _ hk => hk.1.2)⟩, ⟨by (with_reducible repeat (first | refine blk_drewN ?_ _ | refine blk_drew ?_ | refine blk_alloc ?_ _)); refine blk_put (cs := #[.int .i64 (wrap64 ((wrap64 (bt x0_1 0)) - 1)), .int .i64 0, .string (⟨#[]⟩ : ByteArray)]) ?_ 2 _ rfl; (with_reducible repeat (first | refine blk_drewN ?_ _ | refine blk_drew ?_ | refine blk_alloc ?_ _)); exact BK101.out⟩, ⟨by repeat (first | (with_reducible first | exact HB.out | apply below_alloc | apply pw_below_drewN | apply below_drew1 | refine below_set ?_ GE101.out) | exact HB.out)⟩⟩
                    · rw [if_neg c27] at H
                      have c27b0 : ((wrap64 ((wrap64 (bt x0_1 0)) - 1)) == 3) = false := beq_eq_false_iff_ne.mpr c27
                      have c27b1 : ((wrap64 ((wrap64 (bt x0_1 0)) - 1)) != 3) = true := bne_iff_ne.mpr c27
                      have H' := Aside0.mk H
                      clear H
                      go_wp2
                      go_meet
                      case rel => exact ⟨_, (x0_1.extract 1 x0_1.size), (false), (0), ((⟨#[]⟩ : ByteArray)), (by first | with_reducible rfl | (simp; done) | rfl | (simp [*]; done)), (by first | with_reducible rfl | (simp; done) | rfl | (simp [*]; done)), H', ⟨by have := HK1.out; first | omega | exact Nat.le_refl _⟩, ⟨by (with_reducible repeat (first | apply Kd.R_alloc | apply Kd.R_drewN | apply Kd.R_drew)); exact Kd.R_mono (Kd.R_far (p := ⟨gb101, 2, none⟩) (Kd.R_far (p := ⟨gb101, 1, none⟩) (Kd.R_far (p := ⟨gb101, 0, none⟩) (Kd.R_mono HO_4.out (fun k_ hk => (⟨hk, hk.2⟩ : _ ∧ k_ ≠ gb101))) (fun _ hk => hk.2) (.int .i64 (wrap64 ((wrap64 (bt x0_1 0)) - 1)))) (fun _ hk => hk.2) (.int .i64 0)) (fun _ hk => hk.2) (.string (⟨#[]⟩ : ByteArray))) (fun _ hk => hk.1.2)⟩, ⟨by (with_reducible repeat (first | refine blk_drewN ?_ _ | refine blk_drew ?_ | refine blk_alloc ?_ _)); refine blk_put (cs := #[.int .i64 (wrap64 ((wrap64 (bt x0_1 0)) - 1)), .int .i64 0, .string (⟨#[]⟩ : ByteArray)]) ?_ 2 _ rfl; (with_reducible repeat (first | refine blk_drewN ?_ _ | refine blk_drew ?_ | refine blk_alloc ?_ _)); refine blk_put (cs := #[.int .i64 (wrap64 ((wrap64 (bt x0_1 0)) - 1)), .int .i64 0, .string (⟨#[]⟩ : ByteArray)]) ?_ 1 _ rfl; (with_reducible repeat (first | refine blk_drewN ?_ _ | refine blk_drew ?_ | refine blk_alloc ?_ _)); refine blk_put (cs := #[.int .i64 0, .int .i64 0, .string (⟨#[]⟩ : ByteArray)]) ?_ 0 _ rfl; (with_reducible repeat (first | refine blk_drewN ?_ _ | refine blk_drew ?_ | refine blk_alloc ?_ _)); exact BK101.out⟩, ⟨by repeat (first | (with_reducible first | exact HB.out | apply below_alloc | apply pw_below_drewN | apply below_drew1 | refine below_set ?_ GE101.out) | exact HB.out)⟩⟩
            case rest =>
              clear HC6
              try clear c1
              try clear c2
              try clear c2b0
              try clear c2b1
              try clear p2
              try clear q2
              try clear hx2
              try clear qi2
              try clear c3
              try clear c3b0
              try clear c3b1
              try clear p4
              try clear q4
              try clear hx4
              try clear qi4
              try clear c5
              try clear c5b0
              try clear c5b1
              try clear p6
              try clear c9
              try clear c9b0
              try clear c9b1
              try clear c10
              try clear c10b0
              try clear c10b1
              try clear c11
              try clear c11b0
              try clear c11b1
              try clear c12
              try clear c12b0
              try clear c12b1
              try clear c13
              try clear c13b0
              try clear c13b1
              try clear c15
              try clear c15b0
              try clear c18
              try clear c19
              try clear c19b0
              try clear c19b1
              try clear c20
              try clear c20b0
              try clear c20b1
              try clear c21
              try clear c21b0
              try clear c21b1
              try clear p22
              try clear q22
              try clear hx22
              try clear qi22
              try clear c23
              try clear c23b0
              try clear c23b1
              try clear c27
              try clear c27b0
              try clear c27b1
              try clear hcz30_0
              try clear hcz30_1
              try clear hcz30_2
              try clear hcz8_0
              try clear hcz8_1
              try clear hcz8_2
              try clear hfz30_0
              try clear hfz30_1
              try clear hfz30_2
              try clear hfz8_0
              try clear hfz8_1
              try clear hfz8_2
              try clear p22
              try clear p4
              try clear q22
              try clear q4
              obtain ⟨kq, x0_5, x6_5, x102001_5, x102002_5, rfl, rfl, HA, HJ5, HO_4, BK101, HB⟩ := hcut
              cases kq with
              | zero => exact absurd HA.out (by simp [value_Unkey.j1])
              | succ kj5 =>
                have H := HA.out
                clear HA
                simp only [value_Unkey.j1] at H
                have HC31 := Aside0.mk H
                clear H
                go_upto_region 19 with (fail)
                go_cut [66] (fun v66 wc => ∃ (kq : Nat) (x66_30 : Bool), v66 = .bool x66_30 ∧ Aside0 (value_Unkey.j2 kq x0_5 x4_1 x66_30 (wrap64 ((wrap64 (bt x0_1 0)) - 1)) x102001_5 x102002_5 = some (r1, r2)) ∧ Aside0 (kq ≤ kj5) ∧ Aside0 (Kd.R k23 23 wc w.heap.size (fun k_ => k_ ≠ gb101) u4 x4_1) ∧ Aside0 (wc.heap[gb101]? = some (.cells #[.int .i64 (wrap64 ((wrap64 (bt x0_1 0)) - 1)), .int .i64 x102001_5, .string x102002_5] 23 (0, 0))) ∧ Aside0 (Below w.heap.size w wc))
                case first =>
                  have H := HC31.out
                  clear HC31
                  by_cases c32 : x6_5 = true
                  · subst c32
                    have H1 : ((value_Check.f kj5 (wrap64 ((wrap64 (bt x0_1 0)) - 1)) x102001_5 x102002_5).bind fun t106 => (if t106 = 0 then (value_Unkey.j2 kj5 x0_5 x4_1 ((x4_1.length : Int) == 12) (wrap64 ((wrap64 (bt x0_1 0)) - 1)) x102001_5 x102002_5) else (value_Unkey.j2 kj5 x0_5 x4_1 true (wrap64 ((wrap64 (bt x0_1 0)) - 1)) x102001_5 x102002_5))) = some (r1, r2) := by rw [if_pos rfl] at H; exact H
                    clear H
                    have H := H1
                    clear H1
                    replace H := Option.bind_eq_some_iff.mp H
                    obtain ⟨t106, A330, H⟩ := H
                    replace H : (if t106 = 0 then (value_Unkey.j2 kj5 x0_5 x4_1 ((x4_1.length : Int) == 12) (wrap64 ((wrap64 (bt x0_1 0)) - 1)) x102001_5 x102002_5) else (value_Unkey.j2 kj5 x0_5 x4_1 true (wrap64 ((wrap64 (bt x0_1 0)) - 1)) x102001_5 x102002_5)) = some (r1, r2) := H
                    have A33 := Aside0.mk A330
                    clear A330
                    by_cases c34 : t106 = 0
                    · rw [if_pos c34] at H
                      have c34b0 : (t106 == 0) = true := beq_iff_eq.mpr c34
                      have c34b1 : (t106 != 0) = false := bne_eq_false_iff_eq.mpr c34
                      clear c34
                      (first | rw [c34b0] | (simp only [i64_w, i32_w]; rw [c34b0]) | skip)
                      have H' := Aside0.mk H
                      clear H
                      obtain ⟨hcz35_0, hcz35_1, hcz35_2, hfz35_0, hfz35_1, hfz35_2⟩ := bf3 BK101.out
                      go_wp2_with (first | (go_at_call 11; (with_reducible refine (value_Check.calls kj5 (wrap64 ((wrap64 (bt x0_1 0)) - 1)) x102001_5 x102002_5 t106 _ A33.out).mono ?_); rintro e w36 ⟨rfl, hb⟩; have n0_ := Aside0.mk (Kd.R_below (by (with_reducible repeat (first | apply Kd.R_alloc | apply Kd.R_drewN | apply Kd.R_drew)); exact HO_4.out) hb); have n1_ := Aside0.mk (blk_below (g := gb101) (o := .cells #[.int .i64 (wrap64 ((wrap64 (bt x0_1 0)) - 1)), .int .i64 x102001_5, .string x102002_5] 23 (0, 0)) (by (with_reducible repeat (first | refine blk_drewN ?_ _ | refine blk_drew ?_ | refine blk_alloc ?_ _)); exact BK101.out) hb); have n2_ := Aside0.mk (below_step (by repeat (first | (with_reducible first | exact HB.out | apply below_alloc | apply pw_below_drewN | apply below_drew1 | refine below_set ?_ GE101.out) | exact HB.out)) hb); clear HO_4; clear BK101; clear HB; have HO_4 := n0_; have BK101 := n1_; have HB := n2_; clear n0_ n1_ n2_; (try clear hb); (try clear hb2); (try clear hk); (try clear hi); obtain ⟨Ao37, co37, eo37⟩ := Kd.R_slice HO_4.out; subst eo37))
                      go_meet
                      case rel => exact ⟨_, (((x4_1.length : Int) == 12)), (by first | with_reducible rfl | (simp; done) | rfl | (simp [*]; done)), H', ⟨by have := HK1.out; have := HJ5.out; first | omega | exact Nat.le_refl _⟩, ⟨by (with_reducible repeat (first | apply Kd.R_alloc | apply Kd.R_drewN | apply Kd.R_drew)); exact HO_4.out⟩, ⟨by (with_reducible repeat (first | refine blk_drewN ?_ _ | refine blk_drew ?_ | refine blk_alloc ?_ _)); exact BK101.out⟩, ⟨by repeat (first | (with_reducible first | exact HB.out | apply below_alloc | apply pw_below_drewN | apply below_drew1 | refine below_set ?_ GE101.out) | exact HB.out)⟩⟩
                    · rw [if_neg c34] at H
                      have c34b0 : (t106 == 0) = false := beq_eq_false_iff_ne.mpr c34
                      have c34b1 : (t106 != 0) = true := bne_iff_ne.mpr c34
                      (first | rw [c34b0] | (simp only [i64_w, i32_w]; rw [c34b0]) | skip)
                      have H' := Aside0.mk H
                      clear H
                      obtain ⟨hcz38_0, hcz38_1, hcz38_2, hfz38_0, hfz38_1, hfz38_2⟩ := bf3 BK101.out
                      go_wp2_with (first | (go_at_call 11; (with_reducible refine (value_Check.calls kj5 (wrap64 ((wrap64 (bt x0_1 0)) - 1)) x102001_5 x102002_5 t106 _ A33.out).mono ?_); rintro e w39 ⟨rfl, hb⟩; have n0_ := Aside0.mk (Kd.R_below (by (with_reducible repeat (first | apply Kd.R_alloc | apply Kd.R_drewN | apply Kd.R_drew)); exact HO_4.out) hb); have n1_ := Aside0.mk (blk_below (g := gb101) (o := .cells #[.int .i64 (wrap64 ((wrap64 (bt x0_1 0)) - 1)), .int .i64 x102001_5, .string x102002_5] 23 (0, 0)) (by (with_reducible repeat (first | refine blk_drewN ?_ _ | refine blk_drew ?_ | refine blk_alloc ?_ _)); exact BK101.out) hb); have n2_ := Aside0.mk (below_step (by repeat (first | (with_reducible first | exact HB.out | apply below_alloc | apply pw_below_drewN | apply below_drew1 | refine below_set ?_ GE101.out) | exact HB.out)) hb); clear HO_4; clear BK101; clear HB; have HO_4 := n0_; have BK101 := n1_; have HB := n2_; clear n0_ n1_ n2_; (try clear hb); (try clear hb2); (try clear hk); (try clear hi)))
                      go_meet
                      case rel => exact ⟨_, (true), (by first | with_reducible rfl | (simp; done) | rfl | (simp [*]; done)), H', ⟨by have := HK1.out; have := HJ5.out; first | omega | exact Nat.le_refl _⟩, ⟨by (with_reducible repeat (first | apply Kd.R_alloc | apply Kd.R_drewN | apply Kd.R_drew)); exact HO_4.out⟩, ⟨by (with_reducible repeat (first | refine blk_drewN ?_ _ | refine blk_drew ?_ | refine blk_alloc ?_ _)); exact BK101.out⟩, ⟨by repeat (first | (with_reducible first | exact HB.out | apply below_alloc | apply pw_below_drewN | apply below_drew1 | refine below_set ?_ GE101.out) | exact HB.out)⟩⟩
                  · replace c32 := Bool.eq_false_iff.mpr c32
                    subst c32
                    have H1 : (value_Unkey.j2 kj5 x0_5 x4_1 true (wrap64 ((wrap64 (bt x0_1 0)) - 1)) x102001_5 x102002_5) = some (r1, r2) := by rw [if_neg (show ¬ (false = true) by decide)] at H; exact H
                    clear H
                    have H := H1
                    clear H1
                    have H' := Aside0.mk H
                    clear H
                    go_wp2
                    go_meet
                    case rel => exact ⟨_, (true), (by first | with_reducible rfl | (simp; done) | rfl | (simp [*]; done)), H', ⟨by have := HK1.out; have := HJ5.out; first | omega | exact Nat.le_refl _⟩, ⟨by (with_reducible repeat (first | apply Kd.R_alloc | apply Kd.R_drewN | apply Kd.R_drew)); exact HO_4.out⟩, ⟨by (with_reducible repeat (first | refine blk_drewN ?_ _ | refine blk_drew ?_ | refine blk_alloc ?_ _)); exact BK101.out⟩, ⟨by repeat (first | (with_reducible first | exact HB.out | apply below_alloc | apply pw_below_drewN | apply below_drew1 | refine below_set ?_ GE101.out) | exact HB.out)⟩⟩
                case rest =>
                  clear HC31
                  try clear c1
                  try clear c2
                  try clear c2b0
                  try clear c2b1
                  try clear p2
                  try clear q2
                  try clear hx2
                  try clear qi2
                  try clear c3
                  try clear c3b0
                  try clear c3b1
                  try clear p4
                  try clear q4
                  try clear hx4
                  try clear qi4
                  try clear c5
                  try clear c5b0
                  try clear c5b1
                  try clear p6
                  try clear c9
                  try clear c9b0
                  try clear c9b1
                  try clear c10
                  try clear c10b0
                  try clear c10b1
                  try clear c11
                  try clear c11b0
                  try clear c11b1
                  try clear c12
                  try clear c12b0
                  try clear c12b1
                  try clear c13
                  try clear c13b0
                  try clear c13b1
                  try clear c15
                  try clear c15b0
                  try clear c18
                  try clear c19
                  try clear c19b0
                  try clear c19b1
                  try clear c20
                  try clear c20b0
                  try clear c20b1
                  try clear c21
                  try clear c21b0
                  try clear c21b1
                  try clear p22
                  try clear q22
                  try clear hx22
                  try clear qi22
                  try clear c23
                  try clear c23b0
                  try clear c23b1
                  try clear c27
                  try clear c27b0
                  try clear c27b1
                  try clear c32
                  try clear c33
                  try clear c34
                  try clear c34b0
                  try clear c34b1
                  try clear hcz30_0
                  try clear hcz30_1
                  try clear hcz30_2
                  try clear hcz35_0
                  try clear hcz35_1
                  try clear hcz35_2
                  try clear hcz38_0
                  try clear hcz38_1
                  try clear hcz38_2
                  try clear hcz8_0
                  try clear hcz8_1
                  try clear hcz8_2
                  try clear hfz30_0
                  try clear hfz30_1
                  try clear hfz30_2
                  try clear hfz35_0
                  try clear hfz35_1
                  try clear hfz35_2
                  try clear hfz38_0
                  try clear hfz38_1
                  try clear hfz38_2
                  try clear hfz8_0
                  try clear hfz8_1
                  try clear hfz8_2
                  try clear p2
                  try clear p22
                  try clear p4
                  try clear p6
                  try clear q2
                  try clear q22
                  try clear q4
                  obtain ⟨kq, x66_30, rfl, HA, HJ30, HO_4, BK101, HB⟩ := hcut
                  cases kq with
                  | zero => exact absurd HA.out (by simp [value_Unkey.j2])
                  | succ kj30 =>
                    have H := HA.out
                    clear HA
                    simp only [value_Unkey.j2] at H
                    by_cases c40 : x66_30 = true
                    · subst c40
                      have H1 : (some (([] : List (S23)), 31)) = some (r1, r2) := by rw [if_pos rfl] at H; exact H
                      clear H
                      have H := H1
                      clear H1
                      simp only [Option.some.injEq, Prod.mk.injEq] at H
                      obtain ⟨rfl, rfl⟩ := H
                      go_wp2
                      go_ret2
                      exact ⟨_, by first | rfl | (simp [errW_none, errW_some] <;> rfl) | (simp [*, errW_none, errW_some] <;> rfl), by first | exact Kd.R_nil _ _ _ _ _ | exact Kd.N_nil _ _ _ _ _ | exact Kd.V_nil _ _ _ _ _ | exact Kd.Q_nil _ _ _ _ _ | exact Kd.S_nil _ _ _ _ _, by repeat (first | (with_reducible first | exact HB.out | apply below_alloc | apply pw_below_drewN | apply below_drew1 | refine below_set ?_ GE101.out) | exact HB.out)⟩
                    · replace c40 := Bool.eq_false_iff.mpr c40
                      subst c40
                      have H1 : (if x4_1.length < 4398046511104 then (value_Unkey.l0 kj30 x0_5 (x4_1 ++ [(⟨(wrap64 ((wrap64 (bt x0_1 0)) - 1)), x102001_5, x102002_5⟩ : S23)])) else (none)) = some (r1, r2) := by rw [if_neg (show ¬ (false = true) by decide)] at H; exact H
                      clear H
                      have H := H1
                      clear H1
                      by_cases c41 : x4_1.length < 4398046511104
                      · rw [if_pos c41] at H
                        have LMc41 := Aside0.mk c41
                        clear c41
                        obtain ⟨y107, hy107⟩ : ∃ y_ : List (S23), y_ = (x4_1 ++ [(⟨(wrap64 ((wrap64 (bt x0_1 0)) - 1)), x102001_5, x102002_5⟩ : S23)]) := ⟨_, rfl⟩
                        replace H : (value_Unkey.l0 kj30 x0_5 y107) = some (r1, r2) := by first | (rw [hy107]; with_reducible exact H) | (have H2_ := (Option.bind_some _ _).symm.trans H; rw [hy107]; with_reducible exact H2_) | (have H2_ := (Option.bind_some _ _).symm.trans H; with_reducible exact H2_) | with_reducible exact H | (rw [hy107]; exact H) | exact H
                        have Ny107 := Aside0.mk hy107
                        clear hy107
                        have H' := Aside0.mk H
                        clear H
                        obtain ⟨hcz42_0, hcz42_1, hcz42_2, hfz42_0, hfz42_1, hfz42_2⟩ := bf3 BK101.out
                        go_wp2_with (first | ((with_reducible refine gate_builtin (b := .append) (xs := #[.tmp 67, .tmp 69]) rfl ?_); (try (refine gate_guard (by rfl) ?_; dsimp only)); at_builtin; refine Kd.R_append k23 (w0 := w) w.heap.size rfl (.tmp 67) (.tmp 69) 24 23 (.agg #[(.int .i64 0), (.int .i64 0), (.string ⟨#[]⟩)]) 32 rfl Tryd.underlying24 info23 rfl (by decide) (by omega) u4 x4_1 (⟨(wrap64 ((wrap64 (bt x0_1 0)) - 1)), x102001_5, x102002_5⟩ : S23) [.int .i64 (wrap64 ((wrap64 (bt x0_1 0)) - 1)), .int .i64 x102001_5, .string x102002_5] (fun k_ => k_ ≠ gb101) (fun _ => False) rfl rfl ?aP (fun _ hk => hk.elim) ?aF ?aO ?aB ?aS ?aL ?_; (case aP => exact k23_mkM _ _ _ (⟨(wrap64 ((wrap64 (bt x0_1 0)) - 1)), x102001_5, x102002_5⟩ : S23)); (case aB => exact (by repeat (first | (with_reducible first | exact HB.out | apply below_alloc | apply pw_below_drewN | apply below_drew1 | refine below_set ?_ GE101.out) | exact HB.out))); (case aF => exact (fun k_ hk => Kd.freshB (g := gb101) (o := .cells #[.int .i64 (wrap64 ((wrap64 (bt x0_1 0)) - 1)), .int .i64 x102001_5, .string x102002_5] 23 (0, 0)) (by (with_reducible repeat (first | refine blk_drewN ?_ _ | refine blk_drew ?_ | refine blk_alloc ?_ _)); exact BK101.out) k_ hk)); (case aO => exact (by (with_reducible repeat (first | apply Kd.R_alloc | apply Kd.R_drewN | apply Kd.R_drew)); exact HO_4.out)); (case aS => exact (below_size (by repeat (first | (with_reducible first | exact HB.out | apply below_alloc | apply pw_below_drewN | apply below_drew1 | refine below_set ?_ GE101.out) | exact HB.out)))); (case aL => have := LMc41.out; omega); intro v108 w43 ho hb hg hat; rw [← Ny107.out] at ho; have n0_ := Aside0.mk (blk_grown (g := gb101) (o := .cells #[.int .i64 (wrap64 ((wrap64 (bt x0_1 0)) - 1)), .int .i64 x102001_5, .string x102002_5] 23 (0, 0)) (by (with_reducible repeat (first | refine blk_drewN ?_ _ | refine blk_drew ?_ | refine blk_alloc ?_ _)); exact BK101.out) hg (Kd.R_away HO_4.out (fun _ hk => hk))); have n1_ := Aside0.mk (hb); have n2_ := Aside0.mk (ho); clear BK101; clear HB; clear HO_4; have BK101 := n0_; have HB := n1_; have HO109 := n2_; clear n0_ n1_ n2_; clear ho hb hg hat))
                        go_roundg kj30
                        case measure => have := HK1.out; have := HJ5.out; have := HJ30.out; omega
                        case rel => exact ⟨(x0_5), (y107), (by first | with_reducible rfl | (simp; done) | rfl | (simp [*]; done)), H', ⟨by have := HK1.out; have := HJ5.out; have := HJ30.out; omega⟩, ⟨by (with_reducible repeat (first | apply Kd.R_alloc | apply Kd.R_drewN | apply Kd.R_drew)); exact Kd.R_mono HO109.out (fun _ hk => trivial)⟩, ⟨by repeat (first | (with_reducible first | exact HB.out | apply below_alloc | apply pw_below_drewN | apply below_drew1 | refine below_set ?_ GE101.out) | exact HB.out)⟩⟩
                      · rw [if_neg c41] at H
                        exact absurd H (by simp)
          · rw [if_neg c5] at H
            exact absurd H (by simp)
        · rw [if_neg c3] at H
          exact absurd H (by simp)

end Go.Proofs.YtindffllmlifiaaDoor.Q
