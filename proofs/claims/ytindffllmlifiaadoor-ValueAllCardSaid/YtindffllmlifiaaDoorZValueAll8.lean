/- value.eight: walked: eight bytes put behind bytes that the caller owns. -/
import Derived.Test.YtindffllmlifiaaDoorZValueAll5
import Derived.Test.YtindffllmlifiaaDoorZValueAll1
import Derived.RangeFuncOwn
namespace Go.Proofs.YtindffllmlifiaaDoor.Q
open Go.RowKit Go.Proofs.YtindffllmlifiaaDoorW.PrintWords Go.Proofs.YtindffllmlifiaaDoorW.PrintLast Go.Proofs.YtindffllmlifiaaDoorW.PrintMore
set_option linter.unusedVariables false
set_option linter.unusedSimpArgs false
/-- A number's eight bytes, the highest first. -/
def eightB (n : Int) : List Int := (List.range 8).map fun i => (n / 2 ^ (56 - 8 * i)) % 256
theorem eightB_take (n : Int) {i : Nat} (h : i < 8) : (eightB n).take (i + 1) = (eightB n).take i ++ [(n / 2 ^ (56 - 8 * i)) % 256] := by
  rw [List.take_succ_eq_append_getElem (by simp [eightB]; exact h)]
  congr 2
  simp [eightB]
theorem infoU8e : (Tryd.prog.info? 5).map (fun i => (i.zero, i.size, i.bytes)) = some (some (.int .u8 0), 1, 1) := by kernel_rfl
set_option maxHeartbeats 4000000 in
set_option maxRecDepth 100000 in
theorem eight_walk (v : Value) (xs : List Int) (n : Int) (h0 : 0 ≤ n) (h1 : n < 18446744073709551616) (base : Nat) (w : World) (hO : RB w base 5 v xs) (hb : base ≤ w.heap.size) (hl : xs.length + 8 ≤ 140737488355328) :
    Calls Tryd.prog 30 #[v, .int .u64 n] w fun e w' => ∃ v', e = .returned v' ∧ RB w' base 5 v' (xs ++ eightB n) ∧ Below base w w' ∧ KeepsOthers w w' := by
  have HO := Aside0.mk hO
  clear hO
  go_enter Tryd.func30, Tryd.ntmps30
  go_wp2
  go_loopg [0, 6] 8 (fun kq v0 v6 wr => ∃ i : Nat, v6 = .int .i64 i ∧ Aside0 (i + kq = 8) ∧ Aside0 (RB wr base 5 v0 (xs ++ (eightB n).take i)) ∧ Aside0 (Below base w wr) ∧ Aside0 (base ≤ wr.heap.size) ∧ Aside0 (KeepsOthers w wr))
  case atStart => exact ⟨0, rfl, ⟨by omega⟩, ⟨by have h := HO.out; simpa using h⟩, ⟨Below.refl _ _⟩, ⟨hb⟩, ⟨KeepsOthers.refl _⟩⟩
  case round =>
    obtain ⟨i, rfl, HI, HOr, HB, HZ, HK⟩ := hrel
    cases gk with
    | zero =>
      have hi : i = 8 := HI.out
      subst hi
      have hlen : (eightB n).length = 8 := rfl
      have HO2 : Aside0 (RB wr base 5 u0 (xs ++ eightB n)) := ⟨by have h := HOr.out; rwa [List.take_of_length_le (by omega)] at h⟩
      go_wp2
      go_ret
      exact ⟨_, rfl, HO2.out, HB.out, HK.out⟩
    | succ k1 =>
      have hi : i < 8 := by have := HI.out; omega
      have hlb : decide ((i : Int) < 8) = true := decide_eq_true (by omega)
      have hlb2 : decide (i < 8) = true := decide_eq_true hi
      have hw1 : wrap64 (8 * (i : Int)) = 8 * (i : Int) := wrap_in (by unfold in64; omega)
      have hw2 : wrap64 (56 - 8 * (i : Int)) = 56 - 8 * (i : Int) := wrap_in (by unfold in64; omega)
      have hw3 : wrap64 ((i : Int) + 1) = (i : Int) + 1 := wrap_in (by unfold in64; omega)
      have htk : Aside0 (xs ++ (eightB n).take i ++ [n / 2 ^ (56 - 8 * i) % 256] = xs ++ (eightB n).take (i + 1)) := ⟨by rw [eightB_take n hi, List.append_assoc]⟩
      have HL : Aside0 ((xs ++ (eightB n).take i).length + 1 ≤ 140737488355328) := ⟨by
        have h1 : ((eightB n).take i).length ≤ i := List.length_take_le _ _
        rw [List.length_append]
        omega⟩
      go_wp2_with ((with_reducible refine gate_builtin (b := .append) (xs := #[.tmp 9, .tmp 16]) rfl ?_); (try (refine gate_guard (by rfl) ?_; dsimp only)); at_builtin; refine Kd.R_append (Kd.int .u8) (w0 := w) base rfl (.tmp 9) (.tmp 16) 52 5 (.int .u8 0) 1 rfl Tryd.underlying52 infoU8e rfl (by decide) (by omega) u0 (xs ++ (eightB n).take i) (n / 2 ^ (56 - 8 * i) % 256) [.int .u8 (n / 2 ^ (56 - 8 * i) % 256)] (fun _ => True) (fun _ => False) rfl rfl ?aP (fun _ hk => hk.elim) ?aF ?aO ?aB ?aS ?aL ?_; (case aP => exact rfl); (case aB => exact HB.out); (case aF => exact (fun _ _ => trivial)); (case aO => exact HOr.out.R); (case aS => exact HZ.out); (case aL => have := HL.out; omega); intro v1 w3 ho hb3 hg hat; rw [htk.out] at ho; have HO3 := Aside0.mk (RB.of_R ho); have HB3 := Aside0.mk hb3; have HZ3 := Aside0.mk (show base ≤ w3.heap.size by have h1 := hg.size; have h2 := HZ.out; omega); have HK3 := Aside0.mk (HK.out.trans (KeepsOthers.of_grownBy hg (fun j o e ho => by obtain ⟨cells, hc⟩ := own_typed HOr.out j e; rw [hc] at ho; cases ho; rfl))); clear ho hb3 hg hat)
      go_roundg k1
      case measure => omega
      case rel => exact ⟨i + 1, by congr 1, ⟨by have := HI.out; omega⟩, HO3, HB3, HZ3, HK3⟩
end Go.Proofs.YtindffllmlifiaaDoor.Q
