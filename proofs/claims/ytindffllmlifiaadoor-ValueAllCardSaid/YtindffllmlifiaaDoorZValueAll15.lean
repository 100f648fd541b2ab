/- value.Key: its contract. -/
import Derived.Test.YtindffllmlifiaaDoorZValueAll14
import Derived.Test.YtindffllmlifiaaDoorZValueAll4
namespace Go.Proofs.YtindffllmlifiaaDoor.Q
open Go.RowKit Go.Shelf Go.Proofs.YtindffllmlifiaaDoorW.PrintWords Go.Proofs.YtindffllmlifiaaDoorW.PrintLast Go.Proofs.YtindffllmlifiaaDoorW.PrintMore
set_option linter.unusedVariables false
set_option linter.unusedSimpArgs false
set_option maxHeartbeats 4000000 in
set_option maxRecDepth 100000 in
theorem Key_wrong (A : Option Addr) (c : Nat) (l : List Va) (w : World) (hC : Kd.C k23 w A l.length l) (hc : l.length ≤ c) (K : Nat) (hrow : value_Row.f K l = some false) :
    Calls Tryd.prog 16 #[.slice A l.length c] w fun e w' => e = .returned (.tuple #[.string ⟨#[]⟩, .int .i64 31]) ∧ Below w.heap.size w w' := by
  have hro := value_Row.calls K A c l false w hC hc hrow
  go_enter Tryd.func16, Tryd.ntmps16
  go_wp2_with (go_at_call 13; refine hro.mono ?_; rintro e w1 ⟨rfl, hb1⟩)
  go_ret2
  exact ⟨rfl, hb1⟩
/-- What value.Key comes to. -/
def keyR (l : List Va) : ByteArray × Int := if rowOk l = true then (strOfNums (keyB l), 0) else (⟨#[]⟩, 31)
theorem rowOk_parts {l : List Va} (h : rowOk l = true) : l.length ≤ 12 ∧ ∀ v ∈ l, chkV v = 0 := by
  unfold rowOk at h
  rw [Bool.and_eq_true] at h
  exact ⟨of_decide_eq_true h.1, fun v hv => by have := List.all_eq_true.1 h.2 v hv; simpa using this⟩
theorem chk_size {v : Va} (h : chkV v = 0) : v.f2.size ≤ 200 := by
  rcases chk_parts h with ⟨_, _, h⟩ | ⟨_, h⟩ | ⟨_, _, h⟩ | ⟨_, _, h⟩
  · rw [toList_nil h]; exact Nat.zero_le _
  · rw [toList_nil h]; exact Nat.zero_le _
  · rw [toList_nil h]; exact Nat.zero_le _
  · exact h
def value_Key.f (l0 : List Va) : Option (ByteArray × Int) := if l0.length ≤ 9223372036854775806 ∧ ∀ v ∈ l0, in64 v.f1 then some (keyR l0) else none
theorem value_Key.calls (A0 : Option Addr) (c0 : Nat) (l0 : List Va) (r1 : ByteArray) (r2 : Int) (w : World) (hr0 : Kd.C k23 w A0 l0.length l0) (hc0 : l0.length ≤ c0) (h : value_Key.f l0 = some (r1, r2)) :
    Calls Tryd.prog 16 #[.slice A0 l0.length c0] w fun e w' => e = .returned (.tuple #[.string r1, .int .i64 r2]) ∧ Below w.heap.size w w' := by
  unfold value_Key.f at h
  split at h
  · rename_i hi
    have h := Option.some.inj h
    obtain ⟨K, hK⟩ := (row_ev l0 hi.1).rounds
    unfold keyR at h
    by_cases hr : rowOk l0 = true
    · rw [if_pos hr] at h
      rw [hr] at hK
      obtain ⟨rfl, rfl⟩ := Prod.mk.inj h
      obtain ⟨h1, h2⟩ := rowOk_parts hr
      exact callsIn_wide.1 (Key_in A0 c0 l0 h1 (fun v hv => ⟨chk_size (h2 v hv), hi.2 v hv⟩) w hr0 hc0 K hK)
    · rw [if_neg hr] at h
      have hf : rowOk l0 = false := by cases hb : rowOk l0 <;> simp_all
      rw [hf] at hK
      obtain ⟨rfl, rfl⟩ := Prod.mk.inj h
      exact Key_wrong A0 c0 l0 w hr0 hc0 K hK
  · cases h
end Go.Proofs.YtindffllmlifiaaDoor.Q
