/- strings.IndexByte: walked; it comes to the first place of the byte. -/
import Derived.Test.YtindffllmlifiaaDoorK
import Derived.Laws.Externs
import Derived.Lib.Bytealg
import Derived.Lib.Strings
namespace Go.Proofs.YtindffllmlifiaaDoor.Q
open Go.RowKit Go.Proofs.YtindffllmlifiaaDoorW.PrintWords Go.Proofs.YtindffllmlifiaaDoorW.PrintLast Go.Proofs.YtindffllmlifiaaDoorW.PrintMore
set_option linter.unusedVariables false
set_option linter.unusedSimpArgs false
def strings_IndexByte.f (a0 : ByteArray) (a1 : Int) : Option Int := some (Lib.indexByte a0.data.toList a1.toNat.toUInt8)
set_option maxHeartbeats 1000000 in
theorem liteIndexByte_calls (s : ByteArray) (c : Int) (w : World) :
    Calls Tryd.prog 50 #[.string s, .int .u8 c] w fun e w' => e = .returned (.int .i64 (Lib.indexByte s.data.toList c.toNat.toUInt8)) ∧ w = w' := by
  go_enter Tryd.func50, Tryd.ntmps50
  go_wp2
  rw [run_callFunc_extern (e := Extern.BytealgIndexByte.indexByte) Tryd.func58 (by kernel_rfl) (by kernel_rfl) (by kernel_rfl) (by kernel_rfl), Lib.run_indexByteString]
  simp only [Result.andThen]
  rw [Oper.upon_value]
  go_wp2
  go_ret
  exact ⟨rfl, rfl⟩
theorem strings_IndexByte.calls (a0 : ByteArray) (a1 : Int) (r : Int) (w : World) (h : strings_IndexByte.f a0 a1 = some r) :
    Calls Tryd.prog 40 #[.string a0, .int .u8 a1] w fun e w' => e = .returned (.int .i64 r) ∧ Below w.heap.size w w' := by
  obtain rfl := Option.some.inj h
  go_enter Tryd.func40, Tryd.ntmps40
  go_wp2_with (go_at_call 50; refine (liteIndexByte_calls _ _ _).mono ?_; rintro e w' ⟨rfl, rfl⟩)
  go_ret
  exact ⟨rfl, Below.refl _ _⟩
end Go.Proofs.YtindffllmlifiaaDoor.Q
/- strings.Compare: walked; it comes to the comparison of the bytes. -/
namespace Go.Proofs.YtindffllmlifiaaDoor.Q
open Go.RowKit Go.Proofs.YtindffllmlifiaaDoorW.PrintWords Go.Proofs.YtindffllmlifiaaDoorW.PrintLast Go.Proofs.YtindffllmlifiaaDoorW.PrintMore
set_option linter.unusedVariables false
set_option linter.unusedSimpArgs false
end Go.Proofs.YtindffllmlifiaaDoor.Q
-- Written by a program of the session over the translation's print: functions as plain Lean, and that the machine's call comes to them.
namespace Go.Proofs.YtindffllmlifiaaDoor.Q
open Go.RowKit Go.Proofs.YtindffllmlifiaaDoorW.PrintWords Go.Proofs.YtindffllmlifiaaDoorW.PrintLast Go.Proofs.YtindffllmlifiaaDoorW.PrintMore
attribute [local go_sem] max2_int min2_int max_two min_two max_three min_three max_four min_four   -- for this text's walks alone
set_option linter.unusedVariables false
set_option linter.unusedSimpArgs false

/-! ### cmp_Or_int: function 35 -/
/-! ### cmp_isNaN_int: function 41 -/
/-! ### cmp_Compare_int: function 36 -/
/-! ### cmp_isNaN_int64: function 42 -/
/-! ### cmp_Compare_int64: function 37 -/
/-! ### value_Cmp: function 26 -/
end Go.Proofs.YtindffllmlifiaaDoor.Q
