/- From a row's list of laid variables to what the walks ask of the world. -/
import Derived.Test.YtnjlgeenhmamjaaGreatDoorZDecodeBack9
import Derived.Test.YtnjlgeenhmamjaaGreatDoorRows
import Derived.Stop.LaidErr
namespace Go.Proofs.YtnjlgeenhmamjaaGreatDoor.Q
open Go.RowKit
theorem tab_eq : (Rows.laid_internal_strconv_uint64pow10 : DataW Unit) = Lib.tabData .u64 Lib.pow10Tab := by kernel_rfl
theorem err_star : "*" ++ "errors.errorString" = "*errors.errorString" := by decide
theorem err_row (u : TypeId) (h : Tryz.prog.typeName? 3 u = some "*errors.errorString") : u = 173 :=
  typeName_ptr_named (nm := "errors.errorString") (by rw [err_star]; kernel_rfl) (by kernel_rfl) (by decide) u (by rw [err_star]; exact h)
theorem err_cells : Tryz.prog.cellsOf 175 = 1 := by kernel_rfl
theorem str_cells : Tryz.prog.cellsOf 9 = 1 := by kernel_rfl
theorem gES : Tryz.prog.globalNamed "strconv.ErrSyntax" = some 2 := by kernel_rfl
theorem gESt : (Tryz.prog.globals[(2 : Nat)]?).map (·.type) = some 82 := by kernel_rfl
theorem gER : Tryz.prog.globalNamed "strconv.ErrRange" = some 3 := by kernel_rfl
theorem gERt : (Tryz.prog.globals[(3 : Nat)]?).map (·.type) = some 82 := by kernel_rfl
theorem gPow : Tryz.prog.globalNamed "internal/strconv.uint64pow10" = some 0 := by kernel_rfl
theorem gPowt : (Tryz.prog.globals[(0 : Nat)]?).map (·.type) = some 111 := by kernel_rfl
theorem pow_ce : Tryz.prog.cellsOf 88 = 1 := by kernel_rfl
theorem pow_ct : Tryz.prog.cellsOf 111 = 20 := by kernel_rfl
/-- What the list of laid variables gives. -/
theorem glob_of_laid (W : World) (h : laidMet Tryz.prog [("math/bits.deBruijn32tab", Rows.laid_math_bits_deBruijn32tab), ("math/bits.deBruijn64tab", Rows.laid_math_bits_deBruijn64tab), ("internal/strconv.uint64pow10", Rows.laid_internal_strconv_uint64pow10), ("strconv.ErrRange", Rows.laid_strconv_ErrRange), ("strconv.ErrSyntax", Rows.laid_strconv_ErrSyntax)] W) : Glob W := by
  have h2 := h.tail.tail
  rw [tab_eq] at h2
  have hp := Lib.tabIs_of_head (P := Tryz.prog) gPow gPowt Tryz.underlying111 Tryz.underlying88 pow_ce pow_ct h2
  obtain ⟨a1, s1, hv1, -, -, -⟩ := laid_sentinel h2.tail gER gERt Tryz.underlying82 err_row Tryz.underlying173 Tryz.underlying175 rfl rfl Tryz.underlying9 err_cells str_cells
  obtain ⟨a0, s0, hv0, -, -, -⟩ := laid_sentinel h2.tail.tail gES gESt Tryz.underlying82 err_row Tryz.underlying173 Tryz.underlying175 rfl rfl Tryz.underlying9 err_cells str_cells
  exact ⟨hp, ⟨_, by have h0 := World.var?_cell gES hv0 0; simpa using h0, .inr ⟨_, _, rfl⟩⟩, ⟨_, by have h0 := World.var?_cell gER hv1 0; simpa using h0, .inr ⟨_, _, rfl⟩⟩⟩
end Go.Proofs.YtnjlgeenhmamjaaGreatDoor.Q
