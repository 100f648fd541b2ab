/- From a row's list of laid variables to what the walks ask of the world. -/
import Derived.Test.YtnjlgeenhmamjaaDoorZDecodeRows9
import Derived.Test.YtnjlgeenhmamjaaDoorRows
import Derived.Stop.LaidErr
namespace Go.Proofs.YtnjlgeenhmamjaaDoor.Q
open Go.RowKit
theorem tab_eq : (Rows.laid_internal_strconv_uint64pow10 : DataW Unit) = Lib.tabData .u64 Lib.pow10Tab := by kernel_rfl
theorem err_star : "*" ++ "errors.errorString" = "*errors.errorString" := by decide
theorem err_row (u : TypeId) (h : Tryd.prog.typeName? 3 u = some "*errors.errorString") : u = 95 :=
  typeName_ptr_named (nm := "errors.errorString") (by rw [err_star]; kernel_rfl) (by kernel_rfl) (by decide) u (by rw [err_star]; exact h)
theorem err_cells : Tryd.prog.cellsOf 97 = 1 := by kernel_rfl
theorem str_cells : Tryd.prog.cellsOf 9 = 1 := by kernel_rfl
theorem gES : Tryd.prog.globalNamed "strconv.ErrSyntax" = some 0 := by kernel_rfl
theorem gESt : (Tryd.prog.globals[(0 : Nat)]?).map (·.type) = some 55 := by kernel_rfl
theorem gER : Tryd.prog.globalNamed "strconv.ErrRange" = some 1 := by kernel_rfl
theorem gERt : (Tryd.prog.globals[(1 : Nat)]?).map (·.type) = some 55 := by kernel_rfl
theorem gPow : Tryd.prog.globalNamed "internal/strconv.uint64pow10" = some 2 := by kernel_rfl
theorem gPowt : (Tryd.prog.globals[(2 : Nat)]?).map (·.type) = some 89 := by kernel_rfl
theorem pow_ce : Tryd.prog.cellsOf 68 = 1 := by kernel_rfl
theorem pow_ct : Tryd.prog.cellsOf 89 = 20 := by kernel_rfl
/-- What the list of laid variables gives. -/
theorem glob_of_laid (W : World) (h : laidMet Tryd.prog [("math/bits.deBruijn32tab", Rows.laid_math_bits_deBruijn32tab), ("math/bits.deBruijn64tab", Rows.laid_math_bits_deBruijn64tab), ("internal/strconv.uint64pow10", Rows.laid_internal_strconv_uint64pow10), ("strconv.ErrRange", Rows.laid_strconv_ErrRange), ("strconv.ErrSyntax", Rows.laid_strconv_ErrSyntax)] W) : Glob W := by
  have h2 := h.tail.tail
  rw [tab_eq] at h2
  have hp := Lib.tabIs_of_head (P := Tryd.prog) gPow gPowt Tryd.underlying89 Tryd.underlying68 pow_ce pow_ct h2
  obtain ⟨a1, s1, hv1, -, -, -⟩ := laid_sentinel h2.tail gER gERt Tryd.underlying55 err_row Tryd.underlying95 Tryd.underlying97 rfl rfl Tryd.underlying9 err_cells str_cells
  obtain ⟨a0, s0, hv0, -, -, -⟩ := laid_sentinel h2.tail.tail gES gESt Tryd.underlying55 err_row Tryd.underlying95 Tryd.underlying97 rfl rfl Tryd.underlying9 err_cells str_cells
  exact ⟨hp, ⟨_, by have h0 := World.var?_cell gES hv0 0; simpa using h0, .inr ⟨_, _, rfl⟩⟩, ⟨_, by have h0 := World.var?_cell gER hv1 0; simpa using h0, .inr ⟨_, _, rfl⟩⟩⟩
end Go.Proofs.YtnjlgeenhmamjaaDoor.Q
