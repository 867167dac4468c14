/- Structs of two numbers that are compared: fractions and wide numbers. -/
import Derived.Test.YtfpnkcmplmkghaaQ1
import Derived.KernelRfl
set_option linter.unusedVariables false
namespace Go.Proofs.Ytfpnkcmplmkghaa.Sx
open Go.RowKit
theorem eqWide : EqOk Try.prog 141 2 := eqOk_struct Try.underlying141 (by kernel_rfl) (by kernel_rfl) ⟨by decide, Try.underlying3, rfl, by decide, Try.underlying3, rfl, trivial⟩
theorem eqFrac : EqOk Try.prog 54 2 := eqOk_struct Try.underlying54 (by kernel_rfl) (by kernel_rfl) ⟨by decide, Try.underlying3, rfl, by decide, Try.underlying3, rfl, trivial⟩
noncomputable def cy3e : Cx := ⟨cy3.ty, cy3.fn, cy3.con, cy3.inl, (141, 2) :: (54, 2) :: cy3.eqs⟩
theorem cy3e_ok (W : World) (l : List Int) (h : Any l) : CxOk Try.prog (E.at l) W cy3e :=
  have x := cy3_ok W l h
  ⟨x.ty, x.fn, x.con, List.forall_mem_cons.2 ⟨eqWide, List.forall_mem_cons.2 ⟨eqFrac, x.eqs⟩⟩, x.mixed⟩
end Go.Proofs.Ytfpnkcmplmkghaa.Sx
