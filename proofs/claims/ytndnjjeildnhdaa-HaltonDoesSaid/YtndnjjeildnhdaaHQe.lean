/- Structs of two numbers that are compared: fractions and wide numbers. -/
import Derived.Test.YtndnjjeildnhdaaHQ1
import Derived.KernelRfl
set_option linter.unusedVariables false
namespace Go.Proofs.Ytndnjjeildnhdaa.Sx
open Go.RowKit
theorem eqWide : EqOk Try.prog 70 2 := eqOk_struct Try.underlying70 (by kernel_rfl) (by kernel_rfl) ⟨by decide, Try.underlying3, rfl, by decide, Try.underlying3, rfl, trivial⟩
theorem eqFrac : EqOk Try.prog 25 2 := eqOk_struct Try.underlying25 (by kernel_rfl) (by kernel_rfl) ⟨by decide, Try.underlying3, rfl, by decide, Try.underlying3, rfl, trivial⟩
noncomputable def ch5e : Cx := ⟨ch5.ty, ch5.fn, ch5.con, ch5.inl, (70, 2) :: (25, 2) :: ch5.eqs⟩
theorem ch5e_ok (W : World) (l : List Int) (h : Any l) : CxOk Try.prog (E.at l) W ch5e :=
  have x := ch5_ok W l h
  ⟨x.ty, x.fn, x.con, List.forall_mem_cons.2 ⟨eqWide, List.forall_mem_cons.2 ⟨eqFrac, x.eqs⟩⟩, x.mixed⟩
end Go.Proofs.Ytndnjjeildnhdaa.Sx
