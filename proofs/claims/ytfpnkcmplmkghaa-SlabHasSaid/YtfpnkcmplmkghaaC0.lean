/- The reckoner's first table of this seat. -/
import Derived.Test.YtfpnkcmplmkghaaMu
import Derived.Test.YtfpnkcmplmkghaaTb
set_option linter.unusedVariables false
namespace Go.Proofs.Ytfpnkcmplmkghaa.Sx
open Go.RowKit
noncomputable def cx0 : Cx := ⟨tys, fns, [], [], [(29, 3), (43, 2)]⟩
theorem eqV3 : EqOk Try.prog 29 3 := eqOk_struct Try.underlying29 (by kernel_rfl) (by kernel_rfl) ⟨by decide, Try.underlying3, rfl, by decide, Try.underlying3, rfl, by decide, Try.underlying3, rfl, trivial⟩
theorem eqV2 : EqOk Try.prog 43 2 := eqOk_struct Try.underlying43 (by kernel_rfl) (by kernel_rfl) ⟨by decide, Try.underlying3, rfl, by decide, Try.underlying3, rfl, trivial⟩
theorem cx0_ok (W : World) (l : List Int) (_ : Any l) : CxOk Try.prog (E.at l) W cx0 :=
  ⟨tys_ok, fns_ok, (fun _ h => by cases h), List.forall_mem_cons.2 ⟨eqV3, List.forall_mem_cons.2 ⟨eqV2, (fun _ h => by cases h)⟩⟩, by kernel_rfl⟩
end Go.Proofs.Ytfpnkcmplmkghaa.Sx
