/- The reckoner's first table of this seat. -/
import Derived.Test.YtlfoglklibhbnaaGreatMu
import Derived.Test.YtlfoglklibhbnaaGreatTb
set_option linter.unusedVariables false
namespace Go.Proofs.YtlfoglklibhbnaaGreat.Sx
open Go.RowKit
noncomputable def cx0 : Cx := ⟨tys, fns, [], [], [(63, 3), (38, 2)]⟩
theorem eqV3 : EqOk Tryz.prog 63 3 := eqOk_struct Tryz.underlying63 (by kernel_rfl) (by kernel_rfl) ⟨by decide, Tryz.underlying3, rfl, by decide, Tryz.underlying3, rfl, by decide, Tryz.underlying3, rfl, trivial⟩
theorem eqV2 : EqOk Tryz.prog 38 2 := eqOk_struct Tryz.underlying38 (by kernel_rfl) (by kernel_rfl) ⟨by decide, Tryz.underlying3, rfl, by decide, Tryz.underlying3, rfl, trivial⟩
theorem cx0_ok (W : World) (l : List Int) (_ : Any l) : CxOk Tryz.prog (E.at l) W cx0 :=
  ⟨tys_ok, fns_ok, (fun _ h => by cases h), List.forall_mem_cons.2 ⟨eqV3, List.forall_mem_cons.2 ⟨eqV2, (fun _ h => by cases h)⟩⟩, by kernel_rfl⟩
end Go.Proofs.YtlfoglklibhbnaaGreat.Sx
