/- The reckoner's first table of this seat. -/
import Derived.Test.YtfkgjpdipdllhaaMu
import Derived.Test.YtfkgjpdipdllhaaTb
set_option linter.unusedVariables false
namespace Go.Proofs.Ytfkgjpdipdllhaa.Sx
open Go.RowKit
noncomputable def cx0 : Cx := ⟨tys, fns, [], [], [(24, 2)]⟩
theorem eqV2 : EqOk Try.prog 24 2 := eqOk_struct Try.underlying24 (by kernel_rfl) (by kernel_rfl) ⟨by decide, Try.underlying3, rfl, by decide, Try.underlying3, rfl, trivial⟩
theorem cx0_ok (W : World) (l : List Int) (_ : Any l) : CxOk Try.prog (E.at l) W cx0 :=
  ⟨tys_ok, fns_ok, (fun _ h => by cases h), List.forall_mem_cons.2 ⟨eqV2, (fun _ h => by cases h)⟩, by kernel_rfl⟩
end Go.Proofs.Ytfkgjpdipdllhaa.Sx
