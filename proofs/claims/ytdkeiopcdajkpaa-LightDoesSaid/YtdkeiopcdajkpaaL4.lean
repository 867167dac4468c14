/- Contracts, reckoned. -/
import Derived.Test.YtdkeiopcdajkpaaL3
import Derived.KernelRfl
set_option linter.unusedVariables false
set_option linter.unusedSimpArgs false
namespace Go.Proofs.Ytdkeiopcdajkpaa.Sx
open Go.RowKit


noncomputable def cx4 : Cx := ⟨cx3.ty, cx3.fn, [] ++ cx3.con, cx3.inl, cx3.eqs⟩
theorem cx4_ok (W : World) : ∀ l, Any l → CxOk Try.prog (E.at l) W cx4 :=
  cx_more (cx3_ok W) ((fun _ h => by cases h))
end Go.Proofs.Ytdkeiopcdajkpaa.Sx
