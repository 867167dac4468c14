/- Chapter 19: the example, handed to the reckoner. -/
import Derived.Test.YtfkgjpdipdllhaaOem
set_option linter.unusedVariables false
namespace Go.Proofs.Ytfkgjpdipdllhaa.Sx
open Go.RowKit
theorem c_owned (W : World) : Flat Try.prog E W Any 18 [] fun l => tupleV (resV E 20 l [.b] 0 0) := by
  refine flat_calls rfl fun l w hl hI => ?_
  obtain rfl := cut0 hl
  exact Mt.owned_any w
noncomputable def crx2 : Cx := ⟨cr1.ty, cr1.fn, [flatCon 18 [] [.b] 20 noChk] ++ cr1.con, cr1.inl, cr1.eqs⟩
theorem crx2_ok (W : World) : ∀ l, Any l → CxOk Try.prog (E.at l) W crx2 :=
  cx_more (fun l h => cr1_ok W l trivial) (List.forall_mem_cons.2 ⟨flat_con' (c_owned W), (fun _ h => by cases h)⟩)
end Go.Proofs.Ytfkgjpdipdllhaa.Sx
