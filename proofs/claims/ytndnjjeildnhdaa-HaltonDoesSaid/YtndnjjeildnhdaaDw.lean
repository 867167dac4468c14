/- Chapter 23: the example, handed to the reckoner. -/
import Derived.Test.YtndnjjeildnhdaaDv
set_option linter.unusedVariables false
namespace Go.Proofs.Ytndnjjeildnhdaa.Sx
open Go.RowKit
theorem c_strewn (W : World) : Flat Try.prog E W Any 14 [] fun l => tupleV (resV E 20 l [.b] 0 0) := by
  refine flat_calls rfl fun l w hl hI => ?_
  obtain rfl := cut0 hl
  exact Mt.strewn_any w
noncomputable def ch4 : Cx := ⟨ch3.ty, ch3.fn, [flatCon 14 [] [.b] 20 noChk] ++ ch3.con, ch3.inl, ch3.eqs⟩
theorem ch4_ok (W : World) : ∀ l, Any l → CxOk Try.prog (E.at l) W ch4 :=
  cx_more (fun l h => ch3_ok W l trivial) (List.forall_mem_cons.2 ⟨flat_con' (c_strewn W), (fun _ h => by cases h)⟩)
end Go.Proofs.Ytndnjjeildnhdaa.Sx
