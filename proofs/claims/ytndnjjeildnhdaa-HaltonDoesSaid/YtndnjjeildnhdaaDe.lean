/- Chapter 23: the two Inverses, handed to the reckoner. -/
import Derived.Test.YtndnjjeildnhdaaDd
import Derived.Test.YtndnjjeildnhdaaC0
set_option linter.unusedVariables false
namespace Go.Proofs.Ytndnjjeildnhdaa.Sx
open Go.RowKit
theorem c_inv (W : World) : Flat Try.prog E W Any 8 [.i, .i] fun l => tupleV (resV E 72 l [.g 2, .i] 0 0) := by
  refine flat_calls rfl fun l w hl hI => ?_
  obtain ⟨a, l1, rfl, h1⟩ := cut1 hl
  obtain ⟨b, l2, rfl, h2⟩ := cut1 h1
  obtain rfl := cut0 h2
  exact Mt.inverse_any a b w
theorem c_rinv (W : World) : Flat Try.prog E W Any 9 [.i, .i] fun l => tupleV (resV E 72 l [.g 2, .i] 0 0) := by
  refine flat_calls rfl fun l w hl hI => ?_
  obtain ⟨a, l1, rfl, h1⟩ := cut1 hl
  obtain ⟨b, l2, rfl, h2⟩ := cut1 h1
  obtain rfl := cut0 h2
  exact Mt.rinverse_any a b w
noncomputable def ch1 : Cx := ⟨cx0.ty, cx0.fn, [flatCon 8 [.i, .i] [.g 2, .i] 72 noChk, flatCon 9 [.i, .i] [.g 2, .i] 72 noChk] ++ cx0.con, cx0.inl, cx0.eqs⟩
theorem ch1_ok (W : World) : ∀ l, Any l → CxOk Try.prog (E.at l) W ch1 :=
  cx_more (fun l h => cx0_ok W l trivial) (List.forall_mem_cons.2 ⟨flat_con' (c_inv W), List.forall_mem_cons.2 ⟨flat_con' (c_rinv W), (fun _ h => by cases h)⟩⟩)
end Go.Proofs.Ytndnjjeildnhdaa.Sx
