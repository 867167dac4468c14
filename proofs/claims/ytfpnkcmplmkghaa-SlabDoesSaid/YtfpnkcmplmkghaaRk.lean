/- The reference's Cmp of chapter 3, handed to the reckoner for chapter 13. -/
import Derived.Test.YtfpnkcmplmkghaaF1
import Derived.Test.YtfpnkcmplmkghaaS4
set_option linter.unusedVariables false
namespace Go.Proofs.Ytfpnkcmplmkghaa.Sx
open Go.RowKit
theorem c_rfcmp (W : World) : Flat Try.prog E W Any 51 [.g 2, .g 2] fun l => tupleV (resV E 51 l [.i] 0 0) := by
  refine flat_calls rfl fun l w hl hI => ?_
  obtain ⟨a, l1, rfl, h1⟩ := cut1 hl
  obtain ⟨b, l2, rfl, h2⟩ := cut1 h1
  obtain ⟨c, l3, rfl, h3⟩ := cut1 h2
  obtain ⟨d, l4, rfl, h4⟩ := cut1 h3
  obtain rfl := cut0 h4
  exact Fc.rcmp_any a b c d w
noncomputable def cs5 : Cx := ⟨cs4.ty, cs4.fn, [flatCon 51 [.g 2, .g 2] [.i] 51 noChk] ++ cs4.con, cs4.inl, cs4.eqs⟩
theorem cs5_ok (W : World) : ∀ l, Any l → CxOk Try.prog (E.at l) W cs5 :=
  cx_more (fun l h => cs4_ok W l trivial) (List.forall_mem_cons.2 ⟨flat_con' (c_rfcmp W), (fun _ h => by cases h)⟩)
end Go.Proofs.Ytfpnkcmplmkghaa.Sx
