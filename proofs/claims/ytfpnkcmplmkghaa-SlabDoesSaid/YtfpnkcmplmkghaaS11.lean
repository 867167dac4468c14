/- Contracts, reckoned. -/
import Derived.Test.YtfpnkcmplmkghaaRk
import Derived.Test.YtfpnkcmplmkghaaFw
import Derived.Test.YtfpnkcmplmkghaaSm
import Derived.KernelRfl
set_option linter.unusedVariables false
set_option linter.unusedSimpArgs false
namespace Go.Proofs.Ytfpnkcmplmkghaa.Sx
open Go.RowKit


def R_ris : AV := (.bool (.ite (.app 2 0 (.cons (.var 0) (.cons (.var 1) (.cons (.var 2) .nil)))) (.ite (.app 2 0 (.cons (.var 3) (.cons (.var 4) (.cons (.var 5) .nil)))) (.ite (.le (.var 0) (.var 3)) (.ite (.le (.var 1) (.var 4)) (.le (.var 2) (.var 5)) (.blit false)) (.blit false)) (.blit false)) (.blit false)))
theorem k_ris : acall cs5 20 false 62 [] (argsG [.g 6] 0 0) (heapG [.g 6] 0) = .leaf (R_ris, heapG [.g 6] 0) := by kernel_rfl
set_option maxHeartbeats 4000000 in
set_option maxRecDepth 20000 in
theorem v_ris : ∀ l : List Int, l.length = lenSh [.g 6] → Any l → valOf (E.at l) R_ris = some (tupleV (resV E 53 l [.b] 0 0)) := by
  intro l hl hG
  have h0 : l.length = 6 := hl
  clear hl
  obtain ⟨a0, l1, rfl, h1⟩ := cut1 h0
  clear h0
  obtain ⟨a1, l2, rfl, h2⟩ := cut1 h1
  clear h1
  obtain ⟨a2, l3, rfl, h3⟩ := cut1 h2
  clear h2
  obtain ⟨a3, l4, rfl, h4⟩ := cut1 h3
  clear h3
  obtain ⟨a4, l5, rfl, h5⟩ := cut1 h4
  clear h4
  obtain ⟨a5, l6, rfl, h6⟩ := cut1 h5
  clear h5
  obtain rfl := cut0 h6
  clear h6
  simp only [R_ris, valOf, vals1, valInts, val1, tupleV, resV, valsI, den, bt1, bt2, bt3, bt4, Env.at, E, fb, fi, List.getD_cons_zero, List.getD_cons_succ, List.all_cons, List.all_nil, Bool.and_true, nr', us', ss', nr2, us2, ss2, nr3, us3, ss3, Bool.and_assoc, Option.map_some, List.all_append, List.take_succ_cons, List.take_zero, List.drop_succ_cons, List.drop_zero, sis]

theorem c_ris (W : World) : Flat Try.prog E W Any 62 [.g 6] fun l => tupleV (resV E 53 l [.b] 0 0) := flat_val (cs5_ok W) k_ris v_ris

noncomputable def cs6 : Cx := ⟨cs5.ty, cs5.fn, [flatCon 62 [.g 6] [.b] 53 noChk] ++ cs5.con, cs5.inl, cs5.eqs⟩
theorem cs6_ok (W : World) : ∀ l, Any l → CxOk Try.prog (E.at l) W cs6 :=
  cx_more (cs5_ok W) (List.forall_mem_cons.2 ⟨flat_con' (c_ris W), (fun _ h => by cases h)⟩)
end Go.Proofs.Ytfpnkcmplmkghaa.Sx
