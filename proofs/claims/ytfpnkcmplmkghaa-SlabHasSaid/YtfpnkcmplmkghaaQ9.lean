/- Contracts, reckoned. -/
import Derived.Test.YtfpnkcmplmkghaaQ8
import Derived.KernelRfl
set_option linter.unusedVariables false
set_option linter.unusedSimpArgs false
namespace Go.Proofs.Ytfpnkcmplmkghaa.Sx
open Go.RowKit


def R_ris3 : AV := (.bool (.ite (.le (.lit 1) (.var 1)) (.ite (.le (.var 1) (.lit 1000000000000000000)) (.ite (.le (.lit (-1000000000000000000)) (.var 0)) (.le (.var 0) (.lit 1000000000000000000)) (.blit false)) (.blit false)) (.blit false)))
theorem k_ris3 : acall cy4 20 false 49 [] (argsG [.g 2] 0 0) (heapG [.g 2] 0) = .leaf (R_ris3, heapG [.g 2] 0) := by kernel_rfl
set_option maxHeartbeats 4000000 in
set_option maxRecDepth 20000 in
theorem v_ris3 : ∀ l : List Int, l.length = lenSh [.g 2] → Any l → valOf (E.at l) R_ris3 = some (tupleV (resV E 70 l [.b] 0 0)) := by
  intro l hl hG
  have h0 : l.length = 2 := hl
  clear hl
  obtain ⟨a0, l1, rfl, h1⟩ := cut1 h0
  clear h0
  obtain ⟨a1, l2, rfl, h2⟩ := cut1 h1
  clear h1
  obtain rfl := cut0 h2
  clear h2
  simp only [R_ris3, valOf, vals1, valInts, val1, tupleV, resV, valsI, den, bt1, bt2, bt3, bt4, Env.at, E, fb, fi, List.getD_cons_zero, List.getD_cons_succ, List.all_cons, List.all_nil, Bool.and_true, nr', us', ss', nr2, us2, ss2, nr3, us3, ss3, Bool.and_assoc, Option.map_some, List.all_append, cmps, Wh.fe, fcmp, fr4, fr4t]

theorem c_ris3 (W : World) : Flat Try.prog E W Any 49 [.g 2] fun l => tupleV (resV E 70 l [.b] 0 0) := flat_val (cy4_ok W) k_ris3 v_ris3

def R_fis3 : AV := (.bool (.ite (.le (.lit 1) (.var 1)) (.ite (.le (.var 1) (.lit 1000000000000000000)) (.ite (.le (.lit (-1000000000000000000)) (.var 0)) (.le (.var 0) (.lit 1000000000000000000)) (.blit false)) (.blit false)) (.blit false)))
theorem k_fis3 : acall cy4 20 false 48 [] (argsG [.g 2] 0 0) (heapG [.g 2] 0) = .leaf (R_fis3, heapG [.g 2] 0) := by kernel_rfl
set_option maxHeartbeats 4000000 in
set_option maxRecDepth 20000 in
theorem v_fis3 : ∀ l : List Int, l.length = lenSh [.g 2] → Any l → valOf (E.at l) R_fis3 = some (tupleV (resV E 70 l [.b] 0 0)) := by
  intro l hl hG
  have h0 : l.length = 2 := hl
  clear hl
  obtain ⟨a0, l1, rfl, h1⟩ := cut1 h0
  clear h0
  obtain ⟨a1, l2, rfl, h2⟩ := cut1 h1
  clear h1
  obtain rfl := cut0 h2
  clear h2
  simp only [R_fis3, valOf, vals1, valInts, val1, tupleV, resV, valsI, den, bt1, bt2, bt3, bt4, Env.at, E, fb, fi, List.getD_cons_zero, List.getD_cons_succ, List.all_cons, List.all_nil, Bool.and_true, nr', us', ss', nr2, us2, ss2, nr3, us3, ss3, Bool.and_assoc, Option.map_some, List.all_append, cmps, Wh.fe, fcmp, fr4, fr4t]

theorem c_fis3 (W : World) : Flat Try.prog E W Any 48 [.g 2] fun l => tupleV (resV E 70 l [.b] 0 0) := flat_val (cy4_ok W) k_fis3 v_fis3

noncomputable def cy9 : Cx := ⟨cy4.ty, cy4.fn, [flatCon 49 [.g 2] [.b] 70 noChk, flatCon 48 [.g 2] [.b] 70 noChk] ++ cy4.con, cy4.inl, cy4.eqs⟩
theorem cy9_ok (W : World) : ∀ l, Any l → CxOk Try.prog (E.at l) W cy9 :=
  cx_more (cy4_ok W) (List.forall_mem_cons.2 ⟨flat_con' (c_ris3 W), List.forall_mem_cons.2 ⟨flat_con' (c_fis3 W), (fun _ h => by cases h)⟩⟩)
end Go.Proofs.Ytfpnkcmplmkghaa.Sx
