/- Contracts, reckoned. -/
import Derived.Test.YtfpnkcmplmkghaaS9
import Derived.KernelRfl
set_option linter.unusedVariables false
set_option linter.unusedSimpArgs false
namespace Go.Proofs.Ytfpnkcmplmkghaa.Sx
open Go.RowKit


def R_rside12 : AV := (.tuple [(.int (.ite (.ite (.app 2 0 (.cons (.var 0) (.cons (.var 1) (.cons (.var 2) .nil)))) (.ite (.app 2 0 (.cons (.var 3) (.cons (.var 4) (.cons (.var 5) .nil)))) (.ite (.app 2 0 (.cons (.var 6) (.cons (.var 7) (.cons (.var 8) .nil)))) (.app 2 0 (.cons (.var 9) (.cons (.var 10) (.cons (.var 11) .nil)))) (.blit false)) (.blit false)) (.blit false)) (.ite (.lt (.app 13 0 (.cons (.var 3) (.cons (.var 4) (.cons (.var 5) (.cons (.var 6) (.cons (.var 7) (.cons (.var 8) (.cons (.var 9) (.cons (.var 10) (.cons (.var 11) (.cons (.var 0) (.cons (.var 1) (.cons (.var 2) .nil))))))))))))) (.lit 0)) (.lit (-1)) (.ite (.lt (.lit 0) (.app 13 0 (.cons (.var 3) (.cons (.var 4) (.cons (.var 5) (.cons (.var 6) (.cons (.var 7) (.cons (.var 8) (.cons (.var 9) (.cons (.var 10) (.cons (.var 11) (.cons (.var 0) (.cons (.var 1) (.cons (.var 2) .nil)))))))))))))) (.lit 1) (.lit 0))) (.lit 0))), (.int (.ite (.ite (.app 2 0 (.cons (.var 0) (.cons (.var 1) (.cons (.var 2) .nil)))) (.ite (.app 2 0 (.cons (.var 3) (.cons (.var 4) (.cons (.var 5) .nil)))) (.ite (.app 2 0 (.cons (.var 6) (.cons (.var 7) (.cons (.var 8) .nil)))) (.app 2 0 (.cons (.var 9) (.cons (.var 10) (.cons (.var 11) .nil)))) (.blit false)) (.blit false)) (.blit false)) (.lit 0) (.lit 5)))])
theorem k_rside12 : acall cs9 20 false 21 [] (argsG [.g 3, .g 9] 0 0) (heapG [.g 3, .g 9] 0) = .leaf (R_rside12, heapG [.g 3, .g 9] 0) := by kernel_rfl
set_option maxHeartbeats 4000000 in
set_option maxRecDepth 20000 in
theorem v_rside12 : ∀ l : List Int, l.length = lenSh [.g 3, .g 9] → Any l → valOf (E.at l) R_rside12 = some (tupleV (resV E 15 l [.i, .i] 0 0)) := by
  intro l hl hG
  have h0 : l.length = 12 := hl
  clear hl
  obtain ⟨a0, l1, rfl, h1⟩ := cut1 h0
  clear h0
  obtain ⟨a1, l2, rfl, h2⟩ := cut1 h1
  clear h1
  obtain ⟨a2, l3, rfl, h3⟩ := cut1 h2
  clear h2
  obtain ⟨a3, l4, rfl, h4⟩ := cut1 h3
  clear h3
  obtain ⟨a4, l5, rfl, h5⟩ := cut1 h4
  clear h4
  obtain ⟨a5, l6, rfl, h6⟩ := cut1 h5
  clear h5
  obtain ⟨a6, l7, rfl, h7⟩ := cut1 h6
  clear h6
  obtain ⟨a7, l8, rfl, h8⟩ := cut1 h7
  clear h7
  obtain ⟨a8, l9, rfl, h9⟩ := cut1 h8
  clear h8
  obtain ⟨a9, l10, rfl, h10⟩ := cut1 h9
  clear h9
  obtain ⟨a10, l11, rfl, h11⟩ := cut1 h10
  clear h10
  obtain ⟨a11, l12, rfl, h12⟩ := cut1 h11
  clear h11
  obtain rfl := cut0 h12
  clear h12
  simp only [R_rside12, valOf, vals1, valInts, val1, tupleV, resV, valsI, den, bt1, bt2, bt3, bt4, Env.at, E, fb, fi, List.getD_cons_zero, List.getD_cons_succ, List.all_cons, List.all_nil, Bool.and_true, nr', us', ss', nr2, us2, ss2, nr3, us3, ss3, Bool.and_assoc, Option.map_some, List.all_append, cmps, sdV, sgn]
  cases h0 : ss a0
  · simp
  cases h1 : ss a1
  · simp
  cases h2 : ss a2
  · simp
  cases h3 : ss a3
  · simp
  cases h4 : ss a4
  · simp
  cases h5 : ss a5
  · simp
  cases h6 : ss a6
  · simp
  cases h7 : ss a7
  · simp
  cases h8 : ss a8
  · simp
  cases h9 : ss a9
  · simp
  cases h10 : ss a10
  · simp
  cases h11 : ss a11
  · simp
  simp

theorem c_rside12 (W : World) : Flat Try.prog E W Any 21 [.g 3, .g 9] fun l => tupleV (resV E 15 l [.i, .i] 0 0) := flat_val (cs9_ok W) k_rside12 v_rside12

noncomputable def cs10 : Cx := ⟨cs9.ty, cs9.fn, [flatCon 21 [.g 3, .g 9] [.i, .i] 15 noChk] ++ cs9.con, cs9.inl, cs9.eqs⟩
theorem cs10_ok (W : World) : ∀ l, Any l → CxOk Try.prog (E.at l) W cs10 :=
  cx_more (cs9_ok W) (List.forall_mem_cons.2 ⟨flat_con' (c_rside12 W), (fun _ h => by cases h)⟩)
end Go.Proofs.Ytfpnkcmplmkghaa.Sx
