/- Contracts, reckoned. -/
import Derived.Test.YtlfoglklibhbnaaGreatL5
import Derived.KernelRfl
set_option linter.unusedVariables false
set_option linter.unusedSimpArgs false
namespace Go.Proofs.YtlfoglklibhbnaaGreat.Sx
open Go.RowKit


def R_right10 : AV := (.bool (.ite (.eq (.app 10 1 (.cons (.var 0) (.cons (.var 1) (.cons (.var 2) (.cons (.var 3) (.cons (.var 4) (.cons (.var 5) .nil))))))) (.lit 0)) (.no (.eq (.app 10 0 (.cons (.var 0) (.cons (.var 1) (.cons (.var 2) (.cons (.var 3) (.cons (.var 4) (.cons (.var 5) .nil))))))) (.lit 0))) (.blit false)))
theorem k_right10 : acall cx5 20 false 32 [] (argsG [.g 6] 0 0) (heapG [.g 6] 0) = .leaf (R_right10, heapG [.g 6] 0) := by kernel_rfl
set_option maxHeartbeats 4000000 in
set_option maxRecDepth 20000 in
theorem v_right10 : ∀ l : List Int, l.length = lenSh [.g 6] → Any l → valOf (E.at l) R_right10 = some (tupleV (resV E 56 l [.b] 0 0)) := by
  intro l hl hG
  have h0 : l.length = 6 := hl
  clear hl
  obtain ⟨a0, l1, rfl, h1⟩ := cut1 h0
  clear h0
  obtain ⟨a1, l2, rfl, h2⟩ := cut1 h1
  clear h1
  obtain ⟨a2, l3, rfl, h3⟩ := cut1 h2
  clear h2
  obtain ⟨a3, l4, rfl, h4⟩ := cut1 h3
  clear h3
  obtain ⟨a4, l5, rfl, h5⟩ := cut1 h4
  clear h4
  obtain ⟨a5, l6, rfl, h6⟩ := cut1 h5
  clear h5
  obtain rfl := cut0 h6
  clear h6
  simp only [R_right10, valOf, vals1, valInts, val1, tupleV, resV, valsI, den, bt1, bt2, bt3, bt4, Env.at, E, fb, fi, List.getD_cons_zero, List.getD_cons_succ, List.all_cons, List.all_nil, Bool.and_true, nr', us', ss', nr2, us2, ss2, nr3, us3, ss3, cr2, Bool.and_assoc, Option.map_some, List.all_append, cmps]
  unfold rgt
  simp only [List.all_cons, List.all_nil, Bool.and_true]
  cases h : (us a0 && (us a1 && (us a2 && (us a3 && (us a4 && us a5)))))
  · simp
  · simp

theorem c_right10 (W : World) : Flat Tryz.prog E W Any 32 [.g 6] fun l => tupleV (resV E 56 l [.b] 0 0) := flat_val (cx5_ok W) k_right10 v_right10

noncomputable def cm1 : Cx := ⟨cx5.ty, cx5.fn, [flatCon 32 [.g 6] [.b] 56 noChk] ++ cx5.con, cx5.inl, cx5.eqs⟩
theorem cm1_ok (W : World) : ∀ l, Any l → CxOk Tryz.prog (E.at l) W cm1 :=
  cx_more (cx5_ok W) (List.forall_mem_cons.2 ⟨flat_con' (c_right10 W), (fun _ h => by cases h)⟩)
end Go.Proofs.YtlfoglklibhbnaaGreat.Sx
