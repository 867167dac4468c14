/- Contracts, reckoned. -/
import Derived.Test.YtlfoglklibhbnaaGreatL2
import Derived.KernelRfl
set_option linter.unusedVariables false
set_option linter.unusedSimpArgs false
namespace Go.Proofs.YtlfoglklibhbnaaGreat.Sx
open Go.RowKit

theorem low_e (n : Int) : (if 0 < n then IntKind.i64.wrap (0 - n) else n) = low n := rfl

def R_sub2 : AV := (.agg [(.int (.ite (.app 0 0 (.cons (.var 0) (.cons (.var 1) (.cons (.var 2) (.cons (.var 3) .nil))))) (.sub (.var 0) (.var 2)) (.lit 0))), (.int (.ite (.app 0 0 (.cons (.var 0) (.cons (.var 1) (.cons (.var 2) (.cons (.var 3) .nil))))) (.sub (.var 1) (.var 3)) (.lit 0)))])
theorem k_sub2 : acall cx2 20 false 56 [] (argsG [.g 2, .g 2] 0 0) (heapG [.g 2, .g 2] 0) = .leaf (R_sub2, heapG [.g 2, .g 2] 0) := by kernel_rfl
set_option maxHeartbeats 4000000 in
set_option maxRecDepth 20000 in
theorem v_sub2 : ∀ l : List Int, l.length = lenSh [.g 2, .g 2] → Any l → valOf (E.at l) R_sub2 = some (tupleV (resV E 3 l [.g 2] 0 0)) := by
  intro l hl hG
  have h0 : l.length = 4 := hl
  clear hl
  obtain ⟨a0, l1, rfl, h1⟩ := cut1 h0
  clear h0
  obtain ⟨a1, l2, rfl, h2⟩ := cut1 h1
  clear h1
  obtain ⟨a2, l3, rfl, h3⟩ := cut1 h2
  clear h2
  obtain ⟨a3, l4, rfl, h4⟩ := cut1 h3
  clear h3
  obtain rfl := cut0 h4
  clear h4
  simp only [R_sub2, valOf, vals1, valInts, val1, tupleV, resV, valsI, den, bt1, bt2, bt3, bt4, Env.at, E, fb, fi, List.getD_cons_zero, List.getD_cons_succ, List.all_cons, List.all_nil, Bool.and_true, nr', us', ss', nr2, us2, ss2, nr3, us3, ss3, cr2, Bool.and_assoc, Option.map_some, List.all_append, cmps]
  cases h0 : nr a0
  · simp
  cases h1 : nr a1
  · simp
  cases h2 : nr a2
  · simp
  cases h3 : nr a3
  · simp
  have c0 := nr_b h0
  have c1 := nr_b h1
  have c2 := nr_b h2
  have c3 := nr_b h3
  simp (disch := omega) [wr]

theorem c_sub2 (W : World) : Flat Tryz.prog E W Any 56 [.g 2, .g 2] fun l => tupleV (resV E 3 l [.g 2] 0 0) := flat_val (cx2_ok W) k_sub2 v_sub2

def R_sub3 : AV := (.agg [(.int (.ite (.app 0 0 (.cons (.var 0) (.cons (.var 1) (.cons (.var 2) (.cons (.var 3) (.cons (.var 4) (.cons (.var 5) .nil))))))) (.sub (.var 0) (.var 3)) (.lit 0))), (.int (.ite (.app 0 0 (.cons (.var 0) (.cons (.var 1) (.cons (.var 2) (.cons (.var 3) (.cons (.var 4) (.cons (.var 5) .nil))))))) (.sub (.var 1) (.var 4)) (.lit 0))), (.int (.ite (.app 0 0 (.cons (.var 0) (.cons (.var 1) (.cons (.var 2) (.cons (.var 3) (.cons (.var 4) (.cons (.var 5) .nil))))))) (.sub (.var 2) (.var 5)) (.lit 0)))])
theorem k_sub3 : acall cx2 20 false 133 [] (argsG [.g 3, .g 3] 0 0) (heapG [.g 3, .g 3] 0) = .leaf (R_sub3, heapG [.g 3, .g 3] 0) := by kernel_rfl
set_option maxHeartbeats 4000000 in
set_option maxRecDepth 20000 in
theorem v_sub3 : ∀ l : List Int, l.length = lenSh [.g 3, .g 3] → Any l → valOf (E.at l) R_sub3 = some (tupleV (resV E 4 l [.g 3] 0 0)) := by
  intro l hl hG
  have h0 : l.length = 6 := hl
  clear hl
  obtain ⟨a0, l1, rfl, h1⟩ := cut1 h0
  clear h0
  obtain ⟨a1, l2, rfl, h2⟩ := cut1 h1
  clear h1
  obtain ⟨a2, l3, rfl, h3⟩ := cut1 h2
  clear h2
  obtain ⟨a3, l4, rfl, h4⟩ := cut1 h3
  clear h3
  obtain ⟨a4, l5, rfl, h5⟩ := cut1 h4
  clear h4
  obtain ⟨a5, l6, rfl, h6⟩ := cut1 h5
  clear h5
  obtain rfl := cut0 h6
  clear h6
  simp only [R_sub3, valOf, vals1, valInts, val1, tupleV, resV, valsI, den, bt1, bt2, bt3, bt4, Env.at, E, fb, fi, List.getD_cons_zero, List.getD_cons_succ, List.all_cons, List.all_nil, Bool.and_true, nr', us', ss', nr2, us2, ss2, nr3, us3, ss3, cr2, Bool.and_assoc, Option.map_some, List.all_append, cmps]
  cases h0 : nr a0
  · simp
  cases h1 : nr a1
  · simp
  cases h2 : nr a2
  · simp
  cases h3 : nr a3
  · simp
  cases h4 : nr a4
  · simp
  cases h5 : nr a5
  · simp
  have c0 := nr_b h0
  have c1 := nr_b h1
  have c2 := nr_b h2
  have c3 := nr_b h3
  have c4 := nr_b h4
  have c5 := nr_b h5
  simp (disch := omega) [wr]

theorem c_sub3 (W : World) : Flat Tryz.prog E W Any 133 [.g 3, .g 3] fun l => tupleV (resV E 4 l [.g 3] 0 0) := flat_val (cx2_ok W) k_sub3 v_sub3

def R_cross2 : AV := (.tuple [(.int (.ite (.app 0 0 (.cons (.var 0) (.cons (.var 1) (.cons (.var 2) (.cons (.var 3) .nil))))) (.sub (.mul (.var 0) (.var 3)) (.mul (.var 1) (.var 2))) (.lit 0))), (.int (.ite (.app 0 0 (.cons (.var 0) (.cons (.var 1) (.cons (.var 2) (.cons (.var 3) .nil))))) (.lit 0) (.lit 5)))])
theorem k_cross2 : acall cx2 20 false 55 [] (argsG [.g 2, .g 2] 0 0) (heapG [.g 2, .g 2] 0) = .leaf (R_cross2, heapG [.g 2, .g 2] 0) := by kernel_rfl
set_option maxHeartbeats 4000000 in
set_option maxRecDepth 20000 in
theorem v_cross2 : ∀ l : List Int, l.length = lenSh [.g 2, .g 2] → Any l → valOf (E.at l) R_cross2 = some (tupleV (resV E 5 l [.i, .i] 0 0)) := by
  intro l hl hG
  have h0 : l.length = 4 := hl
  clear hl
  obtain ⟨a0, l1, rfl, h1⟩ := cut1 h0
  clear h0
  obtain ⟨a1, l2, rfl, h2⟩ := cut1 h1
  clear h1
  obtain ⟨a2, l3, rfl, h3⟩ := cut1 h2
  clear h2
  obtain ⟨a3, l4, rfl, h4⟩ := cut1 h3
  clear h3
  obtain rfl := cut0 h4
  clear h4
  simp only [R_cross2, valOf, vals1, valInts, val1, tupleV, resV, valsI, den, bt1, bt2, bt3, bt4, Env.at, E, fb, fi, List.getD_cons_zero, List.getD_cons_succ, List.all_cons, List.all_nil, Bool.and_true, nr', us', ss', nr2, us2, ss2, nr3, us3, ss3, cr2, Bool.and_assoc, Option.map_some, List.all_append, cmps]
  cases h0 : nr a0
  · simp
  cases h1 : nr a1
  · simp
  cases h2 : nr a2
  · simp
  cases h3 : nr a3
  · simp
  have c0 := nr_b h0
  have c1 := nr_b h1
  have c2 := nr_b h2
  have c3 := nr_b h3
  have m03 := nr_m h0 h3
  have m12 := nr_m h1 h2
  simp (disch := omega) [wr]

theorem c_cross2 (W : World) : Flat Tryz.prog E W Any 55 [.g 2, .g 2] fun l => tupleV (resV E 5 l [.i, .i] 0 0) := flat_val (cx2_ok W) k_cross2 v_cross2

def R_cross3 : AV := (.tuple [(.agg [(.int (.ite (.app 0 0 (.cons (.var 0) (.cons (.var 1) (.cons (.var 2) (.cons (.var 3) (.cons (.var 4) (.cons (.var 5) .nil))))))) (.sub (.mul (.var 1) (.var 5)) (.mul (.var 2) (.var 4))) (.lit 0))), (.int (.ite (.app 0 0 (.cons (.var 0) (.cons (.var 1) (.cons (.var 2) (.cons (.var 3) (.cons (.var 4) (.cons (.var 5) .nil))))))) (.sub (.mul (.var 2) (.var 3)) (.mul (.var 0) (.var 5))) (.lit 0))), (.int (.ite (.app 0 0 (.cons (.var 0) (.cons (.var 1) (.cons (.var 2) (.cons (.var 3) (.cons (.var 4) (.cons (.var 5) .nil))))))) (.sub (.mul (.var 0) (.var 4)) (.mul (.var 1) (.var 3))) (.lit 0)))]), (.int (.ite (.app 0 0 (.cons (.var 0) (.cons (.var 1) (.cons (.var 2) (.cons (.var 3) (.cons (.var 4) (.cons (.var 5) .nil))))))) (.lit 0) (.lit 5)))])
theorem k_cross3 : acall cx2 20 false 132 [] (argsG [.g 3, .g 3] 0 0) (heapG [.g 3, .g 3] 0) = .leaf (R_cross3, heapG [.g 3, .g 3] 0) := by kernel_rfl
set_option maxHeartbeats 4000000 in
set_option maxRecDepth 20000 in
theorem v_cross3 : ∀ l : List Int, l.length = lenSh [.g 3, .g 3] → Any l → valOf (E.at l) R_cross3 = some (tupleV (resV E 6 l [.g 3, .i] 0 0)) := by
  intro l hl hG
  have h0 : l.length = 6 := hl
  clear hl
  obtain ⟨a0, l1, rfl, h1⟩ := cut1 h0
  clear h0
  obtain ⟨a1, l2, rfl, h2⟩ := cut1 h1
  clear h1
  obtain ⟨a2, l3, rfl, h3⟩ := cut1 h2
  clear h2
  obtain ⟨a3, l4, rfl, h4⟩ := cut1 h3
  clear h3
  obtain ⟨a4, l5, rfl, h5⟩ := cut1 h4
  clear h4
  obtain ⟨a5, l6, rfl, h6⟩ := cut1 h5
  clear h5
  obtain rfl := cut0 h6
  clear h6
  simp only [R_cross3, valOf, vals1, valInts, val1, tupleV, resV, valsI, den, bt1, bt2, bt3, bt4, Env.at, E, fb, fi, List.getD_cons_zero, List.getD_cons_succ, List.all_cons, List.all_nil, Bool.and_true, nr', us', ss', nr2, us2, ss2, nr3, us3, ss3, cr2, Bool.and_assoc, Option.map_some, List.all_append, cmps]
  cases h0 : nr a0
  · simp
  cases h1 : nr a1
  · simp
  cases h2 : nr a2
  · simp
  cases h3 : nr a3
  · simp
  cases h4 : nr a4
  · simp
  cases h5 : nr a5
  · simp
  have c0 := nr_b h0
  have c1 := nr_b h1
  have c2 := nr_b h2
  have c3 := nr_b h3
  have c4 := nr_b h4
  have c5 := nr_b h5
  have m15 := nr_m h1 h5
  have m24 := nr_m h2 h4
  have m23 := nr_m h2 h3
  have m05 := nr_m h0 h5
  have m04 := nr_m h0 h4
  have m13 := nr_m h1 h3
  simp (disch := omega) [wr]

theorem c_cross3 (W : World) : Flat Tryz.prog E W Any 132 [.g 3, .g 3] fun l => tupleV (resV E 6 l [.g 3, .i] 0 0) := flat_val (cx2_ok W) k_cross3 v_cross3

def R_axis : AV := (.int (.ite (.ite (.lt (.ite (.lt (.lit 0) (.var 1)) (.sub (.lit 0) (.var 1)) (.var 1)) (.ite (.lt (.lit 0) (.var 0)) (.sub (.lit 0) (.var 0)) (.var 0))) (.lt (.ite (.lt (.lit 0) (.var 2)) (.sub (.lit 0) (.var 2)) (.var 2)) (.ite (.lt (.lit 0) (.var 1)) (.sub (.lit 0) (.var 1)) (.var 1))) (.lt (.ite (.lt (.lit 0) (.var 2)) (.sub (.lit 0) (.var 2)) (.var 2)) (.ite (.lt (.lit 0) (.var 0)) (.sub (.lit 0) (.var 0)) (.var 0)))) (.lit 2) (.ite (.lt (.ite (.lt (.lit 0) (.var 1)) (.sub (.lit 0) (.var 1)) (.var 1)) (.ite (.lt (.lit 0) (.var 0)) (.sub (.lit 0) (.var 0)) (.var 0))) (.lit 1) (.lit 0))))
theorem k_axis : acall cx2 20 false 84 [] (argsG [.g 3] 0 0) (heapG [.g 3] 0) = .leaf (R_axis, heapG [.g 3] 0) := by kernel_rfl
set_option maxHeartbeats 4000000 in
set_option maxRecDepth 20000 in
theorem v_axis : ∀ l : List Int, l.length = lenSh [.g 3] → Any l → valOf (E.at l) R_axis = some (tupleV (resV E 8 l [.i] 0 0)) := by
  intro l hl hG
  have h0 : l.length = 3 := hl
  clear hl
  obtain ⟨a0, l1, rfl, h1⟩ := cut1 h0
  clear h0
  obtain ⟨a1, l2, rfl, h2⟩ := cut1 h1
  clear h1
  obtain ⟨a2, l3, rfl, h3⟩ := cut1 h2
  clear h2
  obtain rfl := cut0 h3
  clear h3
  simp only [R_axis, valOf, val1, tupleV, resV, den, bt1, bt2, bt3, bt4, Env.at, E, fi, List.getD_cons_zero, List.getD_cons_succ, low_e, decide_eq_true_eq]
  unfold axis
  generalize low a0 = x, low a1 = y, low a2 = z
  congr 2
  first | rfl | (split <;> split <;> simp_all <;> omega) | (repeat' split) <;> simp_all <;> omega

theorem c_axis (W : World) : Flat Tryz.prog E W Any 84 [.g 3] fun l => tupleV (resV E 8 l [.i] 0 0) := flat_val (cx2_ok W) k_axis v_axis

noncomputable def cx3 : Cx := ⟨cx2.ty, cx2.fn, [flatCon 56 [.g 2, .g 2] [.g 2] 3 noChk, flatCon 133 [.g 3, .g 3] [.g 3] 4 noChk, flatCon 55 [.g 2, .g 2] [.i, .i] 5 noChk, flatCon 132 [.g 3, .g 3] [.g 3, .i] 6 noChk, flatCon 84 [.g 3] [.i] 8 noChk] ++ cx2.con, cx2.inl, cx2.eqs⟩
theorem cx3_ok (W : World) : ∀ l, Any l → CxOk Tryz.prog (E.at l) W cx3 :=
  cx_more (cx2_ok W) (List.forall_mem_cons.2 ⟨flat_con' (c_sub2 W), List.forall_mem_cons.2 ⟨flat_con' (c_sub3 W), List.forall_mem_cons.2 ⟨flat_con' (c_cross2 W), List.forall_mem_cons.2 ⟨flat_con' (c_cross3 W), List.forall_mem_cons.2 ⟨flat_con' (c_axis W), (fun _ h => by cases h)⟩⟩⟩⟩⟩)
end Go.Proofs.YtlfoglklibhbnaaGreat.Sx
