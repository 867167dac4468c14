/- Contracts, reckoned. -/
import Derived.Test.YtlfoglklibhbnaaGreatL3
import Derived.KernelRfl
set_option linter.unusedVariables false
set_option linter.unusedSimpArgs false
namespace Go.Proofs.YtlfoglklibhbnaaGreat.Sx
open Go.RowKit


def R_area : AV := (.tuple [(.int (.ite (.app 1 0 (.cons (.var 0) (.cons (.var 1) (.cons (.var 2) (.cons (.var 3) (.cons (.var 4) (.cons (.var 5) .nil))))))) (.app 5 0 (.cons (.app 3 0 (.cons (.var 2) (.cons (.var 3) (.cons (.var 0) (.cons (.var 1) .nil))))) (.cons (.app 3 1 (.cons (.var 2) (.cons (.var 3) (.cons (.var 0) (.cons (.var 1) .nil))))) (.cons (.app 3 0 (.cons (.var 4) (.cons (.var 5) (.cons (.var 0) (.cons (.var 1) .nil))))) (.cons (.app 3 1 (.cons (.var 4) (.cons (.var 5) (.cons (.var 0) (.cons (.var 1) .nil))))) .nil))))) (.lit 0))), (.int (.ite (.app 1 0 (.cons (.var 0) (.cons (.var 1) (.cons (.var 2) (.cons (.var 3) (.cons (.var 4) (.cons (.var 5) .nil))))))) (.app 5 1 (.cons (.app 3 0 (.cons (.var 2) (.cons (.var 3) (.cons (.var 0) (.cons (.var 1) .nil))))) (.cons (.app 3 1 (.cons (.var 2) (.cons (.var 3) (.cons (.var 0) (.cons (.var 1) .nil))))) (.cons (.app 3 0 (.cons (.var 4) (.cons (.var 5) (.cons (.var 0) (.cons (.var 1) .nil))))) (.cons (.app 3 1 (.cons (.var 4) (.cons (.var 5) (.cons (.var 0) (.cons (.var 1) .nil))))) .nil))))) (.lit 5)))])
theorem k_area : acall cx3 20 false 12 [] (argsG [.g 2, .g 2, .g 2] 0 0) (heapG [.g 2, .g 2, .g 2] 0) = .leaf (R_area, heapG [.g 2, .g 2, .g 2] 0) := by kernel_rfl
set_option maxHeartbeats 4000000 in
set_option maxRecDepth 20000 in
theorem v_area : ∀ l : List Int, l.length = lenSh [.g 2, .g 2, .g 2] → Any l → valOf (E.at l) R_area = some (tupleV (resV E 10 l [.i, .i] 0 0)) := by
  intro l hl hG
  have h0 : l.length = 6 := hl
  clear hl
  obtain ⟨a0, l1, rfl, h1⟩ := cut1 h0
  clear h0
  obtain ⟨a1, l2, rfl, h2⟩ := cut1 h1
  clear h1
  obtain ⟨a2, l3, rfl, h3⟩ := cut1 h2
  clear h2
  obtain ⟨a3, l4, rfl, h4⟩ := cut1 h3
  clear h3
  obtain ⟨a4, l5, rfl, h5⟩ := cut1 h4
  clear h4
  obtain ⟨a5, l6, rfl, h6⟩ := cut1 h5
  clear h5
  obtain rfl := cut0 h6
  clear h6
  simp only [R_area, valOf, vals1, valInts, val1, tupleV, resV, valsI, den, bt1, bt2, bt3, bt4, Env.at, E, fb, fi, List.getD_cons_zero, List.getD_cons_succ, List.all_cons, List.all_nil, Bool.and_true, nr', us', ss', nr2, us2, ss2, nr3, us3, ss3, cr2, Bool.and_assoc, Option.map_some, List.all_append, cmps]
  cases h0 : us a0
  · simp
  cases h1 : us a1
  · simp
  cases h2 : us a2
  · simp
  cases h3 : us a3
  · simp
  cases h4 : us a4
  · simp
  cases h5 : us a5
  · simp
  have c0 := us_b h0
  have c1 := us_b h1
  have c2 := us_b h2
  have c3 := us_b h3
  have c4 := us_b h4
  have c5 := us_b h5
  have n0 : nr a0 = true := nr_i (by omega)
  have n1 : nr a1 = true := nr_i (by omega)
  have n2 : nr a2 = true := nr_i (by omega)
  have n3 : nr a3 = true := nr_i (by omega)
  have n4 : nr a4 = true := nr_i (by omega)
  have n5 : nr a5 = true := nr_i (by omega)
  have d20 : nr (a2 - a0) = true := nr_i (by omega)
  have d31 : nr (a3 - a1) = true := nr_i (by omega)
  have d40 : nr (a4 - a0) = true := nr_i (by omega)
  have d51 : nr (a5 - a1) = true := nr_i (by omega)
  simp [n0, n1, n2, n3, n4, n5, d20, d31, d40, d51, areaV, cr2]

theorem c_area (W : World) : Flat Tryz.prog E W Any 12 [.g 2, .g 2, .g 2] fun l => tupleV (resV E 10 l [.i, .i] 0 0) := flat_val (cx3_ok W) k_area v_area

def R_side : AV := (.tuple [(.int (.ite (.lt (.ite (.app 1 0 (.cons (.var 0) (.cons (.var 1) (.cons (.var 2) (.cons (.var 3) (.cons (.var 4) (.cons (.var 5) .nil))))))) (.app 5 0 (.cons (.app 3 0 (.cons (.var 2) (.cons (.var 3) (.cons (.var 0) (.cons (.var 1) .nil))))) (.cons (.app 3 1 (.cons (.var 2) (.cons (.var 3) (.cons (.var 0) (.cons (.var 1) .nil))))) (.cons (.app 3 0 (.cons (.var 4) (.cons (.var 5) (.cons (.var 0) (.cons (.var 1) .nil))))) (.cons (.app 3 1 (.cons (.var 4) (.cons (.var 5) (.cons (.var 0) (.cons (.var 1) .nil))))) .nil))))) (.lit 0)) (.lit 0)) (.lit (-1)) (.ite (.lt (.lit 0) (.ite (.app 1 0 (.cons (.var 0) (.cons (.var 1) (.cons (.var 2) (.cons (.var 3) (.cons (.var 4) (.cons (.var 5) .nil))))))) (.app 5 0 (.cons (.app 3 0 (.cons (.var 2) (.cons (.var 3) (.cons (.var 0) (.cons (.var 1) .nil))))) (.cons (.app 3 1 (.cons (.var 2) (.cons (.var 3) (.cons (.var 0) (.cons (.var 1) .nil))))) (.cons (.app 3 0 (.cons (.var 4) (.cons (.var 5) (.cons (.var 0) (.cons (.var 1) .nil))))) (.cons (.app 3 1 (.cons (.var 4) (.cons (.var 5) (.cons (.var 0) (.cons (.var 1) .nil))))) .nil))))) (.lit 0))) (.lit 1) (.lit 0)))), (.int (.ite (.app 1 0 (.cons (.var 0) (.cons (.var 1) (.cons (.var 2) (.cons (.var 3) (.cons (.var 4) (.cons (.var 5) .nil))))))) (.app 5 1 (.cons (.app 3 0 (.cons (.var 2) (.cons (.var 3) (.cons (.var 0) (.cons (.var 1) .nil))))) (.cons (.app 3 1 (.cons (.var 2) (.cons (.var 3) (.cons (.var 0) (.cons (.var 1) .nil))))) (.cons (.app 3 0 (.cons (.var 4) (.cons (.var 5) (.cons (.var 0) (.cons (.var 1) .nil))))) (.cons (.app 3 1 (.cons (.var 4) (.cons (.var 5) (.cons (.var 0) (.cons (.var 1) .nil))))) .nil))))) (.lit 5)))])
theorem k_side : acall cx3 20 false 135 [] (argsG [.g 2, .g 2, .g 2] 0 0) (heapG [.g 2, .g 2, .g 2] 0) = .leaf (R_side, heapG [.g 2, .g 2, .g 2] 0) := by kernel_rfl
set_option maxHeartbeats 4000000 in
set_option maxRecDepth 20000 in
theorem v_side : ∀ l : List Int, l.length = lenSh [.g 2, .g 2, .g 2] → Any l → valOf (E.at l) R_side = some (tupleV (resV E 11 l [.i, .i] 0 0)) := by
  intro l hl hG
  have h0 : l.length = 6 := hl
  clear hl
  obtain ⟨a0, l1, rfl, h1⟩ := cut1 h0
  clear h0
  obtain ⟨a1, l2, rfl, h2⟩ := cut1 h1
  clear h1
  obtain ⟨a2, l3, rfl, h3⟩ := cut1 h2
  clear h2
  obtain ⟨a3, l4, rfl, h4⟩ := cut1 h3
  clear h3
  obtain ⟨a4, l5, rfl, h5⟩ := cut1 h4
  clear h4
  obtain ⟨a5, l6, rfl, h6⟩ := cut1 h5
  clear h5
  obtain rfl := cut0 h6
  clear h6
  simp only [R_side, valOf, vals1, valInts, val1, tupleV, resV, valsI, den, bt1, bt2, bt3, bt4, Env.at, E, fb, fi, List.getD_cons_zero, List.getD_cons_succ, List.all_cons, List.all_nil, Bool.and_true, nr', us', ss', nr2, us2, ss2, nr3, us3, ss3, cr2, Bool.and_assoc, Option.map_some, List.all_append, cmps]
  cases h0 : us a0
  · simp
  cases h1 : us a1
  · simp
  cases h2 : us a2
  · simp
  cases h3 : us a3
  · simp
  cases h4 : us a4
  · simp
  cases h5 : us a5
  · simp
  have c0 := us_b h0
  have c1 := us_b h1
  have c2 := us_b h2
  have c3 := us_b h3
  have c4 := us_b h4
  have c5 := us_b h5
  have n0 : nr a0 = true := nr_i (by omega)
  have n1 : nr a1 = true := nr_i (by omega)
  have n2 : nr a2 = true := nr_i (by omega)
  have n3 : nr a3 = true := nr_i (by omega)
  have n4 : nr a4 = true := nr_i (by omega)
  have n5 : nr a5 = true := nr_i (by omega)
  have d20 : nr (a2 - a0) = true := nr_i (by omega)
  have d31 : nr (a3 - a1) = true := nr_i (by omega)
  have d40 : nr (a4 - a0) = true := nr_i (by omega)
  have d51 : nr (a5 - a1) = true := nr_i (by omega)
  simp [n0, n1, n2, n3, n4, n5, d20, d31, d40, d51, areaV, cr2, sgn]

theorem c_side (W : World) : Flat Tryz.prog E W Any 135 [.g 2, .g 2, .g 2] fun l => tupleV (resV E 11 l [.i, .i] 0 0) := flat_val (cx3_ok W) k_side v_side

def R_normal : AV := (.tuple [(.agg [(.int (.ite (.app 2 0 (.cons (.var 0) (.cons (.var 1) (.cons (.var 2) (.cons (.var 3) (.cons (.var 4) (.cons (.var 5) (.cons (.var 6) (.cons (.var 7) (.cons (.var 8) .nil)))))))))) (.app 6 0 (.cons (.app 4 0 (.cons (.var 3) (.cons (.var 4) (.cons (.var 5) (.cons (.var 0) (.cons (.var 1) (.cons (.var 2) .nil))))))) (.cons (.app 4 1 (.cons (.var 3) (.cons (.var 4) (.cons (.var 5) (.cons (.var 0) (.cons (.var 1) (.cons (.var 2) .nil))))))) (.cons (.app 4 2 (.cons (.var 3) (.cons (.var 4) (.cons (.var 5) (.cons (.var 0) (.cons (.var 1) (.cons (.var 2) .nil))))))) (.cons (.app 4 0 (.cons (.var 6) (.cons (.var 7) (.cons (.var 8) (.cons (.var 0) (.cons (.var 1) (.cons (.var 2) .nil))))))) (.cons (.app 4 1 (.cons (.var 6) (.cons (.var 7) (.cons (.var 8) (.cons (.var 0) (.cons (.var 1) (.cons (.var 2) .nil))))))) (.cons (.app 4 2 (.cons (.var 6) (.cons (.var 7) (.cons (.var 8) (.cons (.var 0) (.cons (.var 1) (.cons (.var 2) .nil))))))) .nil))))))) (.lit 0))), (.int (.ite (.app 2 0 (.cons (.var 0) (.cons (.var 1) (.cons (.var 2) (.cons (.var 3) (.cons (.var 4) (.cons (.var 5) (.cons (.var 6) (.cons (.var 7) (.cons (.var 8) .nil)))))))))) (.app 6 1 (.cons (.app 4 0 (.cons (.var 3) (.cons (.var 4) (.cons (.var 5) (.cons (.var 0) (.cons (.var 1) (.cons (.var 2) .nil))))))) (.cons (.app 4 1 (.cons (.var 3) (.cons (.var 4) (.cons (.var 5) (.cons (.var 0) (.cons (.var 1) (.cons (.var 2) .nil))))))) (.cons (.app 4 2 (.cons (.var 3) (.cons (.var 4) (.cons (.var 5) (.cons (.var 0) (.cons (.var 1) (.cons (.var 2) .nil))))))) (.cons (.app 4 0 (.cons (.var 6) (.cons (.var 7) (.cons (.var 8) (.cons (.var 0) (.cons (.var 1) (.cons (.var 2) .nil))))))) (.cons (.app 4 1 (.cons (.var 6) (.cons (.var 7) (.cons (.var 8) (.cons (.var 0) (.cons (.var 1) (.cons (.var 2) .nil))))))) (.cons (.app 4 2 (.cons (.var 6) (.cons (.var 7) (.cons (.var 8) (.cons (.var 0) (.cons (.var 1) (.cons (.var 2) .nil))))))) .nil))))))) (.lit 0))), (.int (.ite (.app 2 0 (.cons (.var 0) (.cons (.var 1) (.cons (.var 2) (.cons (.var 3) (.cons (.var 4) (.cons (.var 5) (.cons (.var 6) (.cons (.var 7) (.cons (.var 8) .nil)))))))))) (.app 6 2 (.cons (.app 4 0 (.cons (.var 3) (.cons (.var 4) (.cons (.var 5) (.cons (.var 0) (.cons (.var 1) (.cons (.var 2) .nil))))))) (.cons (.app 4 1 (.cons (.var 3) (.cons (.var 4) (.cons (.var 5) (.cons (.var 0) (.cons (.var 1) (.cons (.var 2) .nil))))))) (.cons (.app 4 2 (.cons (.var 3) (.cons (.var 4) (.cons (.var 5) (.cons (.var 0) (.cons (.var 1) (.cons (.var 2) .nil))))))) (.cons (.app 4 0 (.cons (.var 6) (.cons (.var 7) (.cons (.var 8) (.cons (.var 0) (.cons (.var 1) (.cons (.var 2) .nil))))))) (.cons (.app 4 1 (.cons (.var 6) (.cons (.var 7) (.cons (.var 8) (.cons (.var 0) (.cons (.var 1) (.cons (.var 2) .nil))))))) (.cons (.app 4 2 (.cons (.var 6) (.cons (.var 7) (.cons (.var 8) (.cons (.var 0) (.cons (.var 1) (.cons (.var 2) .nil))))))) .nil))))))) (.lit 0)))]), (.int (.ite (.app 2 0 (.cons (.var 0) (.cons (.var 1) (.cons (.var 2) (.cons (.var 3) (.cons (.var 4) (.cons (.var 5) (.cons (.var 6) (.cons (.var 7) (.cons (.var 8) .nil)))))))))) (.app 6 3 (.cons (.app 4 0 (.cons (.var 3) (.cons (.var 4) (.cons (.var 5) (.cons (.var 0) (.cons (.var 1) (.cons (.var 2) .nil))))))) (.cons (.app 4 1 (.cons (.var 3) (.cons (.var 4) (.cons (.var 5) (.cons (.var 0) (.cons (.var 1) (.cons (.var 2) .nil))))))) (.cons (.app 4 2 (.cons (.var 3) (.cons (.var 4) (.cons (.var 5) (.cons (.var 0) (.cons (.var 1) (.cons (.var 2) .nil))))))) (.cons (.app 4 0 (.cons (.var 6) (.cons (.var 7) (.cons (.var 8) (.cons (.var 0) (.cons (.var 1) (.cons (.var 2) .nil))))))) (.cons (.app 4 1 (.cons (.var 6) (.cons (.var 7) (.cons (.var 8) (.cons (.var 0) (.cons (.var 1) (.cons (.var 2) .nil))))))) (.cons (.app 4 2 (.cons (.var 6) (.cons (.var 7) (.cons (.var 8) (.cons (.var 0) (.cons (.var 1) (.cons (.var 2) .nil))))))) .nil))))))) (.lit 5)))])
theorem k_normal : acall cx3 20 false 83 [] (argsG [.g 3, .g 3, .g 3] 0 0) (heapG [.g 3, .g 3, .g 3] 0) = .leaf (R_normal, heapG [.g 3, .g 3, .g 3] 0) := by kernel_rfl
set_option maxHeartbeats 4000000 in
set_option maxRecDepth 20000 in
theorem v_normal : ∀ l : List Int, l.length = lenSh [.g 3, .g 3, .g 3] → Any l → valOf (E.at l) R_normal = some (tupleV (resV E 12 l [.g 3, .i] 0 0)) := by
  intro l hl hG
  have h0 : l.length = 9 := hl
  clear hl
  obtain ⟨a0, l1, rfl, h1⟩ := cut1 h0
  clear h0
  obtain ⟨a1, l2, rfl, h2⟩ := cut1 h1
  clear h1
  obtain ⟨a2, l3, rfl, h3⟩ := cut1 h2
  clear h2
  obtain ⟨a3, l4, rfl, h4⟩ := cut1 h3
  clear h3
  obtain ⟨a4, l5, rfl, h5⟩ := cut1 h4
  clear h4
  obtain ⟨a5, l6, rfl, h6⟩ := cut1 h5
  clear h5
  obtain ⟨a6, l7, rfl, h7⟩ := cut1 h6
  clear h6
  obtain ⟨a7, l8, rfl, h8⟩ := cut1 h7
  clear h7
  obtain ⟨a8, l9, rfl, h9⟩ := cut1 h8
  clear h8
  obtain rfl := cut0 h9
  clear h9
  simp only [R_normal, valOf, vals1, valInts, val1, tupleV, resV, valsI, den, bt1, bt2, bt3, bt4, Env.at, E, fb, fi, List.getD_cons_zero, List.getD_cons_succ, List.all_cons, List.all_nil, Bool.and_true, nr', us', ss', nr2, us2, ss2, nr3, us3, ss3, cr2, Bool.and_assoc, Option.map_some, List.all_append, cmps]
  cases h0 : ss a0
  · simp
  cases h1 : ss a1
  · simp
  cases h2 : ss a2
  · simp
  cases h3 : ss a3
  · simp
  cases h4 : ss a4
  · simp
  cases h5 : ss a5
  · simp
  cases h6 : ss a6
  · simp
  cases h7 : ss a7
  · simp
  cases h8 : ss a8
  · simp
  have c0 := ss_b h0
  have c1 := ss_b h1
  have c2 := ss_b h2
  have c3 := ss_b h3
  have c4 := ss_b h4
  have c5 := ss_b h5
  have c6 := ss_b h6
  have c7 := ss_b h7
  have c8 := ss_b h8
  have n0 : nr a0 = true := nr_i (by omega)
  have n1 : nr a1 = true := nr_i (by omega)
  have n2 : nr a2 = true := nr_i (by omega)
  have n3 : nr a3 = true := nr_i (by omega)
  have n4 : nr a4 = true := nr_i (by omega)
  have n5 : nr a5 = true := nr_i (by omega)
  have n6 : nr a6 = true := nr_i (by omega)
  have n7 : nr a7 = true := nr_i (by omega)
  have n8 : nr a8 = true := nr_i (by omega)
  have d30 : nr (a3 - a0) = true := nr_i (by omega)
  have d41 : nr (a4 - a1) = true := nr_i (by omega)
  have d52 : nr (a5 - a2) = true := nr_i (by omega)
  have d60 : nr (a6 - a0) = true := nr_i (by omega)
  have d71 : nr (a7 - a1) = true := nr_i (by omega)
  have d82 : nr (a8 - a2) = true := nr_i (by omega)
  simp [n0, n1, n2, n3, n4, n5, n6, n7, n8, d30, d41, d52, d60, d71, d82, nx, ny, nz, cr2]

theorem c_normal (W : World) : Flat Tryz.prog E W Any 83 [.g 3, .g 3, .g 3] fun l => tupleV (resV E 12 l [.g 3, .i] 0 0) := flat_val (cx3_ok W) k_normal v_normal

noncomputable def cx4 : Cx := ⟨cx3.ty, cx3.fn, [flatCon 12 [.g 2, .g 2, .g 2] [.i, .i] 10 noChk, flatCon 135 [.g 2, .g 2, .g 2] [.i, .i] 11 noChk, flatCon 83 [.g 3, .g 3, .g 3] [.g 3, .i] 12 noChk] ++ cx3.con, cx3.inl, cx3.eqs⟩
theorem cx4_ok (W : World) : ∀ l, Any l → CxOk Tryz.prog (E.at l) W cx4 :=
  cx_more (cx3_ok W) (List.forall_mem_cons.2 ⟨flat_con' (c_area W), List.forall_mem_cons.2 ⟨flat_con' (c_side W), List.forall_mem_cons.2 ⟨flat_con' (c_normal W), (fun _ h => by cases h)⟩⟩⟩)
end Go.Proofs.YtlfoglklibhbnaaGreat.Sx
