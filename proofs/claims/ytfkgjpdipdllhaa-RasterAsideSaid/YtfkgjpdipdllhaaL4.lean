/- Contracts, reckoned. -/
import Derived.Test.YtfkgjpdipdllhaaL3
import Derived.KernelRfl
set_option linter.unusedVariables false
set_option linter.unusedSimpArgs false
namespace Go.Proofs.Ytfkgjpdipdllhaa.Sx
open Go.RowKit


def R_area : AV := (.tuple [(.int (.ite (.app 1 0 (.cons (.var 0) (.cons (.var 1) (.cons (.var 2) (.cons (.var 3) (.cons (.var 4) (.cons (.var 5) .nil))))))) (.app 5 0 (.cons (.app 3 0 (.cons (.var 2) (.cons (.var 3) (.cons (.var 0) (.cons (.var 1) .nil))))) (.cons (.app 3 1 (.cons (.var 2) (.cons (.var 3) (.cons (.var 0) (.cons (.var 1) .nil))))) (.cons (.app 3 0 (.cons (.var 4) (.cons (.var 5) (.cons (.var 0) (.cons (.var 1) .nil))))) (.cons (.app 3 1 (.cons (.var 4) (.cons (.var 5) (.cons (.var 0) (.cons (.var 1) .nil))))) .nil))))) (.lit 0))), (.int (.ite (.app 1 0 (.cons (.var 0) (.cons (.var 1) (.cons (.var 2) (.cons (.var 3) (.cons (.var 4) (.cons (.var 5) .nil))))))) (.app 5 1 (.cons (.app 3 0 (.cons (.var 2) (.cons (.var 3) (.cons (.var 0) (.cons (.var 1) .nil))))) (.cons (.app 3 1 (.cons (.var 2) (.cons (.var 3) (.cons (.var 0) (.cons (.var 1) .nil))))) (.cons (.app 3 0 (.cons (.var 4) (.cons (.var 5) (.cons (.var 0) (.cons (.var 1) .nil))))) (.cons (.app 3 1 (.cons (.var 4) (.cons (.var 5) (.cons (.var 0) (.cons (.var 1) .nil))))) .nil))))) (.lit 5)))])
theorem k_area : acall cx3 20 false 29 [] (argsG [.g 2, .g 2, .g 2] 0 0) (heapG [.g 2, .g 2, .g 2] 0) = .leaf (R_area, heapG [.g 2, .g 2, .g 2] 0) := by kernel_rfl
set_option maxHeartbeats 4000000 in
set_option maxRecDepth 20000 in
theorem v_area : ∀ l : List Int, l.length = lenSh [.g 2, .g 2, .g 2] → Any l → valOf (E.at l) R_area = some (tupleV (resV E 10 l [.i, .i] 0 0)) := by
  intro l hl hG
  have h0 : l.length = 6 := hl
  clear hl
  obtain ⟨a0, l1, rfl, h1⟩ := cut1 h0
  clear h0
  obtain ⟨a1, l2, rfl, h2⟩ := cut1 h1
  clear h1
  obtain ⟨a2, l3, rfl, h3⟩ := cut1 h2
  clear h2
  obtain ⟨a3, l4, rfl, h4⟩ := cut1 h3
  clear h3
  obtain ⟨a4, l5, rfl, h5⟩ := cut1 h4
  clear h4
  obtain ⟨a5, l6, rfl, h6⟩ := cut1 h5
  clear h5
  obtain rfl := cut0 h6
  clear h6
  simp only [R_area, valOf, vals1, valInts, val1, tupleV, resV, valsI, den, bt1, bt2, bt3, bt4, Env.at, E, fb, fi, List.getD_cons_zero, List.getD_cons_succ, List.all_cons, List.all_nil, Bool.and_true, nr', us', ss', nr2, us2, ss2, nr3, us3, ss3, cr2, Bool.and_assoc, Option.map_some, List.all_append, cmps]
  cases h0 : us a0
  · simp
  cases h1 : us a1
  · simp
  cases h2 : us a2
  · simp
  cases h3 : us a3
  · simp
  cases h4 : us a4
  · simp
  cases h5 : us a5
  · simp
  have c0 := us_b h0
  have c1 := us_b h1
  have c2 := us_b h2
  have c3 := us_b h3
  have c4 := us_b h4
  have c5 := us_b h5
  have n0 : nr a0 = true := nr_i (by omega)
  have n1 : nr a1 = true := nr_i (by omega)
  have n2 : nr a2 = true := nr_i (by omega)
  have n3 : nr a3 = true := nr_i (by omega)
  have n4 : nr a4 = true := nr_i (by omega)
  have n5 : nr a5 = true := nr_i (by omega)
  have d20 : nr (a2 - a0) = true := nr_i (by omega)
  have d31 : nr (a3 - a1) = true := nr_i (by omega)
  have d40 : nr (a4 - a0) = true := nr_i (by omega)
  have d51 : nr (a5 - a1) = true := nr_i (by omega)
  simp [n0, n1, n2, n3, n4, n5, d20, d31, d40, d51, areaV, cr2]

theorem c_area (W : World) : Flat Try.prog E W Any 29 [.g 2, .g 2, .g 2] fun l => tupleV (resV E 10 l [.i, .i] 0 0) := flat_val (cx3_ok W) k_area v_area

def R_side : AV := (.tuple [(.int (.ite (.lt (.ite (.app 1 0 (.cons (.var 0) (.cons (.var 1) (.cons (.var 2) (.cons (.var 3) (.cons (.var 4) (.cons (.var 5) .nil))))))) (.app 5 0 (.cons (.app 3 0 (.cons (.var 2) (.cons (.var 3) (.cons (.var 0) (.cons (.var 1) .nil))))) (.cons (.app 3 1 (.cons (.var 2) (.cons (.var 3) (.cons (.var 0) (.cons (.var 1) .nil))))) (.cons (.app 3 0 (.cons (.var 4) (.cons (.var 5) (.cons (.var 0) (.cons (.var 1) .nil))))) (.cons (.app 3 1 (.cons (.var 4) (.cons (.var 5) (.cons (.var 0) (.cons (.var 1) .nil))))) .nil))))) (.lit 0)) (.lit 0)) (.lit (-1)) (.ite (.lt (.lit 0) (.ite (.app 1 0 (.cons (.var 0) (.cons (.var 1) (.cons (.var 2) (.cons (.var 3) (.cons (.var 4) (.cons (.var 5) .nil))))))) (.app 5 0 (.cons (.app 3 0 (.cons (.var 2) (.cons (.var 3) (.cons (.var 0) (.cons (.var 1) .nil))))) (.cons (.app 3 1 (.cons (.var 2) (.cons (.var 3) (.cons (.var 0) (.cons (.var 1) .nil))))) (.cons (.app 3 0 (.cons (.var 4) (.cons (.var 5) (.cons (.var 0) (.cons (.var 1) .nil))))) (.cons (.app 3 1 (.cons (.var 4) (.cons (.var 5) (.cons (.var 0) (.cons (.var 1) .nil))))) .nil))))) (.lit 0))) (.lit 1) (.lit 0)))), (.int (.ite (.app 1 0 (.cons (.var 0) (.cons (.var 1) (.cons (.var 2) (.cons (.var 3) (.cons (.var 4) (.cons (.var 5) .nil))))))) (.app 5 1 (.cons (.app 3 0 (.cons (.var 2) (.cons (.var 3) (.cons (.var 0) (.cons (.var 1) .nil))))) (.cons (.app 3 1 (.cons (.var 2) (.cons (.var 3) (.cons (.var 0) (.cons (.var 1) .nil))))) (.cons (.app 3 0 (.cons (.var 4) (.cons (.var 5) (.cons (.var 0) (.cons (.var 1) .nil))))) (.cons (.app 3 1 (.cons (.var 4) (.cons (.var 5) (.cons (.var 0) (.cons (.var 1) .nil))))) .nil))))) (.lit 5)))])
theorem k_side : acall cx3 20 false 42 [] (argsG [.g 2, .g 2, .g 2] 0 0) (heapG [.g 2, .g 2, .g 2] 0) = .leaf (R_side, heapG [.g 2, .g 2, .g 2] 0) := by kernel_rfl
set_option maxHeartbeats 4000000 in
set_option maxRecDepth 20000 in
theorem v_side : ∀ l : List Int, l.length = lenSh [.g 2, .g 2, .g 2] → Any l → valOf (E.at l) R_side = some (tupleV (resV E 11 l [.i, .i] 0 0)) := by
  intro l hl hG
  have h0 : l.length = 6 := hl
  clear hl
  obtain ⟨a0, l1, rfl, h1⟩ := cut1 h0
  clear h0
  obtain ⟨a1, l2, rfl, h2⟩ := cut1 h1
  clear h1
  obtain ⟨a2, l3, rfl, h3⟩ := cut1 h2
  clear h2
  obtain ⟨a3, l4, rfl, h4⟩ := cut1 h3
  clear h3
  obtain ⟨a4, l5, rfl, h5⟩ := cut1 h4
  clear h4
  obtain ⟨a5, l6, rfl, h6⟩ := cut1 h5
  clear h5
  obtain rfl := cut0 h6
  clear h6
  simp only [R_side, valOf, vals1, valInts, val1, tupleV, resV, valsI, den, bt1, bt2, bt3, bt4, Env.at, E, fb, fi, List.getD_cons_zero, List.getD_cons_succ, List.all_cons, List.all_nil, Bool.and_true, nr', us', ss', nr2, us2, ss2, nr3, us3, ss3, cr2, Bool.and_assoc, Option.map_some, List.all_append, cmps]
  cases h0 : us a0
  · simp
  cases h1 : us a1
  · simp
  cases h2 : us a2
  · simp
  cases h3 : us a3
  · simp
  cases h4 : us a4
  · simp
  cases h5 : us a5
  · simp
  have c0 := us_b h0
  have c1 := us_b h1
  have c2 := us_b h2
  have c3 := us_b h3
  have c4 := us_b h4
  have c5 := us_b h5
  have n0 : nr a0 = true := nr_i (by omega)
  have n1 : nr a1 = true := nr_i (by omega)
  have n2 : nr a2 = true := nr_i (by omega)
  have n3 : nr a3 = true := nr_i (by omega)
  have n4 : nr a4 = true := nr_i (by omega)
  have n5 : nr a5 = true := nr_i (by omega)
  have d20 : nr (a2 - a0) = true := nr_i (by omega)
  have d31 : nr (a3 - a1) = true := nr_i (by omega)
  have d40 : nr (a4 - a0) = true := nr_i (by omega)
  have d51 : nr (a5 - a1) = true := nr_i (by omega)
  simp [n0, n1, n2, n3, n4, n5, d20, d31, d40, d51, areaV, cr2, sgn]

theorem c_side (W : World) : Flat Try.prog E W Any 42 [.g 2, .g 2, .g 2] fun l => tupleV (resV E 11 l [.i, .i] 0 0) := flat_val (cx3_ok W) k_side v_side

def R_rarea : AV := (.tuple [(.int (.ite (.ite (.app 1 0 (.cons (.var 0) (.cons (.var 1) .nil))) (.ite (.app 1 0 (.cons (.var 2) (.cons (.var 3) .nil))) (.no (.app 1 0 (.cons (.var 4) (.cons (.var 5) .nil)))) (.blit true)) (.blit true)) (.lit 0) (.app 5 0 (.cons (.app 3 0 (.cons (.var 2) (.cons (.var 3) (.cons (.var 0) (.cons (.var 1) .nil))))) (.cons (.app 3 1 (.cons (.var 2) (.cons (.var 3) (.cons (.var 0) (.cons (.var 1) .nil))))) (.cons (.app 3 0 (.cons (.var 4) (.cons (.var 5) (.cons (.var 0) (.cons (.var 1) .nil))))) (.cons (.app 3 1 (.cons (.var 4) (.cons (.var 5) (.cons (.var 0) (.cons (.var 1) .nil))))) .nil))))))), (.int (.ite (.ite (.app 1 0 (.cons (.var 0) (.cons (.var 1) .nil))) (.ite (.app 1 0 (.cons (.var 2) (.cons (.var 3) .nil))) (.no (.app 1 0 (.cons (.var 4) (.cons (.var 5) .nil)))) (.blit true)) (.blit true)) (.lit 5) (.app 5 1 (.cons (.app 3 0 (.cons (.var 2) (.cons (.var 3) (.cons (.var 0) (.cons (.var 1) .nil))))) (.cons (.app 3 1 (.cons (.var 2) (.cons (.var 3) (.cons (.var 0) (.cons (.var 1) .nil))))) (.cons (.app 3 0 (.cons (.var 4) (.cons (.var 5) (.cons (.var 0) (.cons (.var 1) .nil))))) (.cons (.app 3 1 (.cons (.var 4) (.cons (.var 5) (.cons (.var 0) (.cons (.var 1) .nil))))) .nil)))))))])
theorem k_rarea : acall cx3 20 false 36 [] (argsG [.g 2, .g 2, .g 2] 0 0) (heapG [.g 2, .g 2, .g 2] 0) = .leaf (R_rarea, heapG [.g 2, .g 2, .g 2] 0) := by kernel_rfl
set_option maxHeartbeats 4000000 in
set_option maxRecDepth 20000 in
theorem v_rarea : ∀ l : List Int, l.length = lenSh [.g 2, .g 2, .g 2] → Any l → valOf (E.at l) R_rarea = some (tupleV (resV E 10 l [.i, .i] 0 0)) := by
  intro l hl hG
  have h0 : l.length = 6 := hl
  clear hl
  obtain ⟨a0, l1, rfl, h1⟩ := cut1 h0
  clear h0
  obtain ⟨a1, l2, rfl, h2⟩ := cut1 h1
  clear h1
  obtain ⟨a2, l3, rfl, h3⟩ := cut1 h2
  clear h2
  obtain ⟨a3, l4, rfl, h4⟩ := cut1 h3
  clear h3
  obtain ⟨a4, l5, rfl, h5⟩ := cut1 h4
  clear h4
  obtain ⟨a5, l6, rfl, h6⟩ := cut1 h5
  clear h5
  obtain rfl := cut0 h6
  clear h6
  simp only [R_rarea, valOf, vals1, valInts, val1, tupleV, resV, valsI, den, bt1, bt2, bt3, bt4, Env.at, E, fb, fi, List.getD_cons_zero, List.getD_cons_succ, List.all_cons, List.all_nil, Bool.and_true, nr', us', ss', nr2, us2, ss2, nr3, us3, ss3, cr2, Bool.and_assoc, Option.map_some, List.all_append, cmps]
  cases h0 : us a0
  · simp
  cases h1 : us a1
  · simp
  cases h2 : us a2
  · simp
  cases h3 : us a3
  · simp
  cases h4 : us a4
  · simp
  cases h5 : us a5
  · simp
  have c0 := us_b h0
  have c1 := us_b h1
  have c2 := us_b h2
  have c3 := us_b h3
  have c4 := us_b h4
  have c5 := us_b h5
  have n0 : nr a0 = true := nr_i (by omega)
  have n1 : nr a1 = true := nr_i (by omega)
  have n2 : nr a2 = true := nr_i (by omega)
  have n3 : nr a3 = true := nr_i (by omega)
  have n4 : nr a4 = true := nr_i (by omega)
  have n5 : nr a5 = true := nr_i (by omega)
  have d20 : nr (a2 - a0) = true := nr_i (by omega)
  have d31 : nr (a3 - a1) = true := nr_i (by omega)
  have d40 : nr (a4 - a0) = true := nr_i (by omega)
  have d51 : nr (a5 - a1) = true := nr_i (by omega)
  simp [n0, n1, n2, n3, n4, n5, d20, d31, d40, d51, areaV, cr2]

theorem c_rarea (W : World) : Flat Try.prog E W Any 36 [.g 2, .g 2, .g 2] fun l => tupleV (resV E 10 l [.i, .i] 0 0) := flat_val (cx3_ok W) k_rarea v_rarea

def R_rside : AV := (.tuple [(.int (.ite (.lt (.ite (.ite (.app 1 0 (.cons (.var 0) (.cons (.var 1) .nil))) (.ite (.app 1 0 (.cons (.var 2) (.cons (.var 3) .nil))) (.no (.app 1 0 (.cons (.var 4) (.cons (.var 5) .nil)))) (.blit true)) (.blit true)) (.lit 0) (.app 5 0 (.cons (.app 3 0 (.cons (.var 2) (.cons (.var 3) (.cons (.var 0) (.cons (.var 1) .nil))))) (.cons (.app 3 1 (.cons (.var 2) (.cons (.var 3) (.cons (.var 0) (.cons (.var 1) .nil))))) (.cons (.app 3 0 (.cons (.var 4) (.cons (.var 5) (.cons (.var 0) (.cons (.var 1) .nil))))) (.cons (.app 3 1 (.cons (.var 4) (.cons (.var 5) (.cons (.var 0) (.cons (.var 1) .nil))))) .nil)))))) (.lit 0)) (.lit (-1)) (.ite (.lt (.lit 0) (.ite (.ite (.app 1 0 (.cons (.var 0) (.cons (.var 1) .nil))) (.ite (.app 1 0 (.cons (.var 2) (.cons (.var 3) .nil))) (.no (.app 1 0 (.cons (.var 4) (.cons (.var 5) .nil)))) (.blit true)) (.blit true)) (.lit 0) (.app 5 0 (.cons (.app 3 0 (.cons (.var 2) (.cons (.var 3) (.cons (.var 0) (.cons (.var 1) .nil))))) (.cons (.app 3 1 (.cons (.var 2) (.cons (.var 3) (.cons (.var 0) (.cons (.var 1) .nil))))) (.cons (.app 3 0 (.cons (.var 4) (.cons (.var 5) (.cons (.var 0) (.cons (.var 1) .nil))))) (.cons (.app 3 1 (.cons (.var 4) (.cons (.var 5) (.cons (.var 0) (.cons (.var 1) .nil))))) .nil))))))) (.lit 1) (.lit 0)))), (.int (.ite (.ite (.app 1 0 (.cons (.var 0) (.cons (.var 1) .nil))) (.ite (.app 1 0 (.cons (.var 2) (.cons (.var 3) .nil))) (.no (.app 1 0 (.cons (.var 4) (.cons (.var 5) .nil)))) (.blit true)) (.blit true)) (.lit 5) (.app 5 1 (.cons (.app 3 0 (.cons (.var 2) (.cons (.var 3) (.cons (.var 0) (.cons (.var 1) .nil))))) (.cons (.app 3 1 (.cons (.var 2) (.cons (.var 3) (.cons (.var 0) (.cons (.var 1) .nil))))) (.cons (.app 3 0 (.cons (.var 4) (.cons (.var 5) (.cons (.var 0) (.cons (.var 1) .nil))))) (.cons (.app 3 1 (.cons (.var 4) (.cons (.var 5) (.cons (.var 0) (.cons (.var 1) .nil))))) .nil)))))))])
theorem k_rside : acall cx3 20 false 57 [] (argsG [.g 2, .g 2, .g 2] 0 0) (heapG [.g 2, .g 2, .g 2] 0) = .leaf (R_rside, heapG [.g 2, .g 2, .g 2] 0) := by kernel_rfl
set_option maxHeartbeats 4000000 in
set_option maxRecDepth 20000 in
theorem v_rside : ∀ l : List Int, l.length = lenSh [.g 2, .g 2, .g 2] → Any l → valOf (E.at l) R_rside = some (tupleV (resV E 11 l [.i, .i] 0 0)) := by
  intro l hl hG
  have h0 : l.length = 6 := hl
  clear hl
  obtain ⟨a0, l1, rfl, h1⟩ := cut1 h0
  clear h0
  obtain ⟨a1, l2, rfl, h2⟩ := cut1 h1
  clear h1
  obtain ⟨a2, l3, rfl, h3⟩ := cut1 h2
  clear h2
  obtain ⟨a3, l4, rfl, h4⟩ := cut1 h3
  clear h3
  obtain ⟨a4, l5, rfl, h5⟩ := cut1 h4
  clear h4
  obtain ⟨a5, l6, rfl, h6⟩ := cut1 h5
  clear h5
  obtain rfl := cut0 h6
  clear h6
  simp only [R_rside, valOf, vals1, valInts, val1, tupleV, resV, valsI, den, bt1, bt2, bt3, bt4, Env.at, E, fb, fi, List.getD_cons_zero, List.getD_cons_succ, List.all_cons, List.all_nil, Bool.and_true, nr', us', ss', nr2, us2, ss2, nr3, us3, ss3, cr2, Bool.and_assoc, Option.map_some, List.all_append, cmps]
  cases h0 : us a0
  · simp
  cases h1 : us a1
  · simp
  cases h2 : us a2
  · simp
  cases h3 : us a3
  · simp
  cases h4 : us a4
  · simp
  cases h5 : us a5
  · simp
  have c0 := us_b h0
  have c1 := us_b h1
  have c2 := us_b h2
  have c3 := us_b h3
  have c4 := us_b h4
  have c5 := us_b h5
  have n0 : nr a0 = true := nr_i (by omega)
  have n1 : nr a1 = true := nr_i (by omega)
  have n2 : nr a2 = true := nr_i (by omega)
  have n3 : nr a3 = true := nr_i (by omega)
  have n4 : nr a4 = true := nr_i (by omega)
  have n5 : nr a5 = true := nr_i (by omega)
  have d20 : nr (a2 - a0) = true := nr_i (by omega)
  have d31 : nr (a3 - a1) = true := nr_i (by omega)
  have d40 : nr (a4 - a0) = true := nr_i (by omega)
  have d51 : nr (a5 - a1) = true := nr_i (by omega)
  simp [n0, n1, n2, n3, n4, n5, d20, d31, d40, d51, areaV, cr2, sgn]

theorem c_rside (W : World) : Flat Try.prog E W Any 57 [.g 2, .g 2, .g 2] fun l => tupleV (resV E 11 l [.i, .i] 0 0) := flat_val (cx3_ok W) k_rside v_rside

noncomputable def cx4 : Cx := ⟨cx3.ty, cx3.fn, [flatCon 29 [.g 2, .g 2, .g 2] [.i, .i] 10 noChk, flatCon 42 [.g 2, .g 2, .g 2] [.i, .i] 11 noChk, flatCon 36 [.g 2, .g 2, .g 2] [.i, .i] 10 noChk, flatCon 57 [.g 2, .g 2, .g 2] [.i, .i] 11 noChk] ++ cx3.con, cx3.inl, cx3.eqs⟩
theorem cx4_ok (W : World) : ∀ l, Any l → CxOk Try.prog (E.at l) W cx4 :=
  cx_more (cx3_ok W) (List.forall_mem_cons.2 ⟨flat_con' (c_area W), List.forall_mem_cons.2 ⟨flat_con' (c_side W), List.forall_mem_cons.2 ⟨flat_con' (c_rarea W), List.forall_mem_cons.2 ⟨flat_con' (c_rside W), (fun _ h => by cases h)⟩⟩⟩⟩)
end Go.Proofs.Ytfkgjpdipdllhaa.Sx
