/- Contracts, reckoned. -/
import Derived.Test.YtfkgjpdipdllhaaL1
import Derived.KernelRfl
set_option linter.unusedVariables false
set_option linter.unusedSimpArgs false
namespace Go.Proofs.Ytfkgjpdipdllhaa.Sx
open Go.RowKit


def R_is2 : AV := (.bool (.ite (.app 0 0 (.cons (.var 0) (.cons (.var 1) .nil))) (.app 0 0 (.cons (.var 2) (.cons (.var 3) .nil))) (.blit false)))
theorem k_is2 : acall cx1 20 false 54 [] (argsG [.s 24 2 4] 0 0) (heapG [.s 24 2 4] 0) = .leaf (R_is2, heapG [.s 24 2 4] 0) := by kernel_rfl
set_option maxHeartbeats 4000000 in
set_option maxRecDepth 20000 in
theorem v_is2 : ∀ l : List Int, l.length = lenSh [.s 24 2 4] → Any l → valOf (E.at l) R_is2 = some (tupleV (resV E 0 l [.b] 0 0)) := by
  intro l hl hG
  have h0 : l.length = 4 := hl
  clear hl
  obtain ⟨a0, l1, rfl, h1⟩ := cut1 h0
  clear h0
  obtain ⟨a1, l2, rfl, h2⟩ := cut1 h1
  clear h1
  obtain ⟨a2, l3, rfl, h3⟩ := cut1 h2
  clear h2
  obtain ⟨a3, l4, rfl, h4⟩ := cut1 h3
  clear h3
  obtain rfl := cut0 h4
  clear h4
  simp only [R_is2, valOf, vals1, valInts, val1, tupleV, resV, valsI, den, bt1, bt2, bt3, bt4, Env.at, E, fb, fi, List.getD_cons_zero, List.getD_cons_succ, List.all_cons, List.all_nil, Bool.and_true, nr', us', ss', nr2, us2, ss2, nr3, us3, ss3, cr2, Bool.and_assoc, Option.map_some, List.all_append, cmps]

theorem c_is2 (W : World) : Flat Try.prog E W Any 54 [.s 24 2 4] fun l => tupleV (resV E 0 l [.b] 0 0) := flat_val (cx1_ok W) k_is2 v_is2

def R_small2_1 : AV := (.bool (.ite (.ite (.lt (.var 0) (.lit (-4096))) (.blit true) (.lt (.lit 4096) (.var 0))) (.blit false) (.no (.ite (.lt (.var 1) (.lit (-4096))) (.blit true) (.lt (.lit 4096) (.var 1))))))
theorem k_small2_1 : acall cx1 20 false 30 [] (argsG [.s 24 1 2] 0 0) (heapG [.s 24 1 2] 0) = .leaf (R_small2_1, heapG [.s 24 1 2] 0) := by kernel_rfl
set_option maxHeartbeats 4000000 in
set_option maxRecDepth 20000 in
theorem v_small2_1 : ∀ l : List Int, l.length = lenSh [.s 24 1 2] → Any l → valOf (E.at l) R_small2_1 = some (tupleV (resV E 1 l [.b] 0 0)) := by
  intro l hl hG
  have h0 : l.length = 2 := hl
  clear hl
  obtain ⟨a0, l1, rfl, h1⟩ := cut1 h0
  clear h0
  obtain ⟨a1, l2, rfl, h2⟩ := cut1 h1
  clear h1
  obtain rfl := cut0 h2
  clear h2
  simp only [R_small2_1, valOf, vals1, valInts, val1, tupleV, resV, valsI, den, bt1, bt2, bt3, bt4, Env.at, E, fb, fi, List.getD_cons_zero, List.getD_cons_succ, List.all_cons, List.all_nil, Bool.and_true, nr', us', ss', nr2, us2, ss2, nr3, us3, ss3, cr2, Bool.and_assoc, Option.map_some, List.all_append, cmps]

theorem c_small2_1 (W : World) : Flat Try.prog E W Any 30 [.s 24 1 2] fun l => tupleV (resV E 1 l [.b] 0 0) := flat_val (cx1_ok W) k_small2_1 v_small2_1

def R_small2_2 : AV := (.bool (.ite (.ite (.ite (.lt (.var 0) (.lit (-4096))) (.blit true) (.lt (.lit 4096) (.var 0))) (.blit false) (.no (.ite (.lt (.var 1) (.lit (-4096))) (.blit true) (.lt (.lit 4096) (.var 1))))) (.ite (.ite (.lt (.var 2) (.lit (-4096))) (.blit true) (.lt (.lit 4096) (.var 2))) (.blit false) (.no (.ite (.lt (.var 3) (.lit (-4096))) (.blit true) (.lt (.lit 4096) (.var 3))))) (.blit false)))
theorem k_small2_2 : acall cx1 20 false 30 [] (argsG [.s 24 2 4] 0 0) (heapG [.s 24 2 4] 0) = .leaf (R_small2_2, heapG [.s 24 2 4] 0) := by kernel_rfl
set_option maxHeartbeats 4000000 in
set_option maxRecDepth 20000 in
theorem v_small2_2 : ∀ l : List Int, l.length = lenSh [.s 24 2 4] → Any l → valOf (E.at l) R_small2_2 = some (tupleV (resV E 1 l [.b] 0 0)) := by
  intro l hl hG
  have h0 : l.length = 4 := hl
  clear hl
  obtain ⟨a0, l1, rfl, h1⟩ := cut1 h0
  clear h0
  obtain ⟨a1, l2, rfl, h2⟩ := cut1 h1
  clear h1
  obtain ⟨a2, l3, rfl, h3⟩ := cut1 h2
  clear h2
  obtain ⟨a3, l4, rfl, h4⟩ := cut1 h3
  clear h3
  obtain rfl := cut0 h4
  clear h4
  simp only [R_small2_2, valOf, vals1, valInts, val1, tupleV, resV, valsI, den, bt1, bt2, bt3, bt4, Env.at, E, fb, fi, List.getD_cons_zero, List.getD_cons_succ, List.all_cons, List.all_nil, Bool.and_true, nr', us', ss', nr2, us2, ss2, nr3, us3, ss3, cr2, Bool.and_assoc, Option.map_some, List.all_append, cmps]

theorem c_small2_2 (W : World) : Flat Try.prog E W Any 30 [.s 24 2 4] fun l => tupleV (resV E 1 l [.b] 0 0) := flat_val (cx1_ok W) k_small2_2 v_small2_2

def R_small2_3 : AV := (.bool (.ite (.ite (.ite (.lt (.var 0) (.lit (-4096))) (.blit true) (.lt (.lit 4096) (.var 0))) (.blit false) (.no (.ite (.lt (.var 1) (.lit (-4096))) (.blit true) (.lt (.lit 4096) (.var 1))))) (.ite (.ite (.ite (.lt (.var 2) (.lit (-4096))) (.blit true) (.lt (.lit 4096) (.var 2))) (.blit false) (.no (.ite (.lt (.var 3) (.lit (-4096))) (.blit true) (.lt (.lit 4096) (.var 3))))) (.ite (.ite (.lt (.var 4) (.lit (-4096))) (.blit true) (.lt (.lit 4096) (.var 4))) (.blit false) (.no (.ite (.lt (.var 5) (.lit (-4096))) (.blit true) (.lt (.lit 4096) (.var 5))))) (.blit false)) (.blit false)))
theorem k_small2_3 : acall cx1 20 false 30 [] (argsG [.s 24 3 6] 0 0) (heapG [.s 24 3 6] 0) = .leaf (R_small2_3, heapG [.s 24 3 6] 0) := by kernel_rfl
set_option maxHeartbeats 4000000 in
set_option maxRecDepth 20000 in
theorem v_small2_3 : ∀ l : List Int, l.length = lenSh [.s 24 3 6] → Any l → valOf (E.at l) R_small2_3 = some (tupleV (resV E 1 l [.b] 0 0)) := by
  intro l hl hG
  have h0 : l.length = 6 := hl
  clear hl
  obtain ⟨a0, l1, rfl, h1⟩ := cut1 h0
  clear h0
  obtain ⟨a1, l2, rfl, h2⟩ := cut1 h1
  clear h1
  obtain ⟨a2, l3, rfl, h3⟩ := cut1 h2
  clear h2
  obtain ⟨a3, l4, rfl, h4⟩ := cut1 h3
  clear h3
  obtain ⟨a4, l5, rfl, h5⟩ := cut1 h4
  clear h4
  obtain ⟨a5, l6, rfl, h6⟩ := cut1 h5
  clear h5
  obtain rfl := cut0 h6
  clear h6
  simp only [R_small2_3, valOf, vals1, valInts, val1, tupleV, resV, valsI, den, bt1, bt2, bt3, bt4, Env.at, E, fb, fi, List.getD_cons_zero, List.getD_cons_succ, List.all_cons, List.all_nil, Bool.and_true, nr', us', ss', nr2, us2, ss2, nr3, us3, ss3, cr2, Bool.and_assoc, Option.map_some, List.all_append, cmps]

theorem c_small2_3 (W : World) : Flat Try.prog E W Any 30 [.s 24 3 6] fun l => tupleV (resV E 1 l [.b] 0 0) := flat_val (cx1_ok W) k_small2_3 v_small2_3

def R_small2_4 : AV := (.bool (.ite (.ite (.ite (.lt (.var 0) (.lit (-4096))) (.blit true) (.lt (.lit 4096) (.var 0))) (.blit false) (.no (.ite (.lt (.var 1) (.lit (-4096))) (.blit true) (.lt (.lit 4096) (.var 1))))) (.ite (.ite (.ite (.lt (.var 2) (.lit (-4096))) (.blit true) (.lt (.lit 4096) (.var 2))) (.blit false) (.no (.ite (.lt (.var 3) (.lit (-4096))) (.blit true) (.lt (.lit 4096) (.var 3))))) (.ite (.ite (.ite (.lt (.var 4) (.lit (-4096))) (.blit true) (.lt (.lit 4096) (.var 4))) (.blit false) (.no (.ite (.lt (.var 5) (.lit (-4096))) (.blit true) (.lt (.lit 4096) (.var 5))))) (.ite (.ite (.lt (.var 6) (.lit (-4096))) (.blit true) (.lt (.lit 4096) (.var 6))) (.blit false) (.no (.ite (.lt (.var 7) (.lit (-4096))) (.blit true) (.lt (.lit 4096) (.var 7))))) (.blit false)) (.blit false)) (.blit false)))
theorem k_small2_4 : acall cx1 20 false 30 [] (argsG [.s 24 4 8] 0 0) (heapG [.s 24 4 8] 0) = .leaf (R_small2_4, heapG [.s 24 4 8] 0) := by kernel_rfl
set_option maxHeartbeats 4000000 in
set_option maxRecDepth 20000 in
theorem v_small2_4 : ∀ l : List Int, l.length = lenSh [.s 24 4 8] → Any l → valOf (E.at l) R_small2_4 = some (tupleV (resV E 1 l [.b] 0 0)) := by
  intro l hl hG
  have h0 : l.length = 8 := hl
  clear hl
  obtain ⟨a0, l1, rfl, h1⟩ := cut1 h0
  clear h0
  obtain ⟨a1, l2, rfl, h2⟩ := cut1 h1
  clear h1
  obtain ⟨a2, l3, rfl, h3⟩ := cut1 h2
  clear h2
  obtain ⟨a3, l4, rfl, h4⟩ := cut1 h3
  clear h3
  obtain ⟨a4, l5, rfl, h5⟩ := cut1 h4
  clear h4
  obtain ⟨a5, l6, rfl, h6⟩ := cut1 h5
  clear h5
  obtain ⟨a6, l7, rfl, h7⟩ := cut1 h6
  clear h6
  obtain ⟨a7, l8, rfl, h8⟩ := cut1 h7
  clear h7
  obtain rfl := cut0 h8
  clear h8
  simp only [R_small2_4, valOf, vals1, valInts, val1, tupleV, resV, valsI, den, bt1, bt2, bt3, bt4, Env.at, E, fb, fi, List.getD_cons_zero, List.getD_cons_succ, List.all_cons, List.all_nil, Bool.and_true, nr', us', ss', nr2, us2, ss2, nr3, us3, ss3, cr2, Bool.and_assoc, Option.map_some, List.all_append, cmps]

theorem c_small2_4 (W : World) : Flat Try.prog E W Any 30 [.s 24 4 8] fun l => tupleV (resV E 1 l [.b] 0 0) := flat_val (cx1_ok W) k_small2_4 v_small2_4

def R_small2_p : AV := (.bool (.ite (.ite (.ite (.lt (.var 0) (.lit (-4096))) (.blit true) (.lt (.lit 4096) (.var 0))) (.blit false) (.no (.ite (.lt (.var 1) (.lit (-4096))) (.blit true) (.lt (.lit 4096) (.var 1))))) (.ite (.ite (.ite (.lt (.var 2) (.lit (-4096))) (.blit true) (.lt (.lit 4096) (.var 2))) (.blit false) (.no (.ite (.lt (.var 3) (.lit (-4096))) (.blit true) (.lt (.lit 4096) (.var 3))))) (.ite (.ite (.lt (.var 4) (.lit (-4096))) (.blit true) (.lt (.lit 4096) (.var 4))) (.blit false) (.no (.ite (.lt (.var 5) (.lit (-4096))) (.blit true) (.lt (.lit 4096) (.var 5))))) (.blit false)) (.blit false)))
theorem k_small2_p : acall cx1 20 false 30 [] (argsG [.s 68 3 6] 0 0) (heapG [.s 68 3 6] 0) = .leaf (R_small2_p, heapG [.s 68 3 6] 0) := by kernel_rfl
set_option maxHeartbeats 4000000 in
set_option maxRecDepth 20000 in
theorem v_small2_p : ∀ l : List Int, l.length = lenSh [.s 68 3 6] → Any l → valOf (E.at l) R_small2_p = some (tupleV (resV E 1 l [.b] 0 0)) := by
  intro l hl hG
  have h0 : l.length = 6 := hl
  clear hl
  obtain ⟨a0, l1, rfl, h1⟩ := cut1 h0
  clear h0
  obtain ⟨a1, l2, rfl, h2⟩ := cut1 h1
  clear h1
  obtain ⟨a2, l3, rfl, h3⟩ := cut1 h2
  clear h2
  obtain ⟨a3, l4, rfl, h4⟩ := cut1 h3
  clear h3
  obtain ⟨a4, l5, rfl, h5⟩ := cut1 h4
  clear h4
  obtain ⟨a5, l6, rfl, h6⟩ := cut1 h5
  clear h5
  obtain rfl := cut0 h6
  clear h6
  simp only [R_small2_p, valOf, vals1, valInts, val1, tupleV, resV, valsI, den, bt1, bt2, bt3, bt4, Env.at, E, fb, fi, List.getD_cons_zero, List.getD_cons_succ, List.all_cons, List.all_nil, Bool.and_true, nr', us', ss', nr2, us2, ss2, nr3, us3, ss3, cr2, Bool.and_assoc, Option.map_some, List.all_append, cmps]

theorem c_small2_p (W : World) : Flat Try.prog E W Any 30 [.s 68 3 6] fun l => tupleV (resV E 1 l [.b] 0 0) := flat_val (cx1_ok W) k_small2_p v_small2_p

def R_rs2 : AV := (.bool (.ite (.le (.lit (-4096)) (.var 0)) (.ite (.le (.var 0) (.lit 4096)) (.ite (.le (.lit (-4096)) (.var 1)) (.le (.var 1) (.lit 4096)) (.blit false)) (.blit false)) (.blit false)))
theorem k_rs2 : acall cx1 20 false 37 [] (argsG [.g 2] 0 0) (heapG [.g 2] 0) = .leaf (R_rs2, heapG [.g 2] 0) := by kernel_rfl
set_option maxHeartbeats 4000000 in
set_option maxRecDepth 20000 in
theorem v_rs2 : ∀ l : List Int, l.length = lenSh [.g 2] → Any l → valOf (E.at l) R_rs2 = some (tupleV (resV E 1 l [.b] 0 0)) := by
  intro l hl hG
  have h0 : l.length = 2 := hl
  clear hl
  obtain ⟨a0, l1, rfl, h1⟩ := cut1 h0
  clear h0
  obtain ⟨a1, l2, rfl, h2⟩ := cut1 h1
  clear h1
  obtain rfl := cut0 h2
  clear h2
  simp only [R_rs2, valOf, vals1, valInts, val1, tupleV, resV, valsI, den, bt1, bt2, bt3, bt4, Env.at, E, fb, fi, List.getD_cons_zero, List.getD_cons_succ, List.all_cons, List.all_nil, Bool.and_true, nr', us', ss', nr2, us2, ss2, nr3, us3, ss3, cr2, Bool.and_assoc, Option.map_some, List.all_append, cmps]

theorem c_rs2 (W : World) : Flat Try.prog E W Any 37 [.g 2] fun l => tupleV (resV E 1 l [.b] 0 0) := flat_val (cx1_ok W) k_rs2 v_rs2

def R_ri2 : AV := (.bool (.ite (.ite (.le (.lit (-1048576)) (.var 0)) (.le (.var 0) (.lit 1048576)) (.blit false)) (.ite (.le (.lit (-1048576)) (.var 1)) (.le (.var 1) (.lit 1048576)) (.blit false)) (.blit false)))
theorem k_ri2 : acall cx1 20 false 52 [] (argsG [.g 2] 0 0) (heapG [.g 2] 0) = .leaf (R_ri2, heapG [.g 2] 0) := by kernel_rfl
set_option maxHeartbeats 4000000 in
set_option maxRecDepth 20000 in
theorem v_ri2 : ∀ l : List Int, l.length = lenSh [.g 2] → Any l → valOf (E.at l) R_ri2 = some (tupleV (resV E 0 l [.b] 0 0)) := by
  intro l hl hG
  have h0 : l.length = 2 := hl
  clear hl
  obtain ⟨a0, l1, rfl, h1⟩ := cut1 h0
  clear h0
  obtain ⟨a1, l2, rfl, h2⟩ := cut1 h1
  clear h1
  obtain rfl := cut0 h2
  clear h2
  simp only [R_ri2, valOf, vals1, valInts, val1, tupleV, resV, valsI, den, bt1, bt2, bt3, bt4, Env.at, E, fb, fi, List.getD_cons_zero, List.getD_cons_succ, List.all_cons, List.all_nil, Bool.and_true, nr', us', ss', nr2, us2, ss2, nr3, us3, ss3, cr2, Bool.and_assoc, Option.map_some, List.all_append, cmps]

theorem c_ri2 (W : World) : Flat Try.prog E W Any 52 [.g 2] fun l => tupleV (resV E 0 l [.b] 0 0) := flat_val (cx1_ok W) k_ri2 v_ri2

noncomputable def cx2 : Cx := ⟨cx1.ty, cx1.fn, [flatCon 54 [.s 24 2 4] [.b] 0 noChk, flatCon 30 [.s 24 1 2] [.b] 1 noChk, flatCon 30 [.s 24 2 4] [.b] 1 noChk, flatCon 30 [.s 24 3 6] [.b] 1 noChk, flatCon 30 [.s 24 4 8] [.b] 1 noChk, flatCon 30 [.s 68 3 6] [.b] 1 noChk, flatCon 37 [.g 2] [.b] 1 noChk, flatCon 52 [.g 2] [.b] 0 noChk] ++ cx1.con, cx1.inl, cx1.eqs⟩
theorem cx2_ok (W : World) : ∀ l, Any l → CxOk Try.prog (E.at l) W cx2 :=
  cx_more (cx1_ok W) (List.forall_mem_cons.2 ⟨flat_con' (c_is2 W), List.forall_mem_cons.2 ⟨flat_con' (c_small2_1 W), List.forall_mem_cons.2 ⟨flat_con' (c_small2_2 W), List.forall_mem_cons.2 ⟨flat_con' (c_small2_3 W), List.forall_mem_cons.2 ⟨flat_con' (c_small2_4 W), List.forall_mem_cons.2 ⟨flat_con' (c_small2_p W), List.forall_mem_cons.2 ⟨flat_con' (c_rs2 W), List.forall_mem_cons.2 ⟨flat_con' (c_ri2 W), (fun _ h => by cases h)⟩⟩⟩⟩⟩⟩⟩⟩)
end Go.Proofs.Ytfkgjpdipdllhaa.Sx
