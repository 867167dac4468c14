/- Contracts, reckoned. -/
import Derived.Test.YtfkgjpdipdllhaaL2
import Derived.KernelRfl
set_option linter.unusedVariables false
set_option linter.unusedSimpArgs false
namespace Go.Proofs.Ytfkgjpdipdllhaa.Sx
open Go.RowKit

theorem low_e (n : Int) : (if 0 < n then IntKind.i64.wrap (0 - n) else n) = low n := rfl

def R_sub2 : AV := (.agg [(.int (.ite (.app 0 0 (.cons (.var 0) (.cons (.var 1) (.cons (.var 2) (.cons (.var 3) .nil))))) (.sub (.var 0) (.var 2)) (.lit 0))), (.int (.ite (.app 0 0 (.cons (.var 0) (.cons (.var 1) (.cons (.var 2) (.cons (.var 3) .nil))))) (.sub (.var 1) (.var 3)) (.lit 0)))])
theorem k_sub2 : acall cx2 20 false 50 [] (argsG [.g 2, .g 2] 0 0) (heapG [.g 2, .g 2] 0) = .leaf (R_sub2, heapG [.g 2, .g 2] 0) := by kernel_rfl
set_option maxHeartbeats 4000000 in
set_option maxRecDepth 20000 in
theorem v_sub2 : ∀ l : List Int, l.length = lenSh [.g 2, .g 2] → Any l → valOf (E.at l) R_sub2 = some (tupleV (resV E 3 l [.g 2] 0 0)) := by
  intro l hl hG
  have h0 : l.length = 4 := hl
  clear hl
  obtain ⟨a0, l1, rfl, h1⟩ := cut1 h0
  clear h0
  obtain ⟨a1, l2, rfl, h2⟩ := cut1 h1
  clear h1
  obtain ⟨a2, l3, rfl, h3⟩ := cut1 h2
  clear h2
  obtain ⟨a3, l4, rfl, h4⟩ := cut1 h3
  clear h3
  obtain rfl := cut0 h4
  clear h4
  simp only [R_sub2, valOf, vals1, valInts, val1, tupleV, resV, valsI, den, bt1, bt2, bt3, bt4, Env.at, E, fb, fi, List.getD_cons_zero, List.getD_cons_succ, List.all_cons, List.all_nil, Bool.and_true, nr', us', ss', nr2, us2, ss2, nr3, us3, ss3, cr2, Bool.and_assoc, Option.map_some, List.all_append, cmps]
  cases h0 : nr a0
  · simp
  cases h1 : nr a1
  · simp
  cases h2 : nr a2
  · simp
  cases h3 : nr a3
  · simp
  have c0 := nr_b h0
  have c1 := nr_b h1
  have c2 := nr_b h2
  have c3 := nr_b h3
  simp (disch := omega) [wr]

theorem c_sub2 (W : World) : Flat Try.prog E W Any 50 [.g 2, .g 2] fun l => tupleV (resV E 3 l [.g 2] 0 0) := flat_val (cx2_ok W) k_sub2 v_sub2

def R_cross2 : AV := (.tuple [(.int (.ite (.app 0 0 (.cons (.var 0) (.cons (.var 1) (.cons (.var 2) (.cons (.var 3) .nil))))) (.sub (.mul (.var 0) (.var 3)) (.mul (.var 1) (.var 2))) (.lit 0))), (.int (.ite (.app 0 0 (.cons (.var 0) (.cons (.var 1) (.cons (.var 2) (.cons (.var 3) .nil))))) (.lit 0) (.lit 5)))])
theorem k_cross2 : acall cx2 20 false 49 [] (argsG [.g 2, .g 2] 0 0) (heapG [.g 2, .g 2] 0) = .leaf (R_cross2, heapG [.g 2, .g 2] 0) := by kernel_rfl
set_option maxHeartbeats 4000000 in
set_option maxRecDepth 20000 in
theorem v_cross2 : ∀ l : List Int, l.length = lenSh [.g 2, .g 2] → Any l → valOf (E.at l) R_cross2 = some (tupleV (resV E 5 l [.i, .i] 0 0)) := by
  intro l hl hG
  have h0 : l.length = 4 := hl
  clear hl
  obtain ⟨a0, l1, rfl, h1⟩ := cut1 h0
  clear h0
  obtain ⟨a1, l2, rfl, h2⟩ := cut1 h1
  clear h1
  obtain ⟨a2, l3, rfl, h3⟩ := cut1 h2
  clear h2
  obtain ⟨a3, l4, rfl, h4⟩ := cut1 h3
  clear h3
  obtain rfl := cut0 h4
  clear h4
  simp only [R_cross2, valOf, vals1, valInts, val1, tupleV, resV, valsI, den, bt1, bt2, bt3, bt4, Env.at, E, fb, fi, List.getD_cons_zero, List.getD_cons_succ, List.all_cons, List.all_nil, Bool.and_true, nr', us', ss', nr2, us2, ss2, nr3, us3, ss3, cr2, Bool.and_assoc, Option.map_some, List.all_append, cmps]
  cases h0 : nr a0
  · simp
  cases h1 : nr a1
  · simp
  cases h2 : nr a2
  · simp
  cases h3 : nr a3
  · simp
  have c0 := nr_b h0
  have c1 := nr_b h1
  have c2 := nr_b h2
  have c3 := nr_b h3
  have m03 := nr_m h0 h3
  have m12 := nr_m h1 h2
  simp (disch := omega) [wr]

theorem c_cross2 (W : World) : Flat Try.prog E W Any 49 [.g 2, .g 2] fun l => tupleV (resV E 5 l [.i, .i] 0 0) := flat_val (cx2_ok W) k_cross2 v_cross2

def R_rsub2 : AV := (.agg [(.int (.ite (.ite (.app 0 0 (.cons (.var 0) (.cons (.var 1) .nil))) (.no (.app 0 0 (.cons (.var 2) (.cons (.var 3) .nil)))) (.blit true)) (.lit 0) (.sub (.var 0) (.var 2)))), (.int (.ite (.ite (.app 0 0 (.cons (.var 0) (.cons (.var 1) .nil))) (.no (.app 0 0 (.cons (.var 2) (.cons (.var 3) .nil)))) (.blit true)) (.lit 0) (.sub (.var 1) (.var 3))))])
theorem k_rsub2 : acall cx2 20 false 47 [] (argsG [.g 2, .g 2] 0 0) (heapG [.g 2, .g 2] 0) = .leaf (R_rsub2, heapG [.g 2, .g 2] 0) := by kernel_rfl
set_option maxHeartbeats 4000000 in
set_option maxRecDepth 20000 in
theorem v_rsub2 : ∀ l : List Int, l.length = lenSh [.g 2, .g 2] → Any l → valOf (E.at l) R_rsub2 = some (tupleV (resV E 3 l [.g 2] 0 0)) := by
  intro l hl hG
  have h0 : l.length = 4 := hl
  clear hl
  obtain ⟨a0, l1, rfl, h1⟩ := cut1 h0
  clear h0
  obtain ⟨a1, l2, rfl, h2⟩ := cut1 h1
  clear h1
  obtain ⟨a2, l3, rfl, h3⟩ := cut1 h2
  clear h2
  obtain ⟨a3, l4, rfl, h4⟩ := cut1 h3
  clear h3
  obtain rfl := cut0 h4
  clear h4
  simp only [R_rsub2, valOf, vals1, valInts, val1, tupleV, resV, valsI, den, bt1, bt2, bt3, bt4, Env.at, E, fb, fi, List.getD_cons_zero, List.getD_cons_succ, List.all_cons, List.all_nil, Bool.and_true, nr', us', ss', nr2, us2, ss2, nr3, us3, ss3, cr2, Bool.and_assoc, Option.map_some, List.all_append, cmps]
  cases h0 : nr a0
  · simp
  cases h1 : nr a1
  · simp
  cases h2 : nr a2
  · simp
  cases h3 : nr a3
  · simp
  have c0 := nr_b h0
  have c1 := nr_b h1
  have c2 := nr_b h2
  have c3 := nr_b h3
  simp (disch := omega) [wr]

theorem c_rsub2 (W : World) : Flat Try.prog E W Any 47 [.g 2, .g 2] fun l => tupleV (resV E 3 l [.g 2] 0 0) := flat_val (cx2_ok W) k_rsub2 v_rsub2

def R_rcross2 : AV := (.tuple [(.int (.ite (.ite (.app 0 0 (.cons (.var 0) (.cons (.var 1) .nil))) (.no (.app 0 0 (.cons (.var 2) (.cons (.var 3) .nil)))) (.blit true)) (.lit 0) (.sub (.mul (.var 0) (.var 3)) (.mul (.var 1) (.var 2))))), (.int (.ite (.ite (.app 0 0 (.cons (.var 0) (.cons (.var 1) .nil))) (.no (.app 0 0 (.cons (.var 2) (.cons (.var 3) .nil)))) (.blit true)) (.lit 5) (.lit 0)))])
theorem k_rcross2 : acall cx2 20 false 46 [] (argsG [.g 2, .g 2] 0 0) (heapG [.g 2, .g 2] 0) = .leaf (R_rcross2, heapG [.g 2, .g 2] 0) := by kernel_rfl
set_option maxHeartbeats 4000000 in
set_option maxRecDepth 20000 in
theorem v_rcross2 : ∀ l : List Int, l.length = lenSh [.g 2, .g 2] → Any l → valOf (E.at l) R_rcross2 = some (tupleV (resV E 5 l [.i, .i] 0 0)) := by
  intro l hl hG
  have h0 : l.length = 4 := hl
  clear hl
  obtain ⟨a0, l1, rfl, h1⟩ := cut1 h0
  clear h0
  obtain ⟨a1, l2, rfl, h2⟩ := cut1 h1
  clear h1
  obtain ⟨a2, l3, rfl, h3⟩ := cut1 h2
  clear h2
  obtain ⟨a3, l4, rfl, h4⟩ := cut1 h3
  clear h3
  obtain rfl := cut0 h4
  clear h4
  simp only [R_rcross2, valOf, vals1, valInts, val1, tupleV, resV, valsI, den, bt1, bt2, bt3, bt4, Env.at, E, fb, fi, List.getD_cons_zero, List.getD_cons_succ, List.all_cons, List.all_nil, Bool.and_true, nr', us', ss', nr2, us2, ss2, nr3, us3, ss3, cr2, Bool.and_assoc, Option.map_some, List.all_append, cmps]
  cases h0 : nr a0
  · simp
  cases h1 : nr a1
  · simp
  cases h2 : nr a2
  · simp
  cases h3 : nr a3
  · simp
  have c0 := nr_b h0
  have c1 := nr_b h1
  have c2 := nr_b h2
  have c3 := nr_b h3
  have m03 := nr_m h0 h3
  have m12 := nr_m h1 h2
  simp (disch := omega) [wr]

theorem c_rcross2 (W : World) : Flat Try.prog E W Any 46 [.g 2, .g 2] fun l => tupleV (resV E 5 l [.i, .i] 0 0) := flat_val (cx2_ok W) k_rcross2 v_rcross2

noncomputable def cx3 : Cx := ⟨cx2.ty, cx2.fn, [flatCon 50 [.g 2, .g 2] [.g 2] 3 noChk, flatCon 49 [.g 2, .g 2] [.i, .i] 5 noChk, flatCon 47 [.g 2, .g 2] [.g 2] 3 noChk, flatCon 46 [.g 2, .g 2] [.i, .i] 5 noChk] ++ cx2.con, cx2.inl, cx2.eqs⟩
theorem cx3_ok (W : World) : ∀ l, Any l → CxOk Try.prog (E.at l) W cx3 :=
  cx_more (cx2_ok W) (List.forall_mem_cons.2 ⟨flat_con' (c_sub2 W), List.forall_mem_cons.2 ⟨flat_con' (c_cross2 W), List.forall_mem_cons.2 ⟨flat_con' (c_rsub2 W), List.forall_mem_cons.2 ⟨flat_con' (c_rcross2 W), (fun _ h => by cases h)⟩⟩⟩⟩)
end Go.Proofs.Ytfkgjpdipdllhaa.Sx
