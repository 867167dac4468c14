/- Contracts, reckoned. -/
import Derived.Test.YtlfoglklibhbnaaGreatL1
import Derived.KernelRfl
set_option linter.unusedVariables false
set_option linter.unusedSimpArgs false
namespace Go.Proofs.YtlfoglklibhbnaaGreat.Sx
open Go.RowKit


def R_is2 : AV := (.bool (.ite (.app 0 0 (.cons (.var 0) (.cons (.var 1) .nil))) (.app 0 0 (.cons (.var 2) (.cons (.var 3) .nil))) (.blit false)))
theorem k_is2 : acall cx1 20 false 88 [] (argsG [.s 38 2 4] 0 0) (heapG [.s 38 2 4] 0) = .leaf (R_is2, heapG [.s 38 2 4] 0) := by kernel_rfl
set_option maxHeartbeats 4000000 in
set_option maxRecDepth 20000 in
theorem v_is2 : ∀ l : List Int, l.length = lenSh [.s 38 2 4] → Any l → valOf (E.at l) R_is2 = some (tupleV (resV E 0 l [.b] 0 0)) := by
  intro l hl hG
  have h0 : l.length = 4 := hl
  clear hl
  obtain ⟨a0, l1, rfl, h1⟩ := cut1 h0
  clear h0
  obtain ⟨a1, l2, rfl, h2⟩ := cut1 h1
  clear h1
  obtain ⟨a2, l3, rfl, h3⟩ := cut1 h2
  clear h2
  obtain ⟨a3, l4, rfl, h4⟩ := cut1 h3
  clear h3
  obtain rfl := cut0 h4
  clear h4
  simp only [R_is2, valOf, vals1, valInts, val1, tupleV, resV, valsI, den, bt1, bt2, bt3, bt4, Env.at, E, fb, fi, List.getD_cons_zero, List.getD_cons_succ, List.all_cons, List.all_nil, Bool.and_true, nr', us', ss', nr2, us2, ss2, nr3, us3, ss3, cr2, Bool.and_assoc, Option.map_some, List.all_append, cmps]

theorem c_is2 (W : World) : Flat Tryz.prog E W Any 88 [.s 38 2 4] fun l => tupleV (resV E 0 l [.b] 0 0) := flat_val (cx1_ok W) k_is2 v_is2

def R_is3 : AV := (.bool (.ite (.app 0 0 (.cons (.var 0) (.cons (.var 1) (.cons (.var 2) .nil)))) (.app 0 0 (.cons (.var 3) (.cons (.var 4) (.cons (.var 5) .nil)))) (.blit false)))
theorem k_is3 : acall cx1 20 false 106 [] (argsG [.s 63 2 6] 0 0) (heapG [.s 63 2 6] 0) = .leaf (R_is3, heapG [.s 63 2 6] 0) := by kernel_rfl
set_option maxHeartbeats 4000000 in
set_option maxRecDepth 20000 in
theorem v_is3 : ∀ l : List Int, l.length = lenSh [.s 63 2 6] → Any l → valOf (E.at l) R_is3 = some (tupleV (resV E 0 l [.b] 0 0)) := by
  intro l hl hG
  have h0 : l.length = 6 := hl
  clear hl
  obtain ⟨a0, l1, rfl, h1⟩ := cut1 h0
  clear h0
  obtain ⟨a1, l2, rfl, h2⟩ := cut1 h1
  clear h1
  obtain ⟨a2, l3, rfl, h3⟩ := cut1 h2
  clear h2
  obtain ⟨a3, l4, rfl, h4⟩ := cut1 h3
  clear h3
  obtain ⟨a4, l5, rfl, h5⟩ := cut1 h4
  clear h4
  obtain ⟨a5, l6, rfl, h6⟩ := cut1 h5
  clear h5
  obtain rfl := cut0 h6
  clear h6
  simp only [R_is3, valOf, vals1, valInts, val1, tupleV, resV, valsI, den, bt1, bt2, bt3, bt4, Env.at, E, fb, fi, List.getD_cons_zero, List.getD_cons_succ, List.all_cons, List.all_nil, Bool.and_true, nr', us', ss', nr2, us2, ss2, nr3, us3, ss3, cr2, Bool.and_assoc, Option.map_some, List.all_append, cmps]

theorem c_is3 (W : World) : Flat Tryz.prog E W Any 106 [.s 63 2 6] fun l => tupleV (resV E 0 l [.b] 0 0) := flat_val (cx1_ok W) k_is3 v_is3

def R_small2_1 : AV := (.bool (.ite (.ite (.lt (.var 0) (.lit (-4096))) (.blit true) (.lt (.lit 4096) (.var 0))) (.blit false) (.no (.ite (.lt (.var 1) (.lit (-4096))) (.blit true) (.lt (.lit 4096) (.var 1))))))
theorem k_small2_1 : acall cx1 20 false 54 [] (argsG [.s 38 1 2] 0 0) (heapG [.s 38 1 2] 0) = .leaf (R_small2_1, heapG [.s 38 1 2] 0) := by kernel_rfl
set_option maxHeartbeats 4000000 in
set_option maxRecDepth 20000 in
theorem v_small2_1 : ∀ l : List Int, l.length = lenSh [.s 38 1 2] → Any l → valOf (E.at l) R_small2_1 = some (tupleV (resV E 1 l [.b] 0 0)) := by
  intro l hl hG
  have h0 : l.length = 2 := hl
  clear hl
  obtain ⟨a0, l1, rfl, h1⟩ := cut1 h0
  clear h0
  obtain ⟨a1, l2, rfl, h2⟩ := cut1 h1
  clear h1
  obtain rfl := cut0 h2
  clear h2
  simp only [R_small2_1, valOf, vals1, valInts, val1, tupleV, resV, valsI, den, bt1, bt2, bt3, bt4, Env.at, E, fb, fi, List.getD_cons_zero, List.getD_cons_succ, List.all_cons, List.all_nil, Bool.and_true, nr', us', ss', nr2, us2, ss2, nr3, us3, ss3, cr2, Bool.and_assoc, Option.map_some, List.all_append, cmps]

theorem c_small2_1 (W : World) : Flat Tryz.prog E W Any 54 [.s 38 1 2] fun l => tupleV (resV E 1 l [.b] 0 0) := flat_val (cx1_ok W) k_small2_1 v_small2_1

def R_small2_2 : AV := (.bool (.ite (.ite (.ite (.lt (.var 0) (.lit (-4096))) (.blit true) (.lt (.lit 4096) (.var 0))) (.blit false) (.no (.ite (.lt (.var 1) (.lit (-4096))) (.blit true) (.lt (.lit 4096) (.var 1))))) (.ite (.ite (.lt (.var 2) (.lit (-4096))) (.blit true) (.lt (.lit 4096) (.var 2))) (.blit false) (.no (.ite (.lt (.var 3) (.lit (-4096))) (.blit true) (.lt (.lit 4096) (.var 3))))) (.blit false)))
theorem k_small2_2 : acall cx1 20 false 54 [] (argsG [.s 38 2 4] 0 0) (heapG [.s 38 2 4] 0) = .leaf (R_small2_2, heapG [.s 38 2 4] 0) := by kernel_rfl
set_option maxHeartbeats 4000000 in
set_option maxRecDepth 20000 in
theorem v_small2_2 : ∀ l : List Int, l.length = lenSh [.s 38 2 4] → Any l → valOf (E.at l) R_small2_2 = some (tupleV (resV E 1 l [.b] 0 0)) := by
  intro l hl hG
  have h0 : l.length = 4 := hl
  clear hl
  obtain ⟨a0, l1, rfl, h1⟩ := cut1 h0
  clear h0
  obtain ⟨a1, l2, rfl, h2⟩ := cut1 h1
  clear h1
  obtain ⟨a2, l3, rfl, h3⟩ := cut1 h2
  clear h2
  obtain ⟨a3, l4, rfl, h4⟩ := cut1 h3
  clear h3
  obtain rfl := cut0 h4
  clear h4
  simp only [R_small2_2, valOf, vals1, valInts, val1, tupleV, resV, valsI, den, bt1, bt2, bt3, bt4, Env.at, E, fb, fi, List.getD_cons_zero, List.getD_cons_succ, List.all_cons, List.all_nil, Bool.and_true, nr', us', ss', nr2, us2, ss2, nr3, us3, ss3, cr2, Bool.and_assoc, Option.map_some, List.all_append, cmps]

theorem c_small2_2 (W : World) : Flat Tryz.prog E W Any 54 [.s 38 2 4] fun l => tupleV (resV E 1 l [.b] 0 0) := flat_val (cx1_ok W) k_small2_2 v_small2_2

def R_small2_3 : AV := (.bool (.ite (.ite (.ite (.lt (.var 0) (.lit (-4096))) (.blit true) (.lt (.lit 4096) (.var 0))) (.blit false) (.no (.ite (.lt (.var 1) (.lit (-4096))) (.blit true) (.lt (.lit 4096) (.var 1))))) (.ite (.ite (.ite (.lt (.var 2) (.lit (-4096))) (.blit true) (.lt (.lit 4096) (.var 2))) (.blit false) (.no (.ite (.lt (.var 3) (.lit (-4096))) (.blit true) (.lt (.lit 4096) (.var 3))))) (.ite (.ite (.lt (.var 4) (.lit (-4096))) (.blit true) (.lt (.lit 4096) (.var 4))) (.blit false) (.no (.ite (.lt (.var 5) (.lit (-4096))) (.blit true) (.lt (.lit 4096) (.var 5))))) (.blit false)) (.blit false)))
theorem k_small2_3 : acall cx1 20 false 54 [] (argsG [.s 38 3 6] 0 0) (heapG [.s 38 3 6] 0) = .leaf (R_small2_3, heapG [.s 38 3 6] 0) := by kernel_rfl
set_option maxHeartbeats 4000000 in
set_option maxRecDepth 20000 in
theorem v_small2_3 : ∀ l : List Int, l.length = lenSh [.s 38 3 6] → Any l → valOf (E.at l) R_small2_3 = some (tupleV (resV E 1 l [.b] 0 0)) := by
  intro l hl hG
  have h0 : l.length = 6 := hl
  clear hl
  obtain ⟨a0, l1, rfl, h1⟩ := cut1 h0
  clear h0
  obtain ⟨a1, l2, rfl, h2⟩ := cut1 h1
  clear h1
  obtain ⟨a2, l3, rfl, h3⟩ := cut1 h2
  clear h2
  obtain ⟨a3, l4, rfl, h4⟩ := cut1 h3
  clear h3
  obtain ⟨a4, l5, rfl, h5⟩ := cut1 h4
  clear h4
  obtain ⟨a5, l6, rfl, h6⟩ := cut1 h5
  clear h5
  obtain rfl := cut0 h6
  clear h6
  simp only [R_small2_3, valOf, vals1, valInts, val1, tupleV, resV, valsI, den, bt1, bt2, bt3, bt4, Env.at, E, fb, fi, List.getD_cons_zero, List.getD_cons_succ, List.all_cons, List.all_nil, Bool.and_true, nr', us', ss', nr2, us2, ss2, nr3, us3, ss3, cr2, Bool.and_assoc, Option.map_some, List.all_append, cmps]

theorem c_small2_3 (W : World) : Flat Tryz.prog E W Any 54 [.s 38 3 6] fun l => tupleV (resV E 1 l [.b] 0 0) := flat_val (cx1_ok W) k_small2_3 v_small2_3

def R_small2_4 : AV := (.bool (.ite (.ite (.ite (.lt (.var 0) (.lit (-4096))) (.blit true) (.lt (.lit 4096) (.var 0))) (.blit false) (.no (.ite (.lt (.var 1) (.lit (-4096))) (.blit true) (.lt (.lit 4096) (.var 1))))) (.ite (.ite (.ite (.lt (.var 2) (.lit (-4096))) (.blit true) (.lt (.lit 4096) (.var 2))) (.blit false) (.no (.ite (.lt (.var 3) (.lit (-4096))) (.blit true) (.lt (.lit 4096) (.var 3))))) (.ite (.ite (.ite (.lt (.var 4) (.lit (-4096))) (.blit true) (.lt (.lit 4096) (.var 4))) (.blit false) (.no (.ite (.lt (.var 5) (.lit (-4096))) (.blit true) (.lt (.lit 4096) (.var 5))))) (.ite (.ite (.lt (.var 6) (.lit (-4096))) (.blit true) (.lt (.lit 4096) (.var 6))) (.blit false) (.no (.ite (.lt (.var 7) (.lit (-4096))) (.blit true) (.lt (.lit 4096) (.var 7))))) (.blit false)) (.blit false)) (.blit false)))
theorem k_small2_4 : acall cx1 20 false 54 [] (argsG [.s 38 4 8] 0 0) (heapG [.s 38 4 8] 0) = .leaf (R_small2_4, heapG [.s 38 4 8] 0) := by kernel_rfl
set_option maxHeartbeats 4000000 in
set_option maxRecDepth 20000 in
theorem v_small2_4 : ∀ l : List Int, l.length = lenSh [.s 38 4 8] → Any l → valOf (E.at l) R_small2_4 = some (tupleV (resV E 1 l [.b] 0 0)) := by
  intro l hl hG
  have h0 : l.length = 8 := hl
  clear hl
  obtain ⟨a0, l1, rfl, h1⟩ := cut1 h0
  clear h0
  obtain ⟨a1, l2, rfl, h2⟩ := cut1 h1
  clear h1
  obtain ⟨a2, l3, rfl, h3⟩ := cut1 h2
  clear h2
  obtain ⟨a3, l4, rfl, h4⟩ := cut1 h3
  clear h3
  obtain ⟨a4, l5, rfl, h5⟩ := cut1 h4
  clear h4
  obtain ⟨a5, l6, rfl, h6⟩ := cut1 h5
  clear h5
  obtain ⟨a6, l7, rfl, h7⟩ := cut1 h6
  clear h6
  obtain ⟨a7, l8, rfl, h8⟩ := cut1 h7
  clear h7
  obtain rfl := cut0 h8
  clear h8
  simp only [R_small2_4, valOf, vals1, valInts, val1, tupleV, resV, valsI, den, bt1, bt2, bt3, bt4, Env.at, E, fb, fi, List.getD_cons_zero, List.getD_cons_succ, List.all_cons, List.all_nil, Bool.and_true, nr', us', ss', nr2, us2, ss2, nr3, us3, ss3, cr2, Bool.and_assoc, Option.map_some, List.all_append, cmps]

theorem c_small2_4 (W : World) : Flat Tryz.prog E W Any 54 [.s 38 4 8] fun l => tupleV (resV E 1 l [.b] 0 0) := flat_val (cx1_ok W) k_small2_4 v_small2_4

def R_small2_p : AV := (.bool (.ite (.ite (.ite (.lt (.var 0) (.lit (-4096))) (.blit true) (.lt (.lit 4096) (.var 0))) (.blit false) (.no (.ite (.lt (.var 1) (.lit (-4096))) (.blit true) (.lt (.lit 4096) (.var 1))))) (.ite (.ite (.ite (.lt (.var 2) (.lit (-4096))) (.blit true) (.lt (.lit 4096) (.var 2))) (.blit false) (.no (.ite (.lt (.var 3) (.lit (-4096))) (.blit true) (.lt (.lit 4096) (.var 3))))) (.ite (.ite (.lt (.var 4) (.lit (-4096))) (.blit true) (.lt (.lit 4096) (.var 4))) (.blit false) (.no (.ite (.lt (.var 5) (.lit (-4096))) (.blit true) (.lt (.lit 4096) (.var 5))))) (.blit false)) (.blit false)))
theorem k_small2_p : acall cx1 20 false 54 [] (argsG [.s 86 3 6] 0 0) (heapG [.s 86 3 6] 0) = .leaf (R_small2_p, heapG [.s 86 3 6] 0) := by kernel_rfl
set_option maxHeartbeats 4000000 in
set_option maxRecDepth 20000 in
theorem v_small2_p : ∀ l : List Int, l.length = lenSh [.s 86 3 6] → Any l → valOf (E.at l) R_small2_p = some (tupleV (resV E 1 l [.b] 0 0)) := by
  intro l hl hG
  have h0 : l.length = 6 := hl
  clear hl
  obtain ⟨a0, l1, rfl, h1⟩ := cut1 h0
  clear h0
  obtain ⟨a1, l2, rfl, h2⟩ := cut1 h1
  clear h1
  obtain ⟨a2, l3, rfl, h3⟩ := cut1 h2
  clear h2
  obtain ⟨a3, l4, rfl, h4⟩ := cut1 h3
  clear h3
  obtain ⟨a4, l5, rfl, h5⟩ := cut1 h4
  clear h4
  obtain ⟨a5, l6, rfl, h6⟩ := cut1 h5
  clear h5
  obtain rfl := cut0 h6
  clear h6
  simp only [R_small2_p, valOf, vals1, valInts, val1, tupleV, resV, valsI, den, bt1, bt2, bt3, bt4, Env.at, E, fb, fi, List.getD_cons_zero, List.getD_cons_succ, List.all_cons, List.all_nil, Bool.and_true, nr', us', ss', nr2, us2, ss2, nr3, us3, ss3, cr2, Bool.and_assoc, Option.map_some, List.all_append, cmps]

theorem c_small2_p (W : World) : Flat Tryz.prog E W Any 54 [.s 86 3 6] fun l => tupleV (resV E 1 l [.b] 0 0) := flat_val (cx1_ok W) k_small2_p v_small2_p

def R_small3_1 : AV := (.bool (.ite (.ite (.lt (.var 0) (.lit (-16384))) (.blit true) (.lt (.lit 16384) (.var 0))) (.blit false) (.ite (.ite (.lt (.var 1) (.lit (-16384))) (.blit true) (.lt (.lit 16384) (.var 1))) (.blit false) (.no (.ite (.lt (.var 2) (.lit (-16384))) (.blit true) (.lt (.lit 16384) (.var 2)))))))
theorem k_small3_1 : acall cx1 20 false 131 [] (argsG [.s 63 1 3] 0 0) (heapG [.s 63 1 3] 0) = .leaf (R_small3_1, heapG [.s 63 1 3] 0) := by kernel_rfl
set_option maxHeartbeats 4000000 in
set_option maxRecDepth 20000 in
theorem v_small3_1 : ∀ l : List Int, l.length = lenSh [.s 63 1 3] → Any l → valOf (E.at l) R_small3_1 = some (tupleV (resV E 2 l [.b] 0 0)) := by
  intro l hl hG
  have h0 : l.length = 3 := hl
  clear hl
  obtain ⟨a0, l1, rfl, h1⟩ := cut1 h0
  clear h0
  obtain ⟨a1, l2, rfl, h2⟩ := cut1 h1
  clear h1
  obtain ⟨a2, l3, rfl, h3⟩ := cut1 h2
  clear h2
  obtain rfl := cut0 h3
  clear h3
  simp only [R_small3_1, valOf, vals1, valInts, val1, tupleV, resV, valsI, den, bt1, bt2, bt3, bt4, Env.at, E, fb, fi, List.getD_cons_zero, List.getD_cons_succ, List.all_cons, List.all_nil, Bool.and_true, nr', us', ss', nr2, us2, ss2, nr3, us3, ss3, cr2, Bool.and_assoc, Option.map_some, List.all_append, cmps]

theorem c_small3_1 (W : World) : Flat Tryz.prog E W Any 131 [.s 63 1 3] fun l => tupleV (resV E 2 l [.b] 0 0) := flat_val (cx1_ok W) k_small3_1 v_small3_1

def R_small3_2 : AV := (.bool (.ite (.ite (.ite (.lt (.var 0) (.lit (-16384))) (.blit true) (.lt (.lit 16384) (.var 0))) (.blit false) (.ite (.ite (.lt (.var 1) (.lit (-16384))) (.blit true) (.lt (.lit 16384) (.var 1))) (.blit false) (.no (.ite (.lt (.var 2) (.lit (-16384))) (.blit true) (.lt (.lit 16384) (.var 2)))))) (.ite (.ite (.lt (.var 3) (.lit (-16384))) (.blit true) (.lt (.lit 16384) (.var 3))) (.blit false) (.ite (.ite (.lt (.var 4) (.lit (-16384))) (.blit true) (.lt (.lit 16384) (.var 4))) (.blit false) (.no (.ite (.lt (.var 5) (.lit (-16384))) (.blit true) (.lt (.lit 16384) (.var 5)))))) (.blit false)))
theorem k_small3_2 : acall cx1 20 false 131 [] (argsG [.s 63 2 6] 0 0) (heapG [.s 63 2 6] 0) = .leaf (R_small3_2, heapG [.s 63 2 6] 0) := by kernel_rfl
set_option maxHeartbeats 4000000 in
set_option maxRecDepth 20000 in
theorem v_small3_2 : ∀ l : List Int, l.length = lenSh [.s 63 2 6] → Any l → valOf (E.at l) R_small3_2 = some (tupleV (resV E 2 l [.b] 0 0)) := by
  intro l hl hG
  have h0 : l.length = 6 := hl
  clear hl
  obtain ⟨a0, l1, rfl, h1⟩ := cut1 h0
  clear h0
  obtain ⟨a1, l2, rfl, h2⟩ := cut1 h1
  clear h1
  obtain ⟨a2, l3, rfl, h3⟩ := cut1 h2
  clear h2
  obtain ⟨a3, l4, rfl, h4⟩ := cut1 h3
  clear h3
  obtain ⟨a4, l5, rfl, h5⟩ := cut1 h4
  clear h4
  obtain ⟨a5, l6, rfl, h6⟩ := cut1 h5
  clear h5
  obtain rfl := cut0 h6
  clear h6
  simp only [R_small3_2, valOf, vals1, valInts, val1, tupleV, resV, valsI, den, bt1, bt2, bt3, bt4, Env.at, E, fb, fi, List.getD_cons_zero, List.getD_cons_succ, List.all_cons, List.all_nil, Bool.and_true, nr', us', ss', nr2, us2, ss2, nr3, us3, ss3, cr2, Bool.and_assoc, Option.map_some, List.all_append, cmps]

theorem c_small3_2 (W : World) : Flat Tryz.prog E W Any 131 [.s 63 2 6] fun l => tupleV (resV E 2 l [.b] 0 0) := flat_val (cx1_ok W) k_small3_2 v_small3_2

def R_small3_3 : AV := (.bool (.ite (.ite (.ite (.lt (.var 0) (.lit (-16384))) (.blit true) (.lt (.lit 16384) (.var 0))) (.blit false) (.ite (.ite (.lt (.var 1) (.lit (-16384))) (.blit true) (.lt (.lit 16384) (.var 1))) (.blit false) (.no (.ite (.lt (.var 2) (.lit (-16384))) (.blit true) (.lt (.lit 16384) (.var 2)))))) (.ite (.ite (.ite (.lt (.var 3) (.lit (-16384))) (.blit true) (.lt (.lit 16384) (.var 3))) (.blit false) (.ite (.ite (.lt (.var 4) (.lit (-16384))) (.blit true) (.lt (.lit 16384) (.var 4))) (.blit false) (.no (.ite (.lt (.var 5) (.lit (-16384))) (.blit true) (.lt (.lit 16384) (.var 5)))))) (.ite (.ite (.lt (.var 6) (.lit (-16384))) (.blit true) (.lt (.lit 16384) (.var 6))) (.blit false) (.ite (.ite (.lt (.var 7) (.lit (-16384))) (.blit true) (.lt (.lit 16384) (.var 7))) (.blit false) (.no (.ite (.lt (.var 8) (.lit (-16384))) (.blit true) (.lt (.lit 16384) (.var 8)))))) (.blit false)) (.blit false)))
theorem k_small3_3 : acall cx1 20 false 131 [] (argsG [.s 63 3 9] 0 0) (heapG [.s 63 3 9] 0) = .leaf (R_small3_3, heapG [.s 63 3 9] 0) := by kernel_rfl
set_option maxHeartbeats 4000000 in
set_option maxRecDepth 20000 in
theorem v_small3_3 : ∀ l : List Int, l.length = lenSh [.s 63 3 9] → Any l → valOf (E.at l) R_small3_3 = some (tupleV (resV E 2 l [.b] 0 0)) := by
  intro l hl hG
  have h0 : l.length = 9 := hl
  clear hl
  obtain ⟨a0, l1, rfl, h1⟩ := cut1 h0
  clear h0
  obtain ⟨a1, l2, rfl, h2⟩ := cut1 h1
  clear h1
  obtain ⟨a2, l3, rfl, h3⟩ := cut1 h2
  clear h2
  obtain ⟨a3, l4, rfl, h4⟩ := cut1 h3
  clear h3
  obtain ⟨a4, l5, rfl, h5⟩ := cut1 h4
  clear h4
  obtain ⟨a5, l6, rfl, h6⟩ := cut1 h5
  clear h5
  obtain ⟨a6, l7, rfl, h7⟩ := cut1 h6
  clear h6
  obtain ⟨a7, l8, rfl, h8⟩ := cut1 h7
  clear h7
  obtain ⟨a8, l9, rfl, h9⟩ := cut1 h8
  clear h8
  obtain rfl := cut0 h9
  clear h9
  simp only [R_small3_3, valOf, vals1, valInts, val1, tupleV, resV, valsI, den, bt1, bt2, bt3, bt4, Env.at, E, fb, fi, List.getD_cons_zero, List.getD_cons_succ, List.all_cons, List.all_nil, Bool.and_true, nr', us', ss', nr2, us2, ss2, nr3, us3, ss3, cr2, Bool.and_assoc, Option.map_some, List.all_append, cmps]

theorem c_small3_3 (W : World) : Flat Tryz.prog E W Any 131 [.s 63 3 9] fun l => tupleV (resV E 2 l [.b] 0 0) := flat_val (cx1_ok W) k_small3_3 v_small3_3

def R_small3_4 : AV := (.bool (.ite (.ite (.ite (.lt (.var 0) (.lit (-16384))) (.blit true) (.lt (.lit 16384) (.var 0))) (.blit false) (.ite (.ite (.lt (.var 1) (.lit (-16384))) (.blit true) (.lt (.lit 16384) (.var 1))) (.blit false) (.no (.ite (.lt (.var 2) (.lit (-16384))) (.blit true) (.lt (.lit 16384) (.var 2)))))) (.ite (.ite (.ite (.lt (.var 3) (.lit (-16384))) (.blit true) (.lt (.lit 16384) (.var 3))) (.blit false) (.ite (.ite (.lt (.var 4) (.lit (-16384))) (.blit true) (.lt (.lit 16384) (.var 4))) (.blit false) (.no (.ite (.lt (.var 5) (.lit (-16384))) (.blit true) (.lt (.lit 16384) (.var 5)))))) (.ite (.ite (.ite (.lt (.var 6) (.lit (-16384))) (.blit true) (.lt (.lit 16384) (.var 6))) (.blit false) (.ite (.ite (.lt (.var 7) (.lit (-16384))) (.blit true) (.lt (.lit 16384) (.var 7))) (.blit false) (.no (.ite (.lt (.var 8) (.lit (-16384))) (.blit true) (.lt (.lit 16384) (.var 8)))))) (.ite (.ite (.lt (.var 9) (.lit (-16384))) (.blit true) (.lt (.lit 16384) (.var 9))) (.blit false) (.ite (.ite (.lt (.var 10) (.lit (-16384))) (.blit true) (.lt (.lit 16384) (.var 10))) (.blit false) (.no (.ite (.lt (.var 11) (.lit (-16384))) (.blit true) (.lt (.lit 16384) (.var 11)))))) (.blit false)) (.blit false)) (.blit false)))
theorem k_small3_4 : acall cx1 20 false 131 [] (argsG [.s 63 4 12] 0 0) (heapG [.s 63 4 12] 0) = .leaf (R_small3_4, heapG [.s 63 4 12] 0) := by kernel_rfl
set_option maxHeartbeats 4000000 in
set_option maxRecDepth 20000 in
theorem v_small3_4 : ∀ l : List Int, l.length = lenSh [.s 63 4 12] → Any l → valOf (E.at l) R_small3_4 = some (tupleV (resV E 2 l [.b] 0 0)) := by
  intro l hl hG
  have h0 : l.length = 12 := hl
  clear hl
  obtain ⟨a0, l1, rfl, h1⟩ := cut1 h0
  clear h0
  obtain ⟨a1, l2, rfl, h2⟩ := cut1 h1
  clear h1
  obtain ⟨a2, l3, rfl, h3⟩ := cut1 h2
  clear h2
  obtain ⟨a3, l4, rfl, h4⟩ := cut1 h3
  clear h3
  obtain ⟨a4, l5, rfl, h5⟩ := cut1 h4
  clear h4
  obtain ⟨a5, l6, rfl, h6⟩ := cut1 h5
  clear h5
  obtain ⟨a6, l7, rfl, h7⟩ := cut1 h6
  clear h6
  obtain ⟨a7, l8, rfl, h8⟩ := cut1 h7
  clear h7
  obtain ⟨a8, l9, rfl, h9⟩ := cut1 h8
  clear h8
  obtain ⟨a9, l10, rfl, h10⟩ := cut1 h9
  clear h9
  obtain ⟨a10, l11, rfl, h11⟩ := cut1 h10
  clear h10
  obtain ⟨a11, l12, rfl, h12⟩ := cut1 h11
  clear h11
  obtain rfl := cut0 h12
  clear h12
  simp only [R_small3_4, valOf, vals1, valInts, val1, tupleV, resV, valsI, den, bt1, bt2, bt3, bt4, Env.at, E, fb, fi, List.getD_cons_zero, List.getD_cons_succ, List.all_cons, List.all_nil, Bool.and_true, nr', us', ss', nr2, us2, ss2, nr3, us3, ss3, cr2, Bool.and_assoc, Option.map_some, List.all_append, cmps]

theorem c_small3_4 (W : World) : Flat Tryz.prog E W Any 131 [.s 63 4 12] fun l => tupleV (resV E 2 l [.b] 0 0) := flat_val (cx1_ok W) k_small3_4 v_small3_4

def R_small3_5 : AV := (.bool (.ite (.ite (.ite (.lt (.var 0) (.lit (-16384))) (.blit true) (.lt (.lit 16384) (.var 0))) (.blit false) (.ite (.ite (.lt (.var 1) (.lit (-16384))) (.blit true) (.lt (.lit 16384) (.var 1))) (.blit false) (.no (.ite (.lt (.var 2) (.lit (-16384))) (.blit true) (.lt (.lit 16384) (.var 2)))))) (.ite (.ite (.ite (.lt (.var 3) (.lit (-16384))) (.blit true) (.lt (.lit 16384) (.var 3))) (.blit false) (.ite (.ite (.lt (.var 4) (.lit (-16384))) (.blit true) (.lt (.lit 16384) (.var 4))) (.blit false) (.no (.ite (.lt (.var 5) (.lit (-16384))) (.blit true) (.lt (.lit 16384) (.var 5)))))) (.ite (.ite (.ite (.lt (.var 6) (.lit (-16384))) (.blit true) (.lt (.lit 16384) (.var 6))) (.blit false) (.ite (.ite (.lt (.var 7) (.lit (-16384))) (.blit true) (.lt (.lit 16384) (.var 7))) (.blit false) (.no (.ite (.lt (.var 8) (.lit (-16384))) (.blit true) (.lt (.lit 16384) (.var 8)))))) (.ite (.ite (.ite (.lt (.var 9) (.lit (-16384))) (.blit true) (.lt (.lit 16384) (.var 9))) (.blit false) (.ite (.ite (.lt (.var 10) (.lit (-16384))) (.blit true) (.lt (.lit 16384) (.var 10))) (.blit false) (.no (.ite (.lt (.var 11) (.lit (-16384))) (.blit true) (.lt (.lit 16384) (.var 11)))))) (.ite (.ite (.lt (.var 12) (.lit (-16384))) (.blit true) (.lt (.lit 16384) (.var 12))) (.blit false) (.ite (.ite (.lt (.var 13) (.lit (-16384))) (.blit true) (.lt (.lit 16384) (.var 13))) (.blit false) (.no (.ite (.lt (.var 14) (.lit (-16384))) (.blit true) (.lt (.lit 16384) (.var 14)))))) (.blit false)) (.blit false)) (.blit false)) (.blit false)))
theorem k_small3_5 : acall cx1 20 false 131 [] (argsG [.s 63 5 15] 0 0) (heapG [.s 63 5 15] 0) = .leaf (R_small3_5, heapG [.s 63 5 15] 0) := by kernel_rfl
set_option maxHeartbeats 4000000 in
set_option maxRecDepth 20000 in
theorem v_small3_5 : ∀ l : List Int, l.length = lenSh [.s 63 5 15] → Any l → valOf (E.at l) R_small3_5 = some (tupleV (resV E 2 l [.b] 0 0)) := by
  intro l hl hG
  have h0 : l.length = 15 := hl
  clear hl
  obtain ⟨a0, l1, rfl, h1⟩ := cut1 h0
  clear h0
  obtain ⟨a1, l2, rfl, h2⟩ := cut1 h1
  clear h1
  obtain ⟨a2, l3, rfl, h3⟩ := cut1 h2
  clear h2
  obtain ⟨a3, l4, rfl, h4⟩ := cut1 h3
  clear h3
  obtain ⟨a4, l5, rfl, h5⟩ := cut1 h4
  clear h4
  obtain ⟨a5, l6, rfl, h6⟩ := cut1 h5
  clear h5
  obtain ⟨a6, l7, rfl, h7⟩ := cut1 h6
  clear h6
  obtain ⟨a7, l8, rfl, h8⟩ := cut1 h7
  clear h7
  obtain ⟨a8, l9, rfl, h9⟩ := cut1 h8
  clear h8
  obtain ⟨a9, l10, rfl, h10⟩ := cut1 h9
  clear h9
  obtain ⟨a10, l11, rfl, h11⟩ := cut1 h10
  clear h10
  obtain ⟨a11, l12, rfl, h12⟩ := cut1 h11
  clear h11
  obtain ⟨a12, l13, rfl, h13⟩ := cut1 h12
  clear h12
  obtain ⟨a13, l14, rfl, h14⟩ := cut1 h13
  clear h13
  obtain ⟨a14, l15, rfl, h15⟩ := cut1 h14
  clear h14
  obtain rfl := cut0 h15
  clear h15
  simp only [R_small3_5, valOf, vals1, valInts, val1, tupleV, resV, valsI, den, bt1, bt2, bt3, bt4, Env.at, E, fb, fi, List.getD_cons_zero, List.getD_cons_succ, List.all_cons, List.all_nil, Bool.and_true, nr', us', ss', nr2, us2, ss2, nr3, us3, ss3, cr2, Bool.and_assoc, Option.map_some, List.all_append, cmps]

theorem c_small3_5 (W : World) : Flat Tryz.prog E W Any 131 [.s 63 5 15] fun l => tupleV (resV E 2 l [.b] 0 0) := flat_val (cx1_ok W) k_small3_5 v_small3_5

def R_small3_p : AV := (.bool (.ite (.ite (.ite (.lt (.var 0) (.lit (-16384))) (.blit true) (.lt (.lit 16384) (.var 0))) (.blit false) (.ite (.ite (.lt (.var 1) (.lit (-16384))) (.blit true) (.lt (.lit 16384) (.var 1))) (.blit false) (.no (.ite (.lt (.var 2) (.lit (-16384))) (.blit true) (.lt (.lit 16384) (.var 2)))))) (.ite (.ite (.ite (.lt (.var 3) (.lit (-16384))) (.blit true) (.lt (.lit 16384) (.var 3))) (.blit false) (.ite (.ite (.lt (.var 4) (.lit (-16384))) (.blit true) (.lt (.lit 16384) (.var 4))) (.blit false) (.no (.ite (.lt (.var 5) (.lit (-16384))) (.blit true) (.lt (.lit 16384) (.var 5)))))) (.ite (.ite (.lt (.var 6) (.lit (-16384))) (.blit true) (.lt (.lit 16384) (.var 6))) (.blit false) (.ite (.ite (.lt (.var 7) (.lit (-16384))) (.blit true) (.lt (.lit 16384) (.var 7))) (.blit false) (.no (.ite (.lt (.var 8) (.lit (-16384))) (.blit true) (.lt (.lit 16384) (.var 8)))))) (.blit false)) (.blit false)))
theorem k_small3_p : acall cx1 20 false 131 [] (argsG [.s 187 3 9] 0 0) (heapG [.s 187 3 9] 0) = .leaf (R_small3_p, heapG [.s 187 3 9] 0) := by kernel_rfl
set_option maxHeartbeats 4000000 in
set_option maxRecDepth 20000 in
theorem v_small3_p : ∀ l : List Int, l.length = lenSh [.s 187 3 9] → Any l → valOf (E.at l) R_small3_p = some (tupleV (resV E 2 l [.b] 0 0)) := by
  intro l hl hG
  have h0 : l.length = 9 := hl
  clear hl
  obtain ⟨a0, l1, rfl, h1⟩ := cut1 h0
  clear h0
  obtain ⟨a1, l2, rfl, h2⟩ := cut1 h1
  clear h1
  obtain ⟨a2, l3, rfl, h3⟩ := cut1 h2
  clear h2
  obtain ⟨a3, l4, rfl, h4⟩ := cut1 h3
  clear h3
  obtain ⟨a4, l5, rfl, h5⟩ := cut1 h4
  clear h4
  obtain ⟨a5, l6, rfl, h6⟩ := cut1 h5
  clear h5
  obtain ⟨a6, l7, rfl, h7⟩ := cut1 h6
  clear h6
  obtain ⟨a7, l8, rfl, h8⟩ := cut1 h7
  clear h7
  obtain ⟨a8, l9, rfl, h9⟩ := cut1 h8
  clear h8
  obtain rfl := cut0 h9
  clear h9
  simp only [R_small3_p, valOf, vals1, valInts, val1, tupleV, resV, valsI, den, bt1, bt2, bt3, bt4, Env.at, E, fb, fi, List.getD_cons_zero, List.getD_cons_succ, List.all_cons, List.all_nil, Bool.and_true, nr', us', ss', nr2, us2, ss2, nr3, us3, ss3, cr2, Bool.and_assoc, Option.map_some, List.all_append, cmps]

theorem c_small3_p (W : World) : Flat Tryz.prog E W Any 131 [.s 187 3 9] fun l => tupleV (resV E 2 l [.b] 0 0) := flat_val (cx1_ok W) k_small3_p v_small3_p

noncomputable def cx2 : Cx := ⟨cx1.ty, cx1.fn, [flatCon 88 [.s 38 2 4] [.b] 0 noChk, flatCon 106 [.s 63 2 6] [.b] 0 noChk, flatCon 54 [.s 38 1 2] [.b] 1 noChk, flatCon 54 [.s 38 2 4] [.b] 1 noChk, flatCon 54 [.s 38 3 6] [.b] 1 noChk, flatCon 54 [.s 38 4 8] [.b] 1 noChk, flatCon 54 [.s 86 3 6] [.b] 1 noChk, flatCon 131 [.s 63 1 3] [.b] 2 noChk, flatCon 131 [.s 63 2 6] [.b] 2 noChk, flatCon 131 [.s 63 3 9] [.b] 2 noChk, flatCon 131 [.s 63 4 12] [.b] 2 noChk, flatCon 131 [.s 63 5 15] [.b] 2 noChk, flatCon 131 [.s 187 3 9] [.b] 2 noChk] ++ cx1.con, cx1.inl, cx1.eqs⟩
theorem cx2_ok (W : World) : ∀ l, Any l → CxOk Tryz.prog (E.at l) W cx2 :=
  cx_more (cx1_ok W) (List.forall_mem_cons.2 ⟨flat_con' (c_is2 W), List.forall_mem_cons.2 ⟨flat_con' (c_is3 W), List.forall_mem_cons.2 ⟨flat_con' (c_small2_1 W), List.forall_mem_cons.2 ⟨flat_con' (c_small2_2 W), List.forall_mem_cons.2 ⟨flat_con' (c_small2_3 W), List.forall_mem_cons.2 ⟨flat_con' (c_small2_4 W), List.forall_mem_cons.2 ⟨flat_con' (c_small2_p W), List.forall_mem_cons.2 ⟨flat_con' (c_small3_1 W), List.forall_mem_cons.2 ⟨flat_con' (c_small3_2 W), List.forall_mem_cons.2 ⟨flat_con' (c_small3_3 W), List.forall_mem_cons.2 ⟨flat_con' (c_small3_4 W), List.forall_mem_cons.2 ⟨flat_con' (c_small3_5 W), List.forall_mem_cons.2 ⟨flat_con' (c_small3_p W), (fun _ h => by cases h)⟩⟩⟩⟩⟩⟩⟩⟩⟩⟩⟩⟩⟩)
end Go.Proofs.YtlfoglklibhbnaaGreat.Sx
