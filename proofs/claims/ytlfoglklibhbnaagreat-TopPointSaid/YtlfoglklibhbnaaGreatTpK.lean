/- Parts of the proof of TopPoint. No condition of their own. -/
import Derived.Test.YtlfoglklibhbnaaGreatTpI
import Derived.Test.YtlfoglklibhbnaaGreatTpJ
import Derived.KernelRfl
set_option linter.unusedVariables false
set_option linter.unusedSimpArgs false
namespace Go.Proofs.YtlfoglklibhbnaaGreat.Sx
open Go.RowKit
noncomputable def cx0 : Cx := ⟨tys, fns, [], [], [(63, 3), (38, 2)]⟩
theorem eqV3 : EqOk Tryz.prog 63 3 := eqOk_struct Tryz.underlying63 (by kernel_rfl) (by kernel_rfl) ⟨by decide, Tryz.underlying3, rfl, by decide, Tryz.underlying3, rfl, by decide, Tryz.underlying3, rfl, trivial⟩
theorem eqV2 : EqOk Tryz.prog 38 2 := eqOk_struct Tryz.underlying38 (by kernel_rfl) (by kernel_rfl) ⟨by decide, Tryz.underlying3, rfl, by decide, Tryz.underlying3, rfl, trivial⟩
theorem cx0_ok (W : World) (l : List Int) (_ : Any l) : CxOk Tryz.prog (E.at l) W cx0 :=
 ⟨tys_ok, fns_ok, (fun _ h => by cases h), List.forall_mem_cons.2 ⟨eqV3, List.forall_mem_cons.2 ⟨eqV2, (fun _ h => by cases h)⟩⟩, by kernel_rfl⟩
end Go.Proofs.YtlfoglklibhbnaaGreat.Sx
namespace Go.Proofs.YtlfoglklibhbnaaGreat.Sx
open Go.RowKit
theorem nr' (x : Int) : (!(decide (x < -1048576) || decide (1048576 < x))) = nr x := by unfold nr; rw [Bool.eq_iff_iff]; simp
theorem us' (x : Int) : (!(decide (x < -4096) || decide (4096 < x))) = us x := by unfold us; rw [Bool.eq_iff_iff]; simp
theorem ss' (x : Int) : (!(decide (x < -16384) || decide (16384 < x))) = ss x := by unfold ss; rw [Bool.eq_iff_iff]; simp
theorem nr2 (x : Int) : (decide (-1048576 ≤ x) && decide (x ≤ 1048576)) = nr x := rfl
theorem us2 (x : Int) : (decide (-4096 ≤ x) && decide (x ≤ 4096)) = us x := rfl
theorem ss2 (x : Int) : (decide (-16384 ≤ x) && decide (x ≤ 16384)) = ss x := rfl
theorem nr3 (x : Int) (q : Bool) : (decide (-1048576 ≤ x) && (decide (x ≤ 1048576) && q)) = (nr x && q) := by rw [← Bool.and_assoc]; rfl
theorem us3 (x : Int) (q : Bool) : (decide (-4096 ≤ x) && (decide (x ≤ 4096) && q)) = (us x && q) := by rw [← Bool.and_assoc]; rfl
theorem ss3 (x : Int) (q : Bool) : (decide (-16384 ≤ x) && (decide (x ≤ 16384) && q)) = (ss x && q) := by rw [← Bool.and_assoc]; rfl
theorem nr_b {x : Int} (h : nr x = true) : -1048576 ≤ x ∧ x ≤ 1048576 := by simpa [nr] using h
theorem us_b {x : Int} (h : us x = true) : -4096 ≤ x ∧ x ≤ 4096 := by simpa [us] using h
theorem ss_b {x : Int} (h : ss x = true) : -16384 ≤ x ∧ x ≤ 16384 := by simpa [ss] using h
theorem nr_i {x : Int} (h : -1048576 ≤ x ∧ x ≤ 1048576) : nr x = true := by simpa [nr] using h
theorem nr_m {x y : Int} (hx : nr x = true) (hy : nr y = true) : -1099511627776 ≤ x * y ∧ x * y ≤ 1099511627776 := mul_bd (M := 1048576) (N := 1048576) _ (by decide) (nr_b hx) (nr_b hy)
theorem cmps (x y : Int) : (if decide (x < y) = true then (-1 : Int) else if decide (y < x) = true then 1 else 0) = (if x < y then -1 else if y < x then 1 else 0) := by simp
def R_near2 : AV := (.bool (.ite (.ite (.lt (.var 0) (.lit (-1048576))) (.blit true) (.lt (.lit 1048576) (.var 0))) (.blit false) (.no (.ite (.lt (.var 1) (.lit (-1048576))) (.blit true) (.lt (.lit 1048576) (.var 1))))))
theorem k_near2 : acall cx0 20 false 112 [] (argsG [.s 3 2 2] 0 0) (heapG [.s 3 2 2] 0) = .leaf (R_near2, heapG [.s 3 2 2] 0) := by kernel_rfl
set_option maxHeartbeats 4000000 in
set_option maxRecDepth 20000 in
theorem v_near2 : ∀ l : List Int, l.length = lenSh [.s 3 2 2] → Any l → valOf (E.at l) R_near2 = some (tupleV (resV E 0 l [.b] 0 0)) := by
 intro l hl hG
 have h0 : l.length = 2 := hl
 clear hl
 obtain ⟨a0, l1, rfl, h1⟩ := cut1 h0
 clear h0
 obtain ⟨a1, l2, rfl, h2⟩ := cut1 h1
 clear h1
 obtain rfl := cut0 h2
 clear h2
 simp only [R_near2, valOf, vals1, valInts, val1, tupleV, resV, valsI, den, bt1, bt2, bt3, bt4, Env.at, E, fb, fi, List.getD_cons_zero, List.getD_cons_succ, List.all_cons, List.all_nil, Bool.and_true, nr', us', ss', nr2, us2, ss2, nr3, us3, ss3, cr2, Bool.and_assoc, Option.map_some, List.all_append, cmps]
theorem c_near2 (W : World) : Flat Tryz.prog E W Any 112 [.s 3 2 2] fun l => tupleV (resV E 0 l [.b] 0 0) := flat_val (cx0_ok W) k_near2 v_near2
def R_near3 : AV := (.bool (.ite (.ite (.lt (.var 0) (.lit (-1048576))) (.blit true) (.lt (.lit 1048576) (.var 0))) (.blit false) (.ite (.ite (.lt (.var 1) (.lit (-1048576))) (.blit true) (.lt (.lit 1048576) (.var 1))) (.blit false) (.no (.ite (.lt (.var 2) (.lit (-1048576))) (.blit true) (.lt (.lit 1048576) (.var 2)))))))
theorem k_near3 : acall cx0 20 false 112 [] (argsG [.s 3 3 3] 0 0) (heapG [.s 3 3 3] 0) = .leaf (R_near3, heapG [.s 3 3 3] 0) := by kernel_rfl
set_option maxHeartbeats 4000000 in
set_option maxRecDepth 20000 in
theorem v_near3 : ∀ l : List Int, l.length = lenSh [.s 3 3 3] → Any l → valOf (E.at l) R_near3 = some (tupleV (resV E 0 l [.b] 0 0)) := by
 intro l hl hG
 have h0 : l.length = 3 := hl
 clear hl
 obtain ⟨a0, l1, rfl, h1⟩ := cut1 h0
 clear h0
 obtain ⟨a1, l2, rfl, h2⟩ := cut1 h1
 clear h1
 obtain ⟨a2, l3, rfl, h3⟩ := cut1 h2
 clear h2
 obtain rfl := cut0 h3
 clear h3
 simp only [R_near3, valOf, vals1, valInts, val1, tupleV, resV, valsI, den, bt1, bt2, bt3, bt4, Env.at, E, fb, fi, List.getD_cons_zero, List.getD_cons_succ, List.all_cons, List.all_nil, Bool.and_true, nr', us', ss', nr2, us2, ss2, nr3, us3, ss3, cr2, Bool.and_assoc, Option.map_some, List.all_append, cmps]
theorem c_near3 (W : World) : Flat Tryz.prog E W Any 112 [.s 3 3 3] fun l => tupleV (resV E 0 l [.b] 0 0) := flat_val (cx0_ok W) k_near3 v_near3
noncomputable def cx1 : Cx := ⟨cx0.ty, cx0.fn, [flatCon 112 [.s 3 2 2] [.b] 0 noChk, flatCon 112 [.s 3 3 3] [.b] 0 noChk] ++ cx0.con, cx0.inl, cx0.eqs⟩
theorem cx1_ok (W : World) : ∀ l, Any l → CxOk Tryz.prog (E.at l) W cx1 :=
 cx_more (cx0_ok W) (List.forall_mem_cons.2 ⟨flat_con' (c_near2 W), List.forall_mem_cons.2 ⟨flat_con' (c_near3 W), (fun _ h => by cases h)⟩⟩)
end Go.Proofs.YtlfoglklibhbnaaGreat.Sx
namespace Go.Proofs.YtlfoglklibhbnaaGreat.Sx
open Go.RowKit
def R_is2 : AV := (.bool (.ite (.app 0 0 (.cons (.var 0) (.cons (.var 1) .nil))) (.app 0 0 (.cons (.var 2) (.cons (.var 3) .nil))) (.blit false)))
theorem k_is2 : acall cx1 20 false 88 [] (argsG [.s 38 2 4] 0 0) (heapG [.s 38 2 4] 0) = .leaf (R_is2, heapG [.s 38 2 4] 0) := by kernel_rfl
set_option maxHeartbeats 4000000 in
set_option maxRecDepth 20000 in
theorem v_is2 : ∀ l : List Int, l.length = lenSh [.s 38 2 4] → Any l → valOf (E.at l) R_is2 = some (tupleV (resV E 0 l [.b] 0 0)) := by
 intro l hl hG
 have h0 : l.length = 4 := hl
 clear hl
 obtain ⟨a0, l1, rfl, h1⟩ := cut1 h0
 clear h0
 obtain ⟨a1, l2, rfl, h2⟩ := cut1 h1
 clear h1
 obtain ⟨a2, l3, rfl, h3⟩ := cut1 h2
 clear h2
 obtain ⟨a3, l4, rfl, h4⟩ := cut1 h3
 clear h3
 obtain rfl := cut0 h4
 clear h4
 simp only [R_is2, valOf, vals1, valInts, val1, tupleV, resV, valsI, den, bt1, bt2, bt3, bt4, Env.at, E, fb, fi, List.getD_cons_zero, List.getD_cons_succ, List.all_cons, List.all_nil, Bool.and_true, nr', us', ss', nr2, us2, ss2, nr3, us3, ss3, cr2, Bool.and_assoc, Option.map_some, List.all_append, cmps]
theorem c_is2 (W : World) : Flat Tryz.prog E W Any 88 [.s 38 2 4] fun l => tupleV (resV E 0 l [.b] 0 0) := flat_val (cx1_ok W) k_is2 v_is2
def R_is3 : AV := (.bool (.ite (.app 0 0 (.cons (.var 0) (.cons (.var 1) (.cons (.var 2) .nil)))) (.app 0 0 (.cons (.var 3) (.cons (.var 4) (.cons (.var 5) .nil)))) (.blit false)))
theorem k_is3 : acall cx1 20 false 106 [] (argsG [.s 63 2 6] 0 0) (heapG [.s 63 2 6] 0) = .leaf (R_is3, heapG [.s 63 2 6] 0) := by kernel_rfl
set_option maxHeartbeats 4000000 in
set_option maxRecDepth 20000 in
theorem v_is3 : ∀ l : List Int, l.length = lenSh [.s 63 2 6] → Any l → valOf (E.at l) R_is3 = some (tupleV (resV E 0 l [.b] 0 0)) := by
 intro l hl hG
 have h0 : l.length = 6 := hl
 clear hl
 obtain ⟨a0, l1, rfl, h1⟩ := cut1 h0
 clear h0
 obtain ⟨a1, l2, rfl, h2⟩ := cut1 h1
 clear h1
 obtain ⟨a2, l3, rfl, h3⟩ := cut1 h2
 clear h2
 obtain ⟨a3, l4, rfl, h4⟩ := cut1 h3
 clear h3
 obtain ⟨a4, l5, rfl, h5⟩ := cut1 h4
 clear h4
 obtain ⟨a5, l6, rfl, h6⟩ := cut1 h5
 clear h5
 obtain rfl := cut0 h6
 clear h6
 simp only [R_is3, valOf, vals1, valInts, val1, tupleV, resV, valsI, den, bt1, bt2, bt3, bt4, Env.at, E, fb, fi, List.getD_cons_zero, List.getD_cons_succ, List.all_cons, List.all_nil, Bool.and_true, nr', us', ss', nr2, us2, ss2, nr3, us3, ss3, cr2, Bool.and_assoc, Option.map_some, List.all_append, cmps]
theorem c_is3 (W : World) : Flat Tryz.prog E W Any 106 [.s 63 2 6] fun l => tupleV (resV E 0 l [.b] 0 0) := flat_val (cx1_ok W) k_is3 v_is3
def R_small2_1 : AV := (.bool (.ite (.ite (.lt (.var 0) (.lit (-4096))) (.blit true) (.lt (.lit 4096) (.var 0))) (.blit false) (.no (.ite (.lt (.var 1) (.lit (-4096))) (.blit true) (.lt (.lit 4096) (.var 1))))))
theorem k_small2_1 : acall cx1 20 false 54 [] (argsG [.s 38 1 2] 0 0) (heapG [.s 38 1 2] 0) = .leaf (R_small2_1, heapG [.s 38 1 2] 0) := by kernel_rfl
set_option maxHeartbeats 4000000 in
set_option maxRecDepth 20000 in
theorem v_small2_1 : ∀ l : List Int, l.length = lenSh [.s 38 1 2] → Any l → valOf (E.at l) R_small2_1 = some (tupleV (resV E 1 l [.b] 0 0)) := by
 intro l hl hG
 have h0 : l.length = 2 := hl
 clear hl
 obtain ⟨a0, l1, rfl, h1⟩ := cut1 h0
 clear h0
 obtain ⟨a1, l2, rfl, h2⟩ := cut1 h1
 clear h1
 obtain rfl := cut0 h2
 clear h2
 simp only [R_small2_1, valOf, vals1, valInts, val1, tupleV, resV, valsI, den, bt1, bt2, bt3, bt4, Env.at, E, fb, fi, List.getD_cons_zero, List.getD_cons_succ, List.all_cons, List.all_nil, Bool.and_true, nr', us', ss', nr2, us2, ss2, nr3, us3, ss3, cr2, Bool.and_assoc, Option.map_some, List.all_append, cmps]
theorem c_small2_1 (W : World) : Flat Tryz.prog E W Any 54 [.s 38 1 2] fun l => tupleV (resV E 1 l [.b] 0 0) := flat_val (cx1_ok W) k_small2_1 v_small2_1
def R_small2_2 : AV := (.bool (.ite (.ite (.ite (.lt (.var 0) (.lit (-4096))) (.blit true) (.lt (.lit 4096) (.var 0))) (.blit false) (.no (.ite (.lt (.var 1) (.lit (-4096))) (.blit true) (.lt (.lit 4096) (.var 1))))) (.ite (.ite (.lt (.var 2) (.lit (-4096))) (.blit true) (.lt (.lit 4096) (.var 2))) (.blit false) (.no (.ite (.lt (.var 3) (.lit (-4096))) (.blit true) (.lt (.lit 4096) (.var 3))))) (.blit false)))
theorem k_small2_2 : acall cx1 20 false 54 [] (argsG [.s 38 2 4] 0 0) (heapG [.s 38 2 4] 0) = .leaf (R_small2_2, heapG [.s 38 2 4] 0) := by kernel_rfl
set_option maxHeartbeats 4000000 in
set_option maxRecDepth 20000 in
theorem v_small2_2 : ∀ l : List Int, l.length = lenSh [.s 38 2 4] → Any l → valOf (E.at l) R_small2_2 = some (tupleV (resV E 1 l [.b] 0 0)) := by
 intro l hl hG
 have h0 : l.length = 4 := hl
 clear hl
 obtain ⟨a0, l1, rfl, h1⟩ := cut1 h0
 clear h0
 obtain ⟨a1, l2, rfl, h2⟩ := cut1 h1
 clear h1
 obtain ⟨a2, l3, rfl, h3⟩ := cut1 h2
 clear h2
 obtain ⟨a3, l4, rfl, h4⟩ := cut1 h3
 clear h3
 obtain rfl := cut0 h4
 clear h4
 simp only [R_small2_2, valOf, vals1, valInts, val1, tupleV, resV, valsI, den, bt1, bt2, bt3, bt4, Env.at, E, fb, fi, List.getD_cons_zero, List.getD_cons_succ, List.all_cons, List.all_nil, Bool.and_true, nr', us', ss', nr2, us2, ss2, nr3, us3, ss3, cr2, Bool.and_assoc, Option.map_some, List.all_append, cmps]
theorem c_small2_2 (W : World) : Flat Tryz.prog E W Any 54 [.s 38 2 4] fun l => tupleV (resV E 1 l [.b] 0 0) := flat_val (cx1_ok W) k_small2_2 v_small2_2
def R_small2_3 : AV := (.bool (.ite (.ite (.ite (.lt (.var 0) (.lit (-4096))) (.blit true) (.lt (.lit 4096) (.var 0))) (.blit false) (.no (.ite (.lt (.var 1) (.lit (-4096))) (.blit true) (.lt (.lit 4096) (.var 1))))) (.ite (.ite (.ite (.lt (.var 2) (.lit (-4096))) (.blit true) (.lt (.lit 4096) (.var 2))) (.blit false) (.no (.ite (.lt (.var 3) (.lit (-4096))) (.blit true) (.lt (.lit 4096) (.var 3))))) (.ite (.ite (.lt (.var 4) (.lit (-4096))) (.blit true) (.lt (.lit 4096) (.var 4))) (.blit false) (.no (.ite (.lt (.var 5) (.lit (-4096))) (.blit true) (.lt (.lit 4096) (.var 5))))) (.blit false)) (.blit false)))
theorem k_small2_3 : acall cx1 20 false 54 [] (argsG [.s 38 3 6] 0 0) (heapG [.s 38 3 6] 0) = .leaf (R_small2_3, heapG [.s 38 3 6] 0) := by kernel_rfl
set_option maxHeartbeats 4000000 in
set_option maxRecDepth 20000 in
theorem v_small2_3 : ∀ l : List Int, l.length = lenSh [.s 38 3 6] → Any l → valOf (E.at l) R_small2_3 = some (tupleV (resV E 1 l [.b] 0 0)) := by
 intro l hl hG
 have h0 : l.length = 6 := hl
 clear hl
 obtain ⟨a0, l1, rfl, h1⟩ := cut1 h0
 clear h0
 obtain ⟨a1, l2, rfl, h2⟩ := cut1 h1
 clear h1
 obtain ⟨a2, l3, rfl, h3⟩ := cut1 h2
 clear h2
 obtain ⟨a3, l4, rfl, h4⟩ := cut1 h3
 clear h3
 obtain ⟨a4, l5, rfl, h5⟩ := cut1 h4
 clear h4
 obtain ⟨a5, l6, rfl, h6⟩ := cut1 h5
 clear h5
 obtain rfl := cut0 h6
 clear h6
 simp only [R_small2_3, valOf, vals1, valInts, val1, tupleV, resV, valsI, den, bt1, bt2, bt3, bt4, Env.at, E, fb, fi, List.getD_cons_zero, List.getD_cons_succ, List.all_cons, List.all_nil, Bool.and_true, nr', us', ss', nr2, us2, ss2, nr3, us3, ss3, cr2, Bool.and_assoc, Option.map_some, List.all_append, cmps]
theorem c_small2_3 (W : World) : Flat Tryz.prog E W Any 54 [.s 38 3 6] fun l => tupleV (resV E 1 l [.b] 0 0) := flat_val (cx1_ok W) k_small2_3 v_small2_3
def R_small2_4 : AV := (.bool (.ite (.ite (.ite (.lt (.var 0) (.lit (-4096))) (.blit true) (.lt (.lit 4096) (.var 0))) (.blit false) (.no (.ite (.lt (.var 1) (.lit (-4096))) (.blit true) (.lt (.lit 4096) (.var 1))))) (.ite (.ite (.ite (.lt (.var 2) (.lit (-4096))) (.blit true) (.lt (.lit 4096) (.var 2))) (.blit false) (.no (.ite (.lt (.var 3) (.lit (-4096))) (.blit true) (.lt (.lit 4096) (.var 3))))) (.ite (.ite (.ite (.lt (.var 4) (.lit (-4096))) (.blit true) (.lt (.lit 4096) (.var 4))) (.blit false) (.no (.ite (.lt (.var 5) (.lit (-4096))) (.blit true) (.lt (.lit 4096) (.var 5))))) (.ite (.ite (.lt (.var 6) (.lit (-4096))) (.blit true) (.lt (.lit 4096) (.var 6))) (.blit false) (.no (.ite (.lt (.var 7) (.lit (-4096))) (.blit true) (.lt (.lit 4096) (.var 7))))) (.blit false)) (.blit false)) (.blit false)))
theorem k_small2_4 : acall cx1 20 false 54 [] (argsG [.s 38 4 8] 0 0) (heapG [.s 38 4 8] 0) = .leaf (R_small2_4, heapG [.s 38 4 8] 0) := by kernel_rfl
set_option maxHeartbeats 4000000 in
set_option maxRecDepth 20000 in
theorem v_small2_4 : ∀ l : List Int, l.length = lenSh [.s 38 4 8] → Any l → valOf (E.at l) R_small2_4 = some (tupleV (resV E 1 l [.b] 0 0)) := by
 intro l hl hG
 have h0 : l.length = 8 := hl
 clear hl
 obtain ⟨a0, l1, rfl, h1⟩ := cut1 h0
 clear h0
 obtain ⟨a1, l2, rfl, h2⟩ := cut1 h1
 clear h1
 obtain ⟨a2, l3, rfl, h3⟩ := cut1 h2
 clear h2
 obtain ⟨a3, l4, rfl, h4⟩ := cut1 h3
 clear h3
 obtain ⟨a4, l5, rfl, h5⟩ := cut1 h4
 clear h4
 obtain ⟨a5, l6, rfl, h6⟩ := cut1 h5
 clear h5
 obtain ⟨a6, l7, rfl, h7⟩ := cut1 h6
 clear h6
 obtain ⟨a7, l8, rfl, h8⟩ := cut1 h7
 clear h7
 obtain rfl := cut0 h8
 clear h8
 simp only [R_small2_4, valOf, vals1, valInts, val1, tupleV, resV, valsI, den, bt1, bt2, bt3, bt4, Env.at, E, fb, fi, List.getD_cons_zero, List.getD_cons_succ, List.all_cons, List.all_nil, Bool.and_true, nr', us', ss', nr2, us2, ss2, nr3, us3, ss3, cr2, Bool.and_assoc, Option.map_some, List.all_append, cmps]
theorem c_small2_4 (W : World) : Flat Tryz.prog E W Any 54 [.s 38 4 8] fun l => tupleV (resV E 1 l [.b] 0 0) := flat_val (cx1_ok W) k_small2_4 v_small2_4
def R_small2_p : AV := (.bool (.ite (.ite (.ite (.lt (.var 0) (.lit (-4096))) (.blit true) (.lt (.lit 4096) (.var 0))) (.blit false) (.no (.ite (.lt (.var 1) (.lit (-4096))) (.blit true) (.lt (.lit 4096) (.var 1))))) (.ite (.ite (.ite (.lt (.var 2) (.lit (-4096))) (.blit true) (.lt (.lit 4096) (.var 2))) (.blit false) (.no (.ite (.lt (.var 3) (.lit (-4096))) (.blit true) (.lt (.lit 4096) (.var 3))))) (.ite (.ite (.lt (.var 4) (.lit (-4096))) (.blit true) (.lt (.lit 4096) (.var 4))) (.blit false) (.no (.ite (.lt (.var 5) (.lit (-4096))) (.blit true) (.lt (.lit 4096) (.var 5))))) (.blit false)) (.blit false)))
theorem k_small2_p : acall cx1 20 false 54 [] (argsG [.s 86 3 6] 0 0) (heapG [.s 86 3 6] 0) = .leaf (R_small2_p, heapG [.s 86 3 6] 0) := by kernel_rfl
set_option maxHeartbeats 4000000 in
set_option maxRecDepth 20000 in
theorem v_small2_p : ∀ l : List Int, l.length = lenSh [.s 86 3 6] → Any l → valOf (E.at l) R_small2_p = some (tupleV (resV E 1 l [.b] 0 0)) := by
 intro l hl hG
 have h0 : l.length = 6 := hl
 clear hl
 obtain ⟨a0, l1, rfl, h1⟩ := cut1 h0
 clear h0
 obtain ⟨a1, l2, rfl, h2⟩ := cut1 h1
 clear h1
 obtain ⟨a2, l3, rfl, h3⟩ := cut1 h2
 clear h2
 obtain ⟨a3, l4, rfl, h4⟩ := cut1 h3
 clear h3
 obtain ⟨a4, l5, rfl, h5⟩ := cut1 h4
 clear h4
 obtain ⟨a5, l6, rfl, h6⟩ := cut1 h5
 clear h5
 obtain rfl := cut0 h6
 clear h6
 simp only [R_small2_p, valOf, vals1, valInts, val1, tupleV, resV, valsI, den, bt1, bt2, bt3, bt4, Env.at, E, fb, fi, List.getD_cons_zero, List.getD_cons_succ, List.all_cons, List.all_nil, Bool.and_true, nr', us', ss', nr2, us2, ss2, nr3, us3, ss3, cr2, Bool.and_assoc, Option.map_some, List.all_append, cmps]
theorem c_small2_p (W : World) : Flat Tryz.prog E W Any 54 [.s 86 3 6] fun l => tupleV (resV E 1 l [.b] 0 0) := flat_val (cx1_ok W) k_small2_p v_small2_p
def R_small3_1 : AV := (.bool (.ite (.ite (.lt (.var 0) (.lit (-16384))) (.blit true) (.lt (.lit 16384) (.var 0))) (.blit false) (.ite (.ite (.lt (.var 1) (.lit (-16384))) (.blit true) (.lt (.lit 16384) (.var 1))) (.blit false) (.no (.ite (.lt (.var 2) (.lit (-16384))) (.blit true) (.lt (.lit 16384) (.var 2)))))))
theorem k_small3_1 : acall cx1 20 false 131 [] (argsG [.s 63 1 3] 0 0) (heapG [.s 63 1 3] 0) = .leaf (R_small3_1, heapG [.s 63 1 3] 0) := by kernel_rfl
set_option maxHeartbeats 4000000 in
set_option maxRecDepth 20000 in
theorem v_small3_1 : ∀ l : List Int, l.length = lenSh [.s 63 1 3] → Any l → valOf (E.at l) R_small3_1 = some (tupleV (resV E 2 l [.b] 0 0)) := by
 intro l hl hG
 have h0 : l.length = 3 := hl
 clear hl
 obtain ⟨a0, l1, rfl, h1⟩ := cut1 h0
 clear h0
 obtain ⟨a1, l2, rfl, h2⟩ := cut1 h1
 clear h1
 obtain ⟨a2, l3, rfl, h3⟩ := cut1 h2
 clear h2
 obtain rfl := cut0 h3
 clear h3
 simp only [R_small3_1, valOf, vals1, valInts, val1, tupleV, resV, valsI, den, bt1, bt2, bt3, bt4, Env.at, E, fb, fi, List.getD_cons_zero, List.getD_cons_succ, List.all_cons, List.all_nil, Bool.and_true, nr', us', ss', nr2, us2, ss2, nr3, us3, ss3, cr2, Bool.and_assoc, Option.map_some, List.all_append, cmps]
theorem c_small3_1 (W : World) : Flat Tryz.prog E W Any 131 [.s 63 1 3] fun l => tupleV (resV E 2 l [.b] 0 0) := flat_val (cx1_ok W) k_small3_1 v_small3_1
def R_small3_2 : AV := (.bool (.ite (.ite (.ite (.lt (.var 0) (.lit (-16384))) (.blit true) (.lt (.lit 16384) (.var 0))) (.blit false) (.ite (.ite (.lt (.var 1) (.lit (-16384))) (.blit true) (.lt (.lit 16384) (.var 1))) (.blit false) (.no (.ite (.lt (.var 2) (.lit (-16384))) (.blit true) (.lt (.lit 16384) (.var 2)))))) (.ite (.ite (.lt (.var 3) (.lit (-16384))) (.blit true) (.lt (.lit 16384) (.var 3))) (.blit false) (.ite (.ite (.lt (.var 4) (.lit (-16384))) (.blit true) (.lt (.lit 16384) (.var 4))) (.blit false) (.no (.ite (.lt (.var 5) (.lit (-16384))) (.blit true) (.lt (.lit 16384) (.var 5)))))) (.blit false)))
theorem k_small3_2 : acall cx1 20 false 131 [] (argsG [.s 63 2 6] 0 0) (heapG [.s 63 2 6] 0) = .leaf (R_small3_2, heapG [.s 63 2 6] 0) := by kernel_rfl
set_option maxHeartbeats 4000000 in
set_option maxRecDepth 20000 in
theorem v_small3_2 : ∀ l : List Int, l.length = lenSh [.s 63 2 6] → Any l → valOf (E.at l) R_small3_2 = some (tupleV (resV E 2 l [.b] 0 0)) := by
 intro l hl hG
 have h0 : l.length = 6 := hl
 clear hl
 obtain ⟨a0, l1, rfl, h1⟩ := cut1 h0
 clear h0
 obtain ⟨a1, l2, rfl, h2⟩ := cut1 h1
 clear h1
 obtain ⟨a2, l3, rfl, h3⟩ := cut1 h2
 clear h2
 obtain ⟨a3, l4, rfl, h4⟩ := cut1 h3
 clear h3
 obtain ⟨a4, l5, rfl, h5⟩ := cut1 h4
 clear h4
 obtain ⟨a5, l6, rfl, h6⟩ := cut1 h5
 clear h5
 obtain rfl := cut0 h6
 clear h6
 simp only [R_small3_2, valOf, vals1, valInts, val1, tupleV, resV, valsI, den, bt1, bt2, bt3, bt4, Env.at, E, fb, fi, List.getD_cons_zero, List.getD_cons_succ, List.all_cons, List.all_nil, Bool.and_true, nr', us', ss', nr2, us2, ss2, nr3, us3, ss3, cr2, Bool.and_assoc, Option.map_some, List.all_append, cmps]
theorem c_small3_2 (W : World) : Flat Tryz.prog E W Any 131 [.s 63 2 6] fun l => tupleV (resV E 2 l [.b] 0 0) := flat_val (cx1_ok W) k_small3_2 v_small3_2
def R_small3_3 : AV := (.bool (.ite (.ite (.ite (.lt (.var 0) (.lit (-16384))) (.blit true) (.lt (.lit 16384) (.var 0))) (.blit false) (.ite (.ite (.lt (.var 1) (.lit (-16384))) (.blit true) (.lt (.lit 16384) (.var 1))) (.blit false) (.no (.ite (.lt (.var 2) (.lit (-16384))) (.blit true) (.lt (.lit 16384) (.var 2)))))) (.ite (.ite (.ite (.lt (.var 3) (.lit (-16384))) (.blit true) (.lt (.lit 16384) (.var 3))) (.blit false) (.ite (.ite (.lt (.var 4) (.lit (-16384))) (.blit true) (.lt (.lit 16384) (.var 4))) (.blit false) (.no (.ite (.lt (.var 5) (.lit (-16384))) (.blit true) (.lt (.lit 16384) (.var 5)))))) (.ite (.ite (.lt (.var 6) (.lit (-16384))) (.blit true) (.lt (.lit 16384) (.var 6))) (.blit false) (.ite (.ite (.lt (.var 7) (.lit (-16384))) (.blit true) (.lt (.lit 16384) (.var 7))) (.blit false) (.no (.ite (.lt (.var 8) (.lit (-16384))) (.blit true) (.lt (.lit 16384) (.var 8)))))) (.blit false)) (.blit false)))
theorem k_small3_3 : acall cx1 20 false 131 [] (argsG [.s 63 3 9] 0 0) (heapG [.s 63 3 9] 0) = .leaf (R_small3_3, heapG [.s 63 3 9] 0) := by kernel_rfl
set_option maxHeartbeats 4000000 in
set_option maxRecDepth 20000 in
theorem v_small3_3 : ∀ l : List Int, l.length = lenSh [.s 63 3 9] → Any l → valOf (E.at l) R_small3_3 = some (tupleV (resV E 2 l [.b] 0 0)) := by
 intro l hl hG
 have h0 : l.length = 9 := hl
 clear hl
 obtain ⟨a0, l1, rfl, h1⟩ := cut1 h0
 clear h0
 obtain ⟨a1, l2, rfl, h2⟩ := cut1 h1
 clear h1
 obtain ⟨a2, l3, rfl, h3⟩ := cut1 h2
 clear h2
 obtain ⟨a3, l4, rfl, h4⟩ := cut1 h3
 clear h3
 obtain ⟨a4, l5, rfl, h5⟩ := cut1 h4
 clear h4
 obtain ⟨a5, l6, rfl, h6⟩ := cut1 h5
 clear h5
 obtain ⟨a6, l7, rfl, h7⟩ := cut1 h6
 clear h6
 obtain ⟨a7, l8, rfl, h8⟩ := cut1 h7
 clear h7
 obtain ⟨a8, l9, rfl, h9⟩ := cut1 h8
 clear h8
 obtain rfl := cut0 h9
 clear h9
 simp only [R_small3_3, valOf, vals1, valInts, val1, tupleV, resV, valsI, den, bt1, bt2, bt3, bt4, Env.at, E, fb, fi, List.getD_cons_zero, List.getD_cons_succ, List.all_cons, List.all_nil, Bool.and_true, nr', us', ss', nr2, us2, ss2, nr3, us3, ss3, cr2, Bool.and_assoc, Option.map_some, List.all_append, cmps]
theorem c_small3_3 (W : World) : Flat Tryz.prog E W Any 131 [.s 63 3 9] fun l => tupleV (resV E 2 l [.b] 0 0) := flat_val (cx1_ok W) k_small3_3 v_small3_3
def R_small3_4 : AV := (.bool (.ite (.ite (.ite (.lt (.var 0) (.lit (-16384))) (.blit true) (.lt (.lit 16384) (.var 0))) (.blit false) (.ite (.ite (.lt (.var 1) (.lit (-16384))) (.blit true) (.lt (.lit 16384) (.var 1))) (.blit false) (.no (.ite (.lt (.var 2) (.lit (-16384))) (.blit true) (.lt (.lit 16384) (.var 2)))))) (.ite (.ite (.ite (.lt (.var 3) (.lit (-16384))) (.blit true) (.lt (.lit 16384) (.var 3))) (.blit false) (.ite (.ite (.lt (.var 4) (.lit (-16384))) (.blit true) (.lt (.lit 16384) (.var 4))) (.blit false) (.no (.ite (.lt (.var 5) (.lit (-16384))) (.blit true) (.lt (.lit 16384) (.var 5)))))) (.ite (.ite (.ite (.lt (.var 6) (.lit (-16384))) (.blit true) (.lt (.lit 16384) (.var 6))) (.blit false) (.ite (.ite (.lt (.var 7) (.lit (-16384))) (.blit true) (.lt (.lit 16384) (.var 7))) (.blit false) (.no (.ite (.lt (.var 8) (.lit (-16384))) (.blit true) (.lt (.lit 16384) (.var 8)))))) (.ite (.ite (.lt (.var 9) (.lit (-16384))) (.blit true) (.lt (.lit 16384) (.var 9))) (.blit false) (.ite (.ite (.lt (.var 10) (.lit (-16384))) (.blit true) (.lt (.lit 16384) (.var 10))) (.blit false) (.no (.ite (.lt (.var 11) (.lit (-16384))) (.blit true) (.lt (.lit 16384) (.var 11)))))) (.blit false)) (.blit false)) (.blit false)))
theorem k_small3_4 : acall cx1 20 false 131 [] (argsG [.s 63 4 12] 0 0) (heapG [.s 63 4 12] 0) = .leaf (R_small3_4, heapG [.s 63 4 12] 0) := by kernel_rfl
set_option maxHeartbeats 4000000 in
set_option maxRecDepth 20000 in
theorem v_small3_4 : ∀ l : List Int, l.length = lenSh [.s 63 4 12] → Any l → valOf (E.at l) R_small3_4 = some (tupleV (resV E 2 l [.b] 0 0)) := by
 intro l hl hG
 have h0 : l.length = 12 := hl
 clear hl
 obtain ⟨a0, l1, rfl, h1⟩ := cut1 h0
 clear h0
 obtain ⟨a1, l2, rfl, h2⟩ := cut1 h1
 clear h1
 obtain ⟨a2, l3, rfl, h3⟩ := cut1 h2
 clear h2
 obtain ⟨a3, l4, rfl, h4⟩ := cut1 h3
 clear h3
 obtain ⟨a4, l5, rfl, h5⟩ := cut1 h4
 clear h4
 obtain ⟨a5, l6, rfl, h6⟩ := cut1 h5
 clear h5
 obtain ⟨a6, l7, rfl, h7⟩ := cut1 h6
 clear h6
 obtain ⟨a7, l8, rfl, h8⟩ := cut1 h7
 clear h7
 obtain ⟨a8, l9, rfl, h9⟩ := cut1 h8
 clear h8
 obtain ⟨a9, l10, rfl, h10⟩ := cut1 h9
 clear h9
 obtain ⟨a10, l11, rfl, h11⟩ := cut1 h10
 clear h10
 obtain ⟨a11, l12, rfl, h12⟩ := cut1 h11
 clear h11
 obtain rfl := cut0 h12
 clear h12
 simp only [R_small3_4, valOf, vals1, valInts, val1, tupleV, resV, valsI, den, bt1, bt2, bt3, bt4, Env.at, E, fb, fi, List.getD_cons_zero, List.getD_cons_succ, List.all_cons, List.all_nil, Bool.and_true, nr', us', ss', nr2, us2, ss2, nr3, us3, ss3, cr2, Bool.and_assoc, Option.map_some, List.all_append, cmps]
theorem c_small3_4 (W : World) : Flat Tryz.prog E W Any 131 [.s 63 4 12] fun l => tupleV (resV E 2 l [.b] 0 0) := flat_val (cx1_ok W) k_small3_4 v_small3_4
def R_small3_5 : AV := (.bool (.ite (.ite (.ite (.lt (.var 0) (.lit (-16384))) (.blit true) (.lt (.lit 16384) (.var 0))) (.blit false) (.ite (.ite (.lt (.var 1) (.lit (-16384))) (.blit true) (.lt (.lit 16384) (.var 1))) (.blit false) (.no (.ite (.lt (.var 2) (.lit (-16384))) (.blit true) (.lt (.lit 16384) (.var 2)))))) (.ite (.ite (.ite (.lt (.var 3) (.lit (-16384))) (.blit true) (.lt (.lit 16384) (.var 3))) (.blit false) (.ite (.ite (.lt (.var 4) (.lit (-16384))) (.blit true) (.lt (.lit 16384) (.var 4))) (.blit false) (.no (.ite (.lt (.var 5) (.lit (-16384))) (.blit true) (.lt (.lit 16384) (.var 5)))))) (.ite (.ite (.ite (.lt (.var 6) (.lit (-16384))) (.blit true) (.lt (.lit 16384) (.var 6))) (.blit false) (.ite (.ite (.lt (.var 7) (.lit (-16384))) (.blit true) (.lt (.lit 16384) (.var 7))) (.blit false) (.no (.ite (.lt (.var 8) (.lit (-16384))) (.blit true) (.lt (.lit 16384) (.var 8)))))) (.ite (.ite (.ite (.lt (.var 9) (.lit (-16384))) (.blit true) (.lt (.lit 16384) (.var 9))) (.blit false) (.ite (.ite (.lt (.var 10) (.lit (-16384))) (.blit true) (.lt (.lit 16384) (.var 10))) (.blit false) (.no (.ite (.lt (.var 11) (.lit (-16384))) (.blit true) (.lt (.lit 16384) (.var 11)))))) (.ite (.ite (.lt (.var 12) (.lit (-16384))) (.blit true) (.lt (.lit 16384) (.var 12))) (.blit false) (.ite (.ite (.lt (.var 13) (.lit (-16384))) (.blit true) (.lt (.lit 16384) (.var 13))) (.blit false) (.no (.ite (.lt (.var 14) (.lit (-16384))) (.blit true) (.lt (.lit 16384) (.var 14)))))) (.blit false)) (.blit false)) (.blit false)) (.blit false)))
theorem k_small3_5 : acall cx1 20 false 131 [] (argsG [.s 63 5 15] 0 0) (heapG [.s 63 5 15] 0) = .leaf (R_small3_5, heapG [.s 63 5 15] 0) := by kernel_rfl
set_option maxHeartbeats 4000000 in
set_option maxRecDepth 20000 in
theorem v_small3_5 : ∀ l : List Int, l.length = lenSh [.s 63 5 15] → Any l → valOf (E.at l) R_small3_5 = some (tupleV (resV E 2 l [.b] 0 0)) := by
 intro l hl hG
 have h0 : l.length = 15 := hl
 clear hl
 obtain ⟨a0, l1, rfl, h1⟩ := cut1 h0
 clear h0
 obtain ⟨a1, l2, rfl, h2⟩ := cut1 h1
 clear h1
 obtain ⟨a2, l3, rfl, h3⟩ := cut1 h2
 clear h2
 obtain ⟨a3, l4, rfl, h4⟩ := cut1 h3
 clear h3
 obtain ⟨a4, l5, rfl, h5⟩ := cut1 h4
 clear h4
 obtain ⟨a5, l6, rfl, h6⟩ := cut1 h5
 clear h5
 obtain ⟨a6, l7, rfl, h7⟩ := cut1 h6
 clear h6
 obtain ⟨a7, l8, rfl, h8⟩ := cut1 h7
 clear h7
 obtain ⟨a8, l9, rfl, h9⟩ := cut1 h8
 clear h8
 obtain ⟨a9, l10, rfl, h10⟩ := cut1 h9
 clear h9
 obtain ⟨a10, l11, rfl, h11⟩ := cut1 h10
 clear h10
 obtain ⟨a11, l12, rfl, h12⟩ := cut1 h11
 clear h11
 obtain ⟨a12, l13, rfl, h13⟩ := cut1 h12
 clear h12
 obtain ⟨a13, l14, rfl, h14⟩ := cut1 h13
 clear h13
 obtain ⟨a14, l15, rfl, h15⟩ := cut1 h14
 clear h14
 obtain rfl := cut0 h15
 clear h15
 simp only [R_small3_5, valOf, vals1, valInts, val1, tupleV, resV, valsI, den, bt1, bt2, bt3, bt4, Env.at, E, fb, fi, List.getD_cons_zero, List.getD_cons_succ, List.all_cons, List.all_nil, Bool.and_true, nr', us', ss', nr2, us2, ss2, nr3, us3, ss3, cr2, Bool.and_assoc, Option.map_some, List.all_append, cmps]
theorem c_small3_5 (W : World) : Flat Tryz.prog E W Any 131 [.s 63 5 15] fun l => tupleV (resV E 2 l [.b] 0 0) := flat_val (cx1_ok W) k_small3_5 v_small3_5
def R_small3_p : AV := (.bool (.ite (.ite (.ite (.lt (.var 0) (.lit (-16384))) (.blit true) (.lt (.lit 16384) (.var 0))) (.blit false) (.ite (.ite (.lt (.var 1) (.lit (-16384))) (.blit true) (.lt (.lit 16384) (.var 1))) (.blit false) (.no (.ite (.lt (.var 2) (.lit (-16384))) (.blit true) (.lt (.lit 16384) (.var 2)))))) (.ite (.ite (.ite (.lt (.var 3) (.lit (-16384))) (.blit true) (.lt (.lit 16384) (.var 3))) (.blit false) (.ite (.ite (.lt (.var 4) (.lit (-16384))) (.blit true) (.lt (.lit 16384) (.var 4))) (.blit false) (.no (.ite (.lt (.var 5) (.lit (-16384))) (.blit true) (.lt (.lit 16384) (.var 5)))))) (.ite (.ite (.lt (.var 6) (.lit (-16384))) (.blit true) (.lt (.lit 16384) (.var 6))) (.blit false) (.ite (.ite (.lt (.var 7) (.lit (-16384))) (.blit true) (.lt (.lit 16384) (.var 7))) (.blit false) (.no (.ite (.lt (.var 8) (.lit (-16384))) (.blit true) (.lt (.lit 16384) (.var 8)))))) (.blit false)) (.blit false)))
theorem k_small3_p : acall cx1 20 false 131 [] (argsG [.s 187 3 9] 0 0) (heapG [.s 187 3 9] 0) = .leaf (R_small3_p, heapG [.s 187 3 9] 0) := by kernel_rfl
set_option maxHeartbeats 4000000 in
set_option maxRecDepth 20000 in
theorem v_small3_p : ∀ l : List Int, l.length = lenSh [.s 187 3 9] → Any l → valOf (E.at l) R_small3_p = some (tupleV (resV E 2 l [.b] 0 0)) := by
 intro l hl hG
 have h0 : l.length = 9 := hl
 clear hl
 obtain ⟨a0, l1, rfl, h1⟩ := cut1 h0
 clear h0
 obtain ⟨a1, l2, rfl, h2⟩ := cut1 h1
 clear h1
 obtain ⟨a2, l3, rfl, h3⟩ := cut1 h2
 clear h2
 obtain ⟨a3, l4, rfl, h4⟩ := cut1 h3
 clear h3
 obtain ⟨a4, l5, rfl, h5⟩ := cut1 h4
 clear h4
 obtain ⟨a5, l6, rfl, h6⟩ := cut1 h5
 clear h5
 obtain ⟨a6, l7, rfl, h7⟩ := cut1 h6
 clear h6
 obtain ⟨a7, l8, rfl, h8⟩ := cut1 h7
 clear h7
 obtain ⟨a8, l9, rfl, h9⟩ := cut1 h8
 clear h8
 obtain rfl := cut0 h9
 clear h9
 simp only [R_small3_p, valOf, vals1, valInts, val1, tupleV, resV, valsI, den, bt1, bt2, bt3, bt4, Env.at, E, fb, fi, List.getD_cons_zero, List.getD_cons_succ, List.all_cons, List.all_nil, Bool.and_true, nr', us', ss', nr2, us2, ss2, nr3, us3, ss3, cr2, Bool.and_assoc, Option.map_some, List.all_append, cmps]
theorem c_small3_p (W : World) : Flat Tryz.prog E W Any 131 [.s 187 3 9] fun l => tupleV (resV E 2 l [.b] 0 0) := flat_val (cx1_ok W) k_small3_p v_small3_p
noncomputable def cx2 : Cx := ⟨cx1.ty, cx1.fn, [flatCon 88 [.s 38 2 4] [.b] 0 noChk, flatCon 106 [.s 63 2 6] [.b] 0 noChk, flatCon 54 [.s 38 1 2] [.b] 1 noChk, flatCon 54 [.s 38 2 4] [.b] 1 noChk, flatCon 54 [.s 38 3 6] [.b] 1 noChk, flatCon 54 [.s 38 4 8] [.b] 1 noChk, flatCon 54 [.s 86 3 6] [.b] 1 noChk, flatCon 131 [.s 63 1 3] [.b] 2 noChk, flatCon 131 [.s 63 2 6] [.b] 2 noChk, flatCon 131 [.s 63 3 9] [.b] 2 noChk, flatCon 131 [.s 63 4 12] [.b] 2 noChk, flatCon 131 [.s 63 5 15] [.b] 2 noChk, flatCon 131 [.s 187 3 9] [.b] 2 noChk] ++ cx1.con, cx1.inl, cx1.eqs⟩
theorem cx2_ok (W : World) : ∀ l, Any l → CxOk Tryz.prog (E.at l) W cx2 :=
 cx_more (cx1_ok W) (List.forall_mem_cons.2 ⟨flat_con' (c_is2 W), List.forall_mem_cons.2 ⟨flat_con' (c_is3 W), List.forall_mem_cons.2 ⟨flat_con' (c_small2_1 W), List.forall_mem_cons.2 ⟨flat_con' (c_small2_2 W), List.forall_mem_cons.2 ⟨flat_con' (c_small2_3 W), List.forall_mem_cons.2 ⟨flat_con' (c_small2_4 W), List.forall_mem_cons.2 ⟨flat_con' (c_small2_p W), List.forall_mem_cons.2 ⟨flat_con' (c_small3_1 W), List.forall_mem_cons.2 ⟨flat_con' (c_small3_2 W), List.forall_mem_cons.2 ⟨flat_con' (c_small3_3 W), List.forall_mem_cons.2 ⟨flat_con' (c_small3_4 W), List.forall_mem_cons.2 ⟨flat_con' (c_small3_5 W), List.forall_mem_cons.2 ⟨flat_con' (c_small3_p W), (fun _ h => by cases h)⟩⟩⟩⟩⟩⟩⟩⟩⟩⟩⟩⟩⟩)
end Go.Proofs.YtlfoglklibhbnaaGreat.Sx
namespace Go.Proofs.YtlfoglklibhbnaaGreat.Sx
open Go.RowKit
theorem low_e (n : Int) : (if 0 < n then IntKind.i64.wrap (0 - n) else n) = low n := rfl
def R_sub2 : AV := (.agg [(.int (.ite (.app 0 0 (.cons (.var 0) (.cons (.var 1) (.cons (.var 2) (.cons (.var 3) .nil))))) (.sub (.var 0) (.var 2)) (.lit 0))), (.int (.ite (.app 0 0 (.cons (.var 0) (.cons (.var 1) (.cons (.var 2) (.cons (.var 3) .nil))))) (.sub (.var 1) (.var 3)) (.lit 0)))])
theorem k_sub2 : acall cx2 20 false 56 [] (argsG [.g 2, .g 2] 0 0) (heapG [.g 2, .g 2] 0) = .leaf (R_sub2, heapG [.g 2, .g 2] 0) := by kernel_rfl
set_option maxHeartbeats 4000000 in
set_option maxRecDepth 20000 in
theorem v_sub2 : ∀ l : List Int, l.length = lenSh [.g 2, .g 2] → Any l → valOf (E.at l) R_sub2 = some (tupleV (resV E 3 l [.g 2] 0 0)) := by
 intro l hl hG
 have h0 : l.length = 4 := hl
 clear hl
 obtain ⟨a0, l1, rfl, h1⟩ := cut1 h0
 clear h0
 obtain ⟨a1, l2, rfl, h2⟩ := cut1 h1
 clear h1
 obtain ⟨a2, l3, rfl, h3⟩ := cut1 h2
 clear h2
 obtain ⟨a3, l4, rfl, h4⟩ := cut1 h3
 clear h3
 obtain rfl := cut0 h4
 clear h4
 simp only [R_sub2, valOf, vals1, valInts, val1, tupleV, resV, valsI, den, bt1, bt2, bt3, bt4, Env.at, E, fb, fi, List.getD_cons_zero, List.getD_cons_succ, List.all_cons, List.all_nil, Bool.and_true, nr', us', ss', nr2, us2, ss2, nr3, us3, ss3, cr2, Bool.and_assoc, Option.map_some, List.all_append, cmps]
 cases h0 : nr a0
 ·simp
 cases h1 : nr a1
 ·simp
 cases h2 : nr a2
 ·simp
 cases h3 : nr a3
 ·simp
 have c0 := nr_b h0
 have c1 := nr_b h1
 have c2 := nr_b h2
 have c3 := nr_b h3
 simp (disch := omega) [wr]
theorem c_sub2 (W : World) : Flat Tryz.prog E W Any 56 [.g 2, .g 2] fun l => tupleV (resV E 3 l [.g 2] 0 0) := flat_val (cx2_ok W) k_sub2 v_sub2
def R_sub3 : AV := (.agg [(.int (.ite (.app 0 0 (.cons (.var 0) (.cons (.var 1) (.cons (.var 2) (.cons (.var 3) (.cons (.var 4) (.cons (.var 5) .nil))))))) (.sub (.var 0) (.var 3)) (.lit 0))), (.int (.ite (.app 0 0 (.cons (.var 0) (.cons (.var 1) (.cons (.var 2) (.cons (.var 3) (.cons (.var 4) (.cons (.var 5) .nil))))))) (.sub (.var 1) (.var 4)) (.lit 0))), (.int (.ite (.app 0 0 (.cons (.var 0) (.cons (.var 1) (.cons (.var 2) (.cons (.var 3) (.cons (.var 4) (.cons (.var 5) .nil))))))) (.sub (.var 2) (.var 5)) (.lit 0)))])
theorem k_sub3 : acall cx2 20 false 133 [] (argsG [.g 3, .g 3] 0 0) (heapG [.g 3, .g 3] 0) = .leaf (R_sub3, heapG [.g 3, .g 3] 0) := by kernel_rfl
set_option maxHeartbeats 4000000 in
set_option maxRecDepth 20000 in
theorem v_sub3 : ∀ l : List Int, l.length = lenSh [.g 3, .g 3] → Any l → valOf (E.at l) R_sub3 = some (tupleV (resV E 4 l [.g 3] 0 0)) := by
 intro l hl hG
 have h0 : l.length = 6 := hl
 clear hl
 obtain ⟨a0, l1, rfl, h1⟩ := cut1 h0
 clear h0
 obtain ⟨a1, l2, rfl, h2⟩ := cut1 h1
 clear h1
 obtain ⟨a2, l3, rfl, h3⟩ := cut1 h2
 clear h2
 obtain ⟨a3, l4, rfl, h4⟩ := cut1 h3
 clear h3
 obtain ⟨a4, l5, rfl, h5⟩ := cut1 h4
 clear h4
 obtain ⟨a5, l6, rfl, h6⟩ := cut1 h5
 clear h5
 obtain rfl := cut0 h6
 clear h6
 simp only [R_sub3, valOf, vals1, valInts, val1, tupleV, resV, valsI, den, bt1, bt2, bt3, bt4, Env.at, E, fb, fi, List.getD_cons_zero, List.getD_cons_succ, List.all_cons, List.all_nil, Bool.and_true, nr', us', ss', nr2, us2, ss2, nr3, us3, ss3, cr2, Bool.and_assoc, Option.map_some, List.all_append, cmps]
 cases h0 : nr a0
 ·simp
 cases h1 : nr a1
 ·simp
 cases h2 : nr a2
 ·simp
 cases h3 : nr a3
 ·simp
 cases h4 : nr a4
 ·simp
 cases h5 : nr a5
 ·simp
 have c0 := nr_b h0
 have c1 := nr_b h1
 have c2 := nr_b h2
 have c3 := nr_b h3
 have c4 := nr_b h4
 have c5 := nr_b h5
 simp (disch := omega) [wr]
theorem c_sub3 (W : World) : Flat Tryz.prog E W Any 133 [.g 3, .g 3] fun l => tupleV (resV E 4 l [.g 3] 0 0) := flat_val (cx2_ok W) k_sub3 v_sub3
def R_cross2 : AV := (.tuple [(.int (.ite (.app 0 0 (.cons (.var 0) (.cons (.var 1) (.cons (.var 2) (.cons (.var 3) .nil))))) (.sub (.mul (.var 0) (.var 3)) (.mul (.var 1) (.var 2))) (.lit 0))), (.int (.ite (.app 0 0 (.cons (.var 0) (.cons (.var 1) (.cons (.var 2) (.cons (.var 3) .nil))))) (.lit 0) (.lit 5)))])
theorem k_cross2 : acall cx2 20 false 55 [] (argsG [.g 2, .g 2] 0 0) (heapG [.g 2, .g 2] 0) = .leaf (R_cross2, heapG [.g 2, .g 2] 0) := by kernel_rfl
set_option maxHeartbeats 4000000 in
set_option maxRecDepth 20000 in
theorem v_cross2 : ∀ l : List Int, l.length = lenSh [.g 2, .g 2] → Any l → valOf (E.at l) R_cross2 = some (tupleV (resV E 5 l [.i, .i] 0 0)) := by
 intro l hl hG
 have h0 : l.length = 4 := hl
 clear hl
 obtain ⟨a0, l1, rfl, h1⟩ := cut1 h0
 clear h0
 obtain ⟨a1, l2, rfl, h2⟩ := cut1 h1
 clear h1
 obtain ⟨a2, l3, rfl, h3⟩ := cut1 h2
 clear h2
 obtain ⟨a3, l4, rfl, h4⟩ := cut1 h3
 clear h3
 obtain rfl := cut0 h4
 clear h4
 simp only [R_cross2, valOf, vals1, valInts, val1, tupleV, resV, valsI, den, bt1, bt2, bt3, bt4, Env.at, E, fb, fi, List.getD_cons_zero, List.getD_cons_succ, List.all_cons, List.all_nil, Bool.and_true, nr', us', ss', nr2, us2, ss2, nr3, us3, ss3, cr2, Bool.and_assoc, Option.map_some, List.all_append, cmps]
 cases h0 : nr a0
 ·simp
 cases h1 : nr a1
 ·simp
 cases h2 : nr a2
 ·simp
 cases h3 : nr a3
 ·simp
 have c0 := nr_b h0
 have c1 := nr_b h1
 have c2 := nr_b h2
 have c3 := nr_b h3
 have m03 := nr_m h0 h3
 have m12 := nr_m h1 h2
 simp (disch := omega) [wr]
theorem c_cross2 (W : World) : Flat Tryz.prog E W Any 55 [.g 2, .g 2] fun l => tupleV (resV E 5 l [.i, .i] 0 0) := flat_val (cx2_ok W) k_cross2 v_cross2
def R_cross3 : AV := (.tuple [(.agg [(.int (.ite (.app 0 0 (.cons (.var 0) (.cons (.var 1) (.cons (.var 2) (.cons (.var 3) (.cons (.var 4) (.cons (.var 5) .nil))))))) (.sub (.mul (.var 1) (.var 5)) (.mul (.var 2) (.var 4))) (.lit 0))), (.int (.ite (.app 0 0 (.cons (.var 0) (.cons (.var 1) (.cons (.var 2) (.cons (.var 3) (.cons (.var 4) (.cons (.var 5) .nil))))))) (.sub (.mul (.var 2) (.var 3)) (.mul (.var 0) (.var 5))) (.lit 0))), (.int (.ite (.app 0 0 (.cons (.var 0) (.cons (.var 1) (.cons (.var 2) (.cons (.var 3) (.cons (.var 4) (.cons (.var 5) .nil))))))) (.sub (.mul (.var 0) (.var 4)) (.mul (.var 1) (.var 3))) (.lit 0)))]), (.int (.ite (.app 0 0 (.cons (.var 0) (.cons (.var 1) (.cons (.var 2) (.cons (.var 3) (.cons (.var 4) (.cons (.var 5) .nil))))))) (.lit 0) (.lit 5)))])
theorem k_cross3 : acall cx2 20 false 132 [] (argsG [.g 3, .g 3] 0 0) (heapG [.g 3, .g 3] 0) = .leaf (R_cross3, heapG [.g 3, .g 3] 0) := by kernel_rfl
set_option maxHeartbeats 4000000 in
set_option maxRecDepth 20000 in
theorem v_cross3 : ∀ l : List Int, l.length = lenSh [.g 3, .g 3] → Any l → valOf (E.at l) R_cross3 = some (tupleV (resV E 6 l [.g 3, .i] 0 0)) := by
 intro l hl hG
 have h0 : l.length = 6 := hl
 clear hl
 obtain ⟨a0, l1, rfl, h1⟩ := cut1 h0
 clear h0
 obtain ⟨a1, l2, rfl, h2⟩ := cut1 h1
 clear h1
 obtain ⟨a2, l3, rfl, h3⟩ := cut1 h2
 clear h2
 obtain ⟨a3, l4, rfl, h4⟩ := cut1 h3
 clear h3
 obtain ⟨a4, l5, rfl, h5⟩ := cut1 h4
 clear h4
 obtain ⟨a5, l6, rfl, h6⟩ := cut1 h5
 clear h5
 obtain rfl := cut0 h6
 clear h6
 simp only [R_cross3, valOf, vals1, valInts, val1, tupleV, resV, valsI, den, bt1, bt2, bt3, bt4, Env.at, E, fb, fi, List.getD_cons_zero, List.getD_cons_succ, List.all_cons, List.all_nil, Bool.and_true, nr', us', ss', nr2, us2, ss2, nr3, us3, ss3, cr2, Bool.and_assoc, Option.map_some, List.all_append, cmps]
 cases h0 : nr a0
 ·simp
 cases h1 : nr a1
 ·simp
 cases h2 : nr a2
 ·simp
 cases h3 : nr a3
 ·simp
 cases h4 : nr a4
 ·simp
 cases h5 : nr a5
 ·simp
 have c0 := nr_b h0
 have c1 := nr_b h1
 have c2 := nr_b h2
 have c3 := nr_b h3
 have c4 := nr_b h4
 have c5 := nr_b h5
 have m15 := nr_m h1 h5
 have m24 := nr_m h2 h4
 have m23 := nr_m h2 h3
 have m05 := nr_m h0 h5
 have m04 := nr_m h0 h4
 have m13 := nr_m h1 h3
 simp (disch := omega) [wr]
theorem c_cross3 (W : World) : Flat Tryz.prog E W Any 132 [.g 3, .g 3] fun l => tupleV (resV E 6 l [.g 3, .i] 0 0) := flat_val (cx2_ok W) k_cross3 v_cross3
def R_axis : AV := (.int (.ite (.ite (.lt (.ite (.lt (.lit 0) (.var 1)) (.sub (.lit 0) (.var 1)) (.var 1)) (.ite (.lt (.lit 0) (.var 0)) (.sub (.lit 0) (.var 0)) (.var 0))) (.lt (.ite (.lt (.lit 0) (.var 2)) (.sub (.lit 0) (.var 2)) (.var 2)) (.ite (.lt (.lit 0) (.var 1)) (.sub (.lit 0) (.var 1)) (.var 1))) (.lt (.ite (.lt (.lit 0) (.var 2)) (.sub (.lit 0) (.var 2)) (.var 2)) (.ite (.lt (.lit 0) (.var 0)) (.sub (.lit 0) (.var 0)) (.var 0)))) (.lit 2) (.ite (.lt (.ite (.lt (.lit 0) (.var 1)) (.sub (.lit 0) (.var 1)) (.var 1)) (.ite (.lt (.lit 0) (.var 0)) (.sub (.lit 0) (.var 0)) (.var 0))) (.lit 1) (.lit 0))))
theorem k_axis : acall cx2 20 false 84 [] (argsG [.g 3] 0 0) (heapG [.g 3] 0) = .leaf (R_axis, heapG [.g 3] 0) := by kernel_rfl
set_option maxHeartbeats 4000000 in
set_option maxRecDepth 20000 in
theorem v_axis : ∀ l : List Int, l.length = lenSh [.g 3] → Any l → valOf (E.at l) R_axis = some (tupleV (resV E 8 l [.i] 0 0)) := by
 intro l hl hG
 have h0 : l.length = 3 := hl
 clear hl
 obtain ⟨a0, l1, rfl, h1⟩ := cut1 h0
 clear h0
 obtain ⟨a1, l2, rfl, h2⟩ := cut1 h1
 clear h1
 obtain ⟨a2, l3, rfl, h3⟩ := cut1 h2
 clear h2
 obtain rfl := cut0 h3
 clear h3
 simp only [R_axis, valOf, val1, tupleV, resV, den, bt1, bt2, bt3, bt4, Env.at, E, fi, List.getD_cons_zero, List.getD_cons_succ, low_e, decide_eq_true_eq]
 unfold axis
 generalize low a0 = x, low a1 = y, low a2 = z
 congr 2
 first | rfl | (split <;> split <;> simp_all <;> omega) | (repeat' split) <;> simp_all <;> omega
theorem c_axis (W : World) : Flat Tryz.prog E W Any 84 [.g 3] fun l => tupleV (resV E 8 l [.i] 0 0) := flat_val (cx2_ok W) k_axis v_axis
noncomputable def cx3 : Cx := ⟨cx2.ty, cx2.fn, [flatCon 56 [.g 2, .g 2] [.g 2] 3 noChk, flatCon 133 [.g 3, .g 3] [.g 3] 4 noChk, flatCon 55 [.g 2, .g 2] [.i, .i] 5 noChk, flatCon 132 [.g 3, .g 3] [.g 3, .i] 6 noChk, flatCon 84 [.g 3] [.i] 8 noChk] ++ cx2.con, cx2.inl, cx2.eqs⟩
theorem cx3_ok (W : World) : ∀ l, Any l → CxOk Tryz.prog (E.at l) W cx3 :=
 cx_more (cx2_ok W) (List.forall_mem_cons.2 ⟨flat_con' (c_sub2 W), List.forall_mem_cons.2 ⟨flat_con' (c_sub3 W), List.forall_mem_cons.2 ⟨flat_con' (c_cross2 W), List.forall_mem_cons.2 ⟨flat_con' (c_cross3 W), List.forall_mem_cons.2 ⟨flat_con' (c_axis W), (fun _ h => by cases h)⟩⟩⟩⟩⟩)
end Go.Proofs.YtlfoglklibhbnaaGreat.Sx
namespace Go.Proofs.YtlfoglklibhbnaaGreat.Sx
open Go.RowKit
def R_area : AV := (.tuple [(.int (.ite (.app 1 0 (.cons (.var 0) (.cons (.var 1) (.cons (.var 2) (.cons (.var 3) (.cons (.var 4) (.cons (.var 5) .nil))))))) (.app 5 0 (.cons (.app 3 0 (.cons (.var 2) (.cons (.var 3) (.cons (.var 0) (.cons (.var 1) .nil))))) (.cons (.app 3 1 (.cons (.var 2) (.cons (.var 3) (.cons (.var 0) (.cons (.var 1) .nil))))) (.cons (.app 3 0 (.cons (.var 4) (.cons (.var 5) (.cons (.var 0) (.cons (.var 1) .nil))))) (.cons (.app 3 1 (.cons (.var 4) (.cons (.var 5) (.cons (.var 0) (.cons (.var 1) .nil))))) .nil))))) (.lit 0))), (.int (.ite (.app 1 0 (.cons (.var 0) (.cons (.var 1) (.cons (.var 2) (.cons (.var 3) (.cons (.var 4) (.cons (.var 5) .nil))))))) (.app 5 1 (.cons (.app 3 0 (.cons (.var 2) (.cons (.var 3) (.cons (.var 0) (.cons (.var 1) .nil))))) (.cons (.app 3 1 (.cons (.var 2) (.cons (.var 3) (.cons (.var 0) (.cons (.var 1) .nil))))) (.cons (.app 3 0 (.cons (.var 4) (.cons (.var 5) (.cons (.var 0) (.cons (.var 1) .nil))))) (.cons (.app 3 1 (.cons (.var 4) (.cons (.var 5) (.cons (.var 0) (.cons (.var 1) .nil))))) .nil))))) (.lit 5)))])
theorem k_area : acall cx3 20 false 12 [] (argsG [.g 2, .g 2, .g 2] 0 0) (heapG [.g 2, .g 2, .g 2] 0) = .leaf (R_area, heapG [.g 2, .g 2, .g 2] 0) := by kernel_rfl
set_option maxHeartbeats 4000000 in
set_option maxRecDepth 20000 in
theorem v_area : ∀ l : List Int, l.length = lenSh [.g 2, .g 2, .g 2] → Any l → valOf (E.at l) R_area = some (tupleV (resV E 10 l [.i, .i] 0 0)) := by
 intro l hl hG
 have h0 : l.length = 6 := hl
 clear hl
 obtain ⟨a0, l1, rfl, h1⟩ := cut1 h0
 clear h0
 obtain ⟨a1, l2, rfl, h2⟩ := cut1 h1
 clear h1
 obtain ⟨a2, l3, rfl, h3⟩ := cut1 h2
 clear h2
 obtain ⟨a3, l4, rfl, h4⟩ := cut1 h3
 clear h3
 obtain ⟨a4, l5, rfl, h5⟩ := cut1 h4
 clear h4
 obtain ⟨a5, l6, rfl, h6⟩ := cut1 h5
 clear h5
 obtain rfl := cut0 h6
 clear h6
 simp only [R_area, valOf, vals1, valInts, val1, tupleV, resV, valsI, den, bt1, bt2, bt3, bt4, Env.at, E, fb, fi, List.getD_cons_zero, List.getD_cons_succ, List.all_cons, List.all_nil, Bool.and_true, nr', us', ss', nr2, us2, ss2, nr3, us3, ss3, cr2, Bool.and_assoc, Option.map_some, List.all_append, cmps]
 cases h0 : us a0
 ·simp
 cases h1 : us a1
 ·simp
 cases h2 : us a2
 ·simp
 cases h3 : us a3
 ·simp
 cases h4 : us a4
 ·simp
 cases h5 : us a5
 ·simp
 have c0 := us_b h0
 have c1 := us_b h1
 have c2 := us_b h2
 have c3 := us_b h3
 have c4 := us_b h4
 have c5 := us_b h5
 have n0 : nr a0 = true := nr_i (by omega)
 have n1 : nr a1 = true := nr_i (by omega)
 have n2 : nr a2 = true := nr_i (by omega)
 have n3 : nr a3 = true := nr_i (by omega)
 have n4 : nr a4 = true := nr_i (by omega)
 have n5 : nr a5 = true := nr_i (by omega)
 have d20 : nr (a2 - a0) = true := nr_i (by omega)
 have d31 : nr (a3 - a1) = true := nr_i (by omega)
 have d40 : nr (a4 - a0) = true := nr_i (by omega)
 have d51 : nr (a5 - a1) = true := nr_i (by omega)
 simp [n0, n1, n2, n3, n4, n5, d20, d31, d40, d51, areaV, cr2]
theorem c_area (W : World) : Flat Tryz.prog E W Any 12 [.g 2, .g 2, .g 2] fun l => tupleV (resV E 10 l [.i, .i] 0 0) := flat_val (cx3_ok W) k_area v_area
def R_side : AV := (.tuple [(.int (.ite (.lt (.ite (.app 1 0 (.cons (.var 0) (.cons (.var 1) (.cons (.var 2) (.cons (.var 3) (.cons (.var 4) (.cons (.var 5) .nil))))))) (.app 5 0 (.cons (.app 3 0 (.cons (.var 2) (.cons (.var 3) (.cons (.var 0) (.cons (.var 1) .nil))))) (.cons (.app 3 1 (.cons (.var 2) (.cons (.var 3) (.cons (.var 0) (.cons (.var 1) .nil))))) (.cons (.app 3 0 (.cons (.var 4) (.cons (.var 5) (.cons (.var 0) (.cons (.var 1) .nil))))) (.cons (.app 3 1 (.cons (.var 4) (.cons (.var 5) (.cons (.var 0) (.cons (.var 1) .nil))))) .nil))))) (.lit 0)) (.lit 0)) (.lit (-1)) (.ite (.lt (.lit 0) (.ite (.app 1 0 (.cons (.var 0) (.cons (.var 1) (.cons (.var 2) (.cons (.var 3) (.cons (.var 4) (.cons (.var 5) .nil))))))) (.app 5 0 (.cons (.app 3 0 (.cons (.var 2) (.cons (.var 3) (.cons (.var 0) (.cons (.var 1) .nil))))) (.cons (.app 3 1 (.cons (.var 2) (.cons (.var 3) (.cons (.var 0) (.cons (.var 1) .nil))))) (.cons (.app 3 0 (.cons (.var 4) (.cons (.var 5) (.cons (.var 0) (.cons (.var 1) .nil))))) (.cons (.app 3 1 (.cons (.var 4) (.cons (.var 5) (.cons (.var 0) (.cons (.var 1) .nil))))) .nil))))) (.lit 0))) (.lit 1) (.lit 0)))), (.int (.ite (.app 1 0 (.cons (.var 0) (.cons (.var 1) (.cons (.var 2) (.cons (.var 3) (.cons (.var 4) (.cons (.var 5) .nil))))))) (.app 5 1 (.cons (.app 3 0 (.cons (.var 2) (.cons (.var 3) (.cons (.var 0) (.cons (.var 1) .nil))))) (.cons (.app 3 1 (.cons (.var 2) (.cons (.var 3) (.cons (.var 0) (.cons (.var 1) .nil))))) (.cons (.app 3 0 (.cons (.var 4) (.cons (.var 5) (.cons (.var 0) (.cons (.var 1) .nil))))) (.cons (.app 3 1 (.cons (.var 4) (.cons (.var 5) (.cons (.var 0) (.cons (.var 1) .nil))))) .nil))))) (.lit 5)))])
theorem k_side : acall cx3 20 false 135 [] (argsG [.g 2, .g 2, .g 2] 0 0) (heapG [.g 2, .g 2, .g 2] 0) = .leaf (R_side, heapG [.g 2, .g 2, .g 2] 0) := by kernel_rfl
set_option maxHeartbeats 4000000 in
set_option maxRecDepth 20000 in
theorem v_side : ∀ l : List Int, l.length = lenSh [.g 2, .g 2, .g 2] → Any l → valOf (E.at l) R_side = some (tupleV (resV E 11 l [.i, .i] 0 0)) := by
 intro l hl hG
 have h0 : l.length = 6 := hl
 clear hl
 obtain ⟨a0, l1, rfl, h1⟩ := cut1 h0
 clear h0
 obtain ⟨a1, l2, rfl, h2⟩ := cut1 h1
 clear h1
 obtain ⟨a2, l3, rfl, h3⟩ := cut1 h2
 clear h2
 obtain ⟨a3, l4, rfl, h4⟩ := cut1 h3
 clear h3
 obtain ⟨a4, l5, rfl, h5⟩ := cut1 h4
 clear h4
 obtain ⟨a5, l6, rfl, h6⟩ := cut1 h5
 clear h5
 obtain rfl := cut0 h6
 clear h6
 simp only [R_side, valOf, vals1, valInts, val1, tupleV, resV, valsI, den, bt1, bt2, bt3, bt4, Env.at, E, fb, fi, List.getD_cons_zero, List.getD_cons_succ, List.all_cons, List.all_nil, Bool.and_true, nr', us', ss', nr2, us2, ss2, nr3, us3, ss3, cr2, Bool.and_assoc, Option.map_some, List.all_append, cmps]
 cases h0 : us a0
 ·simp
 cases h1 : us a1
 ·simp
 cases h2 : us a2
 ·simp
 cases h3 : us a3
 ·simp
 cases h4 : us a4
 ·simp
 cases h5 : us a5
 ·simp
 have c0 := us_b h0
 have c1 := us_b h1
 have c2 := us_b h2
 have c3 := us_b h3
 have c4 := us_b h4
 have c5 := us_b h5
 have n0 : nr a0 = true := nr_i (by omega)
 have n1 : nr a1 = true := nr_i (by omega)
 have n2 : nr a2 = true := nr_i (by omega)
 have n3 : nr a3 = true := nr_i (by omega)
 have n4 : nr a4 = true := nr_i (by omega)
 have n5 : nr a5 = true := nr_i (by omega)
 have d20 : nr (a2 - a0) = true := nr_i (by omega)
 have d31 : nr (a3 - a1) = true := nr_i (by omega)
 have d40 : nr (a4 - a0) = true := nr_i (by omega)
 have d51 : nr (a5 - a1) = true := nr_i (by omega)
 simp [n0, n1, n2, n3, n4, n5, d20, d31, d40, d51, areaV, cr2, sgn]
theorem c_side (W : World) : Flat Tryz.prog E W Any 135 [.g 2, .g 2, .g 2] fun l => tupleV (resV E 11 l [.i, .i] 0 0) := flat_val (cx3_ok W) k_side v_side
def R_normal : AV := (.tuple [(.agg [(.int (.ite (.app 2 0 (.cons (.var 0) (.cons (.var 1) (.cons (.var 2) (.cons (.var 3) (.cons (.var 4) (.cons (.var 5) (.cons (.var 6) (.cons (.var 7) (.cons (.var 8) .nil)))))))))) (.app 6 0 (.cons (.app 4 0 (.cons (.var 3) (.cons (.var 4) (.cons (.var 5) (.cons (.var 0) (.cons (.var 1) (.cons (.var 2) .nil))))))) (.cons (.app 4 1 (.cons (.var 3) (.cons (.var 4) (.cons (.var 5) (.cons (.var 0) (.cons (.var 1) (.cons (.var 2) .nil))))))) (.cons (.app 4 2 (.cons (.var 3) (.cons (.var 4) (.cons (.var 5) (.cons (.var 0) (.cons (.var 1) (.cons (.var 2) .nil))))))) (.cons (.app 4 0 (.cons (.var 6) (.cons (.var 7) (.cons (.var 8) (.cons (.var 0) (.cons (.var 1) (.cons (.var 2) .nil))))))) (.cons (.app 4 1 (.cons (.var 6) (.cons (.var 7) (.cons (.var 8) (.cons (.var 0) (.cons (.var 1) (.cons (.var 2) .nil))))))) (.cons (.app 4 2 (.cons (.var 6) (.cons (.var 7) (.cons (.var 8) (.cons (.var 0) (.cons (.var 1) (.cons (.var 2) .nil))))))) .nil))))))) (.lit 0))), (.int (.ite (.app 2 0 (.cons (.var 0) (.cons (.var 1) (.cons (.var 2) (.cons (.var 3) (.cons (.var 4) (.cons (.var 5) (.cons (.var 6) (.cons (.var 7) (.cons (.var 8) .nil)))))))))) (.app 6 1 (.cons (.app 4 0 (.cons (.var 3) (.cons (.var 4) (.cons (.var 5) (.cons (.var 0) (.cons (.var 1) (.cons (.var 2) .nil))))))) (.cons (.app 4 1 (.cons (.var 3) (.cons (.var 4) (.cons (.var 5) (.cons (.var 0) (.cons (.var 1) (.cons (.var 2) .nil))))))) (.cons (.app 4 2 (.cons (.var 3) (.cons (.var 4) (.cons (.var 5) (.cons (.var 0) (.cons (.var 1) (.cons (.var 2) .nil))))))) (.cons (.app 4 0 (.cons (.var 6) (.cons (.var 7) (.cons (.var 8) (.cons (.var 0) (.cons (.var 1) (.cons (.var 2) .nil))))))) (.cons (.app 4 1 (.cons (.var 6) (.cons (.var 7) (.cons (.var 8) (.cons (.var 0) (.cons (.var 1) (.cons (.var 2) .nil))))))) (.cons (.app 4 2 (.cons (.var 6) (.cons (.var 7) (.cons (.var 8) (.cons (.var 0) (.cons (.var 1) (.cons (.var 2) .nil))))))) .nil))))))) (.lit 0))), (.int (.ite (.app 2 0 (.cons (.var 0) (.cons (.var 1) (.cons (.var 2) (.cons (.var 3) (.cons (.var 4) (.cons (.var 5) (.cons (.var 6) (.cons (.var 7) (.cons (.var 8) .nil)))))))))) (.app 6 2 (.cons (.app 4 0 (.cons (.var 3) (.cons (.var 4) (.cons (.var 5) (.cons (.var 0) (.cons (.var 1) (.cons (.var 2) .nil))))))) (.cons (.app 4 1 (.cons (.var 3) (.cons (.var 4) (.cons (.var 5) (.cons (.var 0) (.cons (.var 1) (.cons (.var 2) .nil))))))) (.cons (.app 4 2 (.cons (.var 3) (.cons (.var 4) (.cons (.var 5) (.cons (.var 0) (.cons (.var 1) (.cons (.var 2) .nil))))))) (.cons (.app 4 0 (.cons (.var 6) (.cons (.var 7) (.cons (.var 8) (.cons (.var 0) (.cons (.var 1) (.cons (.var 2) .nil))))))) (.cons (.app 4 1 (.cons (.var 6) (.cons (.var 7) (.cons (.var 8) (.cons (.var 0) (.cons (.var 1) (.cons (.var 2) .nil))))))) (.cons (.app 4 2 (.cons (.var 6) (.cons (.var 7) (.cons (.var 8) (.cons (.var 0) (.cons (.var 1) (.cons (.var 2) .nil))))))) .nil))))))) (.lit 0)))]), (.int (.ite (.app 2 0 (.cons (.var 0) (.cons (.var 1) (.cons (.var 2) (.cons (.var 3) (.cons (.var 4) (.cons (.var 5) (.cons (.var 6) (.cons (.var 7) (.cons (.var 8) .nil)))))))))) (.app 6 3 (.cons (.app 4 0 (.cons (.var 3) (.cons (.var 4) (.cons (.var 5) (.cons (.var 0) (.cons (.var 1) (.cons (.var 2) .nil))))))) (.cons (.app 4 1 (.cons (.var 3) (.cons (.var 4) (.cons (.var 5) (.cons (.var 0) (.cons (.var 1) (.cons (.var 2) .nil))))))) (.cons (.app 4 2 (.cons (.var 3) (.cons (.var 4) (.cons (.var 5) (.cons (.var 0) (.cons (.var 1) (.cons (.var 2) .nil))))))) (.cons (.app 4 0 (.cons (.var 6) (.cons (.var 7) (.cons (.var 8) (.cons (.var 0) (.cons (.var 1) (.cons (.var 2) .nil))))))) (.cons (.app 4 1 (.cons (.var 6) (.cons (.var 7) (.cons (.var 8) (.cons (.var 0) (.cons (.var 1) (.cons (.var 2) .nil))))))) (.cons (.app 4 2 (.cons (.var 6) (.cons (.var 7) (.cons (.var 8) (.cons (.var 0) (.cons (.var 1) (.cons (.var 2) .nil))))))) .nil))))))) (.lit 5)))])
theorem k_normal : acall cx3 20 false 83 [] (argsG [.g 3, .g 3, .g 3] 0 0) (heapG [.g 3, .g 3, .g 3] 0) = .leaf (R_normal, heapG [.g 3, .g 3, .g 3] 0) := by kernel_rfl
set_option maxHeartbeats 4000000 in
set_option maxRecDepth 20000 in
theorem v_normal : ∀ l : List Int, l.length = lenSh [.g 3, .g 3, .g 3] → Any l → valOf (E.at l) R_normal = some (tupleV (resV E 12 l [.g 3, .i] 0 0)) := by
 intro l hl hG
 have h0 : l.length = 9 := hl
 clear hl
 obtain ⟨a0, l1, rfl, h1⟩ := cut1 h0
 clear h0
 obtain ⟨a1, l2, rfl, h2⟩ := cut1 h1
 clear h1
 obtain ⟨a2, l3, rfl, h3⟩ := cut1 h2
 clear h2
 obtain ⟨a3, l4, rfl, h4⟩ := cut1 h3
 clear h3
 obtain ⟨a4, l5, rfl, h5⟩ := cut1 h4
 clear h4
 obtain ⟨a5, l6, rfl, h6⟩ := cut1 h5
 clear h5
 obtain ⟨a6, l7, rfl, h7⟩ := cut1 h6
 clear h6
 obtain ⟨a7, l8, rfl, h8⟩ := cut1 h7
 clear h7
 obtain ⟨a8, l9, rfl, h9⟩ := cut1 h8
 clear h8
 obtain rfl := cut0 h9
 clear h9
 simp only [R_normal, valOf, vals1, valInts, val1, tupleV, resV, valsI, den, bt1, bt2, bt3, bt4, Env.at, E, fb, fi, List.getD_cons_zero, List.getD_cons_succ, List.all_cons, List.all_nil, Bool.and_true, nr', us', ss', nr2, us2, ss2, nr3, us3, ss3, cr2, Bool.and_assoc, Option.map_some, List.all_append, cmps]
 cases h0 : ss a0
 ·simp
 cases h1 : ss a1
 ·simp
 cases h2 : ss a2
 ·simp
 cases h3 : ss a3
 ·simp
 cases h4 : ss a4
 ·simp
 cases h5 : ss a5
 ·simp
 cases h6 : ss a6
 ·simp
 cases h7 : ss a7
 ·simp
 cases h8 : ss a8
 ·simp
 have c0 := ss_b h0
 have c1 := ss_b h1
 have c2 := ss_b h2
 have c3 := ss_b h3
 have c4 := ss_b h4
 have c5 := ss_b h5
 have c6 := ss_b h6
 have c7 := ss_b h7
 have c8 := ss_b h8
 have n0 : nr a0 = true := nr_i (by omega)
 have n1 : nr a1 = true := nr_i (by omega)
 have n2 : nr a2 = true := nr_i (by omega)
 have n3 : nr a3 = true := nr_i (by omega)
 have n4 : nr a4 = true := nr_i (by omega)
 have n5 : nr a5 = true := nr_i (by omega)
 have n6 : nr a6 = true := nr_i (by omega)
 have n7 : nr a7 = true := nr_i (by omega)
 have n8 : nr a8 = true := nr_i (by omega)
 have d30 : nr (a3 - a0) = true := nr_i (by omega)
 have d41 : nr (a4 - a1) = true := nr_i (by omega)
 have d52 : nr (a5 - a2) = true := nr_i (by omega)
 have d60 : nr (a6 - a0) = true := nr_i (by omega)
 have d71 : nr (a7 - a1) = true := nr_i (by omega)
 have d82 : nr (a8 - a2) = true := nr_i (by omega)
 simp [n0, n1, n2, n3, n4, n5, n6, n7, n8, d30, d41, d52, d60, d71, d82, nx, ny, nz, cr2]
theorem c_normal (W : World) : Flat Tryz.prog E W Any 83 [.g 3, .g 3, .g 3] fun l => tupleV (resV E 12 l [.g 3, .i] 0 0) := flat_val (cx3_ok W) k_normal v_normal
noncomputable def cx4 : Cx := ⟨cx3.ty, cx3.fn, [flatCon 12 [.g 2, .g 2, .g 2] [.i, .i] 10 noChk, flatCon 135 [.g 2, .g 2, .g 2] [.i, .i] 11 noChk, flatCon 83 [.g 3, .g 3, .g 3] [.g 3, .i] 12 noChk] ++ cx3.con, cx3.inl, cx3.eqs⟩
theorem cx4_ok (W : World) : ∀ l, Any l → CxOk Tryz.prog (E.at l) W cx4 :=
 cx_more (cx3_ok W) (List.forall_mem_cons.2 ⟨flat_con' (c_area W), List.forall_mem_cons.2 ⟨flat_con' (c_side W), List.forall_mem_cons.2 ⟨flat_con' (c_normal W), (fun _ h => by cases h)⟩⟩⟩)
end Go.Proofs.YtlfoglklibhbnaaGreat.Sx
namespace Go.Proofs.YtlfoglklibhbnaaGreat.Sx
open Go.RowKit
theorem axis_012 (x y z : Int) : axis x y z = 0 ∨ axis x y z = 1 ∨ axis x y z = 2 := by
 unfold axis; (repeat' split) <;> simp
def R_facing : Tree (AV × Hp) := (.node (.ite (.eq (.app 12 3 (.cons (.var 0) (.cons (.var 1) (.cons (.var 2) (.cons (.var 3) (.cons (.var 4) (.cons (.var 5) (.cons (.var 6) (.cons (.var 7) (.cons (.var 8) .nil)))))))))) (.lit 0)) (.ite (.ite (.eq (.app 12 0 (.cons (.var 0) (.cons (.var 1) (.cons (.var 2) (.cons (.var 3) (.cons (.var 4) (.cons (.var 5) (.cons (.var 6) (.cons (.var 7) (.cons (.var 8) .nil)))))))))) (.lit 0)) (.ite (.eq (.app 12 1 (.cons (.var 0) (.cons (.var 1) (.cons (.var 2) (.cons (.var 3) (.cons (.var 4) (.cons (.var 5) (.cons (.var 6) (.cons (.var 7) (.cons (.var 8) .nil)))))))))) (.lit 0)) (.eq (.app 12 2 (.cons (.var 0) (.cons (.var 1) (.cons (.var 2) (.cons (.var 3) (.cons (.var 4) (.cons (.var 5) (.cons (.var 6) (.cons (.var 7) (.cons (.var 8) .nil)))))))))) (.lit 0)) (.blit false)) (.blit false)) (.blit true) (.ite (.eq (.app 8 0 (.cons (.app 12 0 (.cons (.var 0) (.cons (.var 1) (.cons (.var 2) (.cons (.var 3) (.cons (.var 4) (.cons (.var 5) (.cons (.var 6) (.cons (.var 7) (.cons (.var 8) .nil)))))))))) (.cons (.app 12 1 (.cons (.var 0) (.cons (.var 1) (.cons (.var 2) (.cons (.var 3) (.cons (.var 4) (.cons (.var 5) (.cons (.var 6) (.cons (.var 7) (.cons (.var 8) .nil)))))))))) (.cons (.app 12 2 (.cons (.var 0) (.cons (.var 1) (.cons (.var 2) (.cons (.var 3) (.cons (.var 4) (.cons (.var 5) (.cons (.var 6) (.cons (.var 7) (.cons (.var 8) .nil)))))))))) .nil)))) (.lit 0)) (.blit true) (.ite (.eq (.app 8 0 (.cons (.app 12 0 (.cons (.var 0) (.cons (.var 1) (.cons (.var 2) (.cons (.var 3) (.cons (.var 4) (.cons (.var 5) (.cons (.var 6) (.cons (.var 7) (.cons (.var 8) .nil)))))))))) (.cons (.app 12 1 (.cons (.var 0) (.cons (.var 1) (.cons (.var 2) (.cons (.var 3) (.cons (.var 4) (.cons (.var 5) (.cons (.var 6) (.cons (.var 7) (.cons (.var 8) .nil)))))))))) (.cons (.app 12 2 (.cons (.var 0) (.cons (.var 1) (.cons (.var 2) (.cons (.var 3) (.cons (.var 4) (.cons (.var 5) (.cons (.var 6) (.cons (.var 7) (.cons (.var 8) .nil)))))))))) .nil)))) (.lit 1)) (.blit true) (.eq (.app 8 0 (.cons (.app 12 0 (.cons (.var 0) (.cons (.var 1) (.cons (.var 2) (.cons (.var 3) (.cons (.var 4) (.cons (.var 5) (.cons (.var 6) (.cons (.var 7) (.cons (.var 8) .nil)))))))))) (.cons (.app 12 1 (.cons (.var 0) (.cons (.var 1) (.cons (.var 2) (.cons (.var 3) (.cons (.var 4) (.cons (.var 5) (.cons (.var 6) (.cons (.var 7) (.cons (.var 8) .nil)))))))))) (.cons (.app 12 2 (.cons (.var 0) (.cons (.var 1) (.cons (.var 2) (.cons (.var 3) (.cons (.var 4) (.cons (.var 5) (.cons (.var 6) (.cons (.var 7) (.cons (.var 8) .nil)))))))))) .nil)))) (.lit 2))))) (.blit true)) (.leaf ((.tuple [(.int (.ite (.eq (.app 12 3 (.cons (.var 0) (.cons (.var 1) (.cons (.var 2) (.cons (.var 3) (.cons (.var 4) (.cons (.var 5) (.cons (.var 6) (.cons (.var 7) (.cons (.var 8) .nil)))))))))) (.lit 0)) (.ite (.ite (.eq (.app 12 0 (.cons (.var 0) (.cons (.var 1) (.cons (.var 2) (.cons (.var 3) (.cons (.var 4) (.cons (.var 5) (.cons (.var 6) (.cons (.var 7) (.cons (.var 8) .nil)))))))))) (.lit 0)) (.ite (.eq (.app 12 1 (.cons (.var 0) (.cons (.var 1) (.cons (.var 2) (.cons (.var 3) (.cons (.var 4) (.cons (.var 5) (.cons (.var 6) (.cons (.var 7) (.cons (.var 8) .nil)))))))))) (.lit 0)) (.eq (.app 12 2 (.cons (.var 0) (.cons (.var 1) (.cons (.var 2) (.cons (.var 3) (.cons (.var 4) (.cons (.var 5) (.cons (.var 6) (.cons (.var 7) (.cons (.var 8) .nil)))))))))) (.lit 0)) (.blit false)) (.blit false)) (.lit 0) (.app 8 0 (.cons (.app 12 0 (.cons (.var 0) (.cons (.var 1) (.cons (.var 2) (.cons (.var 3) (.cons (.var 4) (.cons (.var 5) (.cons (.var 6) (.cons (.var 7) (.cons (.var 8) .nil)))))))))) (.cons (.app 12 1 (.cons (.var 0) (.cons (.var 1) (.cons (.var 2) (.cons (.var 3) (.cons (.var 4) (.cons (.var 5) (.cons (.var 6) (.cons (.var 7) (.cons (.var 8) .nil)))))))))) (.cons (.app 12 2 (.cons (.var 0) (.cons (.var 1) (.cons (.var 2) (.cons (.var 3) (.cons (.var 4) (.cons (.var 5) (.cons (.var 6) (.cons (.var 7) (.cons (.var 8) .nil)))))))))) .nil))))) (.lit 0))), (.int (.ite (.eq (.app 12 3 (.cons (.var 0) (.cons (.var 1) (.cons (.var 2) (.cons (.var 3) (.cons (.var 4) (.cons (.var 5) (.cons (.var 6) (.cons (.var 7) (.cons (.var 8) .nil)))))))))) (.lit 0)) (.ite (.ite (.eq (.app 12 0 (.cons (.var 0) (.cons (.var 1) (.cons (.var 2) (.cons (.var 3) (.cons (.var 4) (.cons (.var 5) (.cons (.var 6) (.cons (.var 7) (.cons (.var 8) .nil)))))))))) (.lit 0)) (.ite (.eq (.app 12 1 (.cons (.var 0) (.cons (.var 1) (.cons (.var 2) (.cons (.var 3) (.cons (.var 4) (.cons (.var 5) (.cons (.var 6) (.cons (.var 7) (.cons (.var 8) .nil)))))))))) (.lit 0)) (.eq (.app 12 2 (.cons (.var 0) (.cons (.var 1) (.cons (.var 2) (.cons (.var 3) (.cons (.var 4) (.cons (.var 5) (.cons (.var 6) (.cons (.var 7) (.cons (.var 8) .nil)))))))))) (.lit 0)) (.blit false)) (.blit false)) (.lit 0) (.ite (.eq (.app 8 0 (.cons (.app 12 0 (.cons (.var 0) (.cons (.var 1) (.cons (.var 2) (.cons (.var 3) (.cons (.var 4) (.cons (.var 5) (.cons (.var 6) (.cons (.var 7) (.cons (.var 8) .nil)))))))))) (.cons (.app 12 1 (.cons (.var 0) (.cons (.var 1) (.cons (.var 2) (.cons (.var 3) (.cons (.var 4) (.cons (.var 5) (.cons (.var 6) (.cons (.var 7) (.cons (.var 8) .nil)))))))))) (.cons (.app 12 2 (.cons (.var 0) (.cons (.var 1) (.cons (.var 2) (.cons (.var 3) (.cons (.var 4) (.cons (.var 5) (.cons (.var 6) (.cons (.var 7) (.cons (.var 8) .nil)))))))))) .nil)))) (.lit 0)) (.ite (.lt (.app 12 0 (.cons (.var 0) (.cons (.var 1) (.cons (.var 2) (.cons (.var 3) (.cons (.var 4) (.cons (.var 5) (.cons (.var 6) (.cons (.var 7) (.cons (.var 8) .nil)))))))))) (.lit 0)) (.lit (-1)) (.ite (.lt (.lit 0) (.app 12 0 (.cons (.var 0) (.cons (.var 1) (.cons (.var 2) (.cons (.var 3) (.cons (.var 4) (.cons (.var 5) (.cons (.var 6) (.cons (.var 7) (.cons (.var 8) .nil))))))))))) (.lit 1) (.lit 0))) (.ite (.eq (.app 8 0 (.cons (.app 12 0 (.cons (.var 0) (.cons (.var 1) (.cons (.var 2) (.cons (.var 3) (.cons (.var 4) (.cons (.var 5) (.cons (.var 6) (.cons (.var 7) (.cons (.var 8) .nil)))))))))) (.cons (.app 12 1 (.cons (.var 0) (.cons (.var 1) (.cons (.var 2) (.cons (.var 3) (.cons (.var 4) (.cons (.var 5) (.cons (.var 6) (.cons (.var 7) (.cons (.var 8) .nil)))))))))) (.cons (.app 12 2 (.cons (.var 0) (.cons (.var 1) (.cons (.var 2) (.cons (.var 3) (.cons (.var 4) (.cons (.var 5) (.cons (.var 6) (.cons (.var 7) (.cons (.var 8) .nil)))))))))) .nil)))) (.lit 1)) (.ite (.lt (.app 12 1 (.cons (.var 0) (.cons (.var 1) (.cons (.var 2) (.cons (.var 3) (.cons (.var 4) (.cons (.var 5) (.cons (.var 6) (.cons (.var 7) (.cons (.var 8) .nil)))))))))) (.lit 0)) (.lit (-1)) (.ite (.lt (.lit 0) (.app 12 1 (.cons (.var 0) (.cons (.var 1) (.cons (.var 2) (.cons (.var 3) (.cons (.var 4) (.cons (.var 5) (.cons (.var 6) (.cons (.var 7) (.cons (.var 8) .nil))))))))))) (.lit 1) (.lit 0))) (.ite (.lt (.app 12 2 (.cons (.var 0) (.cons (.var 1) (.cons (.var 2) (.cons (.var 3) (.cons (.var 4) (.cons (.var 5) (.cons (.var 6) (.cons (.var 7) (.cons (.var 8) .nil)))))))))) (.lit 0)) (.lit (-1)) (.ite (.lt (.lit 0) (.app 12 2 (.cons (.var 0) (.cons (.var 1) (.cons (.var 2) (.cons (.var 3) (.cons (.var 4) (.cons (.var 5) (.cons (.var 6) (.cons (.var 7) (.cons (.var 8) .nil))))))))))) (.lit 1) (.lit 0)))))) (.lit 0))), (.int (.ite (.eq (.app 12 3 (.cons (.var 0) (.cons (.var 1) (.cons (.var 2) (.cons (.var 3) (.cons (.var 4) (.cons (.var 5) (.cons (.var 6) (.cons (.var 7) (.cons (.var 8) .nil)))))))))) (.lit 0)) (.ite (.ite (.eq (.app 12 0 (.cons (.var 0) (.cons (.var 1) (.cons (.var 2) (.cons (.var 3) (.cons (.var 4) (.cons (.var 5) (.cons (.var 6) (.cons (.var 7) (.cons (.var 8) .nil)))))))))) (.lit 0)) (.ite (.eq (.app 12 1 (.cons (.var 0) (.cons (.var 1) (.cons (.var 2) (.cons (.var 3) (.cons (.var 4) (.cons (.var 5) (.cons (.var 6) (.cons (.var 7) (.cons (.var 8) .nil)))))))))) (.lit 0)) (.eq (.app 12 2 (.cons (.var 0) (.cons (.var 1) (.cons (.var 2) (.cons (.var 3) (.cons (.var 4) (.cons (.var 5) (.cons (.var 6) (.cons (.var 7) (.cons (.var 8) .nil)))))))))) (.lit 0)) (.blit false)) (.blit false)) (.lit 3) (.lit 0)) (.app 12 3 (.cons (.var 0) (.cons (.var 1) (.cons (.var 2) (.cons (.var 3) (.cons (.var 4) (.cons (.var 5) (.cons (.var 6) (.cons (.var 7) (.cons (.var 8) .nil))))))))))))]), [])) (.fail ))
theorem k_facing : acall cx4 20 false 52 [] (argsG [.g 3, .g 3, .g 3] 0 0) (heapG [.g 3, .g 3, .g 3] 0) = R_facing := by kernel_rfl
set_option maxHeartbeats 4000000 in
set_option maxRecDepth 20000 in
theorem v_facing : ∀ l : List Int, l.length = lenSh [.g 3, .g 3, .g 3] → Any l → ((R_facing.map fun r => valOf (E.at l) r.1).sel (E.at l)) = some (some (tupleV (resV E 14 l [.i, .i, .i] 0 0))) := by
 intro l hl hG
 have h0 : l.length = 9 := hl
 clear hl
 obtain ⟨a0, l1, rfl, h1⟩ := cut1 h0
 clear h0
 obtain ⟨a1, l2, rfl, h2⟩ := cut1 h1
 clear h1
 obtain ⟨a2, l3, rfl, h3⟩ := cut1 h2
 clear h2
 obtain ⟨a3, l4, rfl, h4⟩ := cut1 h3
 clear h3
 obtain ⟨a4, l5, rfl, h5⟩ := cut1 h4
 clear h4
 obtain ⟨a5, l6, rfl, h6⟩ := cut1 h5
 clear h5
 obtain ⟨a6, l7, rfl, h7⟩ := cut1 h6
 clear h6
 obtain ⟨a7, l8, rfl, h8⟩ := cut1 h7
 clear h7
 obtain ⟨a8, l9, rfl, h9⟩ := cut1 h8
 clear h8
 obtain rfl := cut0 h9
 clear h9
 simp only [R_facing, Tree.map, Tree.sel, Env.b, Env.i, valOf, vals1, valInts, val1, tupleV, resV, valsI, den, bt1, bt2, bt3, bt4, Env.at, E, fb, fi, List.getD_cons_zero, List.getD_cons_succ, List.all_cons, List.all_nil, Bool.and_true, nr', us', ss', nr2, us2, ss2, nr3, us3, ss3, nx, ny, nz, volV, Bool.and_assoc, Option.map_some, List.all_append, cmps, flat0, faceA, faceS]
 cases h0 : ss a0
 ·simp
 cases h1 : ss a1
 ·simp
 cases h2 : ss a2
 ·simp
 cases h3 : ss a3
 ·simp
 cases h4 : ss a4
 ·simp
 cases h5 : ss a5
 ·simp
 cases h6 : ss a6
 ·simp
 cases h7 : ss a7
 ·simp
 cases h8 : ss a8
 ·simp
 generalize cr2 (a4 - a1) (a5 - a2) (a7 - a1) (a8 - a2) = X, cr2 (a5 - a2) (a3 - a0) (a8 - a2) (a6 - a0) = Y, cr2 (a3 - a0) (a4 - a1) (a6 - a0) (a7 - a1) = Z
 cases hz : (X == 0 && (Y == 0 && Z == 0))
 ·have hz' : X = 0 → Y = 0 → ¬ Z = 0 := by simpa using hz
  rcases axis_012 X Y Z with e | e | e <;> (simp [e, sgn]; grind)
 ·have hz' : X = 0 ∧ Y = 0 ∧ Z = 0 := by simpa using hz
  obtain ⟨rfl, rfl, rfl⟩ := hz'
  simp
theorem c_facing (W : World) : Flat Tryz.prog E W Any 52 [.g 3, .g 3, .g 3] fun l => tupleV (resV E 14 l [.i, .i, .i] 0 0) := flat_sel (cx4_ok W) k_facing v_facing
noncomputable def cx5 : Cx := ⟨cx4.ty, cx4.fn, [flatCon 52 [.g 3, .g 3, .g 3] [.i, .i, .i] 14 noChk] ++ cx4.con, cx4.inl, cx4.eqs⟩
theorem cx5_ok (W : World) : ∀ l, Any l → CxOk Tryz.prog (E.at l) W cx5 :=
 cx_more (cx4_ok W) (List.forall_mem_cons.2 ⟨flat_con' (c_facing W), (fun _ h => by cases h)⟩)
end Go.Proofs.YtlfoglklibhbnaaGreat.Sx
namespace Go.Proofs.YtlfoglklibhbnaaGreat.Sx
open Go.RowKit
def R_right10 : AV := (.bool (.ite (.eq (.app 10 1 (.cons (.var 0) (.cons (.var 1) (.cons (.var 2) (.cons (.var 3) (.cons (.var 4) (.cons (.var 5) .nil))))))) (.lit 0)) (.no (.eq (.app 10 0 (.cons (.var 0) (.cons (.var 1) (.cons (.var 2) (.cons (.var 3) (.cons (.var 4) (.cons (.var 5) .nil))))))) (.lit 0))) (.blit false)))
theorem k_right10 : acall cx5 20 false 32 [] (argsG [.g 6] 0 0) (heapG [.g 6] 0) = .leaf (R_right10, heapG [.g 6] 0) := by kernel_rfl
set_option maxHeartbeats 4000000 in
set_option maxRecDepth 20000 in
theorem v_right10 : ∀ l : List Int, l.length = lenSh [.g 6] → Any l → valOf (E.at l) R_right10 = some (tupleV (resV E 56 l [.b] 0 0)) := by
 intro l hl hG
 have h0 : l.length = 6 := hl
 clear hl
 obtain ⟨a0, l1, rfl, h1⟩ := cut1 h0
 clear h0
 obtain ⟨a1, l2, rfl, h2⟩ := cut1 h1
 clear h1
 obtain ⟨a2, l3, rfl, h3⟩ := cut1 h2
 clear h2
 obtain ⟨a3, l4, rfl, h4⟩ := cut1 h3
 clear h3
 obtain ⟨a4, l5, rfl, h5⟩ := cut1 h4
 clear h4
 obtain ⟨a5, l6, rfl, h6⟩ := cut1 h5
 clear h5
 obtain rfl := cut0 h6
 clear h6
 simp only [R_right10, valOf, vals1, valInts, val1, tupleV, resV, valsI, den, bt1, bt2, bt3, bt4, Env.at, E, fb, fi, List.getD_cons_zero, List.getD_cons_succ, List.all_cons, List.all_nil, Bool.and_true, nr', us', ss', nr2, us2, ss2, nr3, us3, ss3, cr2, Bool.and_assoc, Option.map_some, List.all_append, cmps]
 unfold rgt
 simp only [List.all_cons, List.all_nil, Bool.and_true]
 cases h : (us a0 && (us a1 && (us a2 && (us a3 && (us a4 && us a5)))))
 ·simp
 ·simp
theorem c_right10 (W : World) : Flat Tryz.prog E W Any 32 [.g 6] fun l => tupleV (resV E 56 l [.b] 0 0) := flat_val (cx5_ok W) k_right10 v_right10
noncomputable def cm1 : Cx := ⟨cx5.ty, cx5.fn, [flatCon 32 [.g 6] [.b] 56 noChk] ++ cx5.con, cx5.inl, cx5.eqs⟩
theorem cm1_ok (W : World) : ∀ l, Any l → CxOk Tryz.prog (E.at l) W cm1 :=
 cx_more (cx5_ok W) (List.forall_mem_cons.2 ⟨flat_con' (c_right10 W), (fun _ h => by cases h)⟩)
end Go.Proofs.YtlfoglklibhbnaaGreat.Sx
