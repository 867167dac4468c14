/- Parts of the proof of TopPoint. No condition of their own. -/
import Derived.Test.YtlfoglklibhbnaaGreatTpY
import Derived.KernelRfl
set_option linter.unusedVariables false
set_option linter.unusedSimpArgs false
namespace Go.Proofs.YtlfoglklibhbnaaGreat.Sx
open Go.RowKit
theorem mxE (a b : Int) : (if decide (a < b) = true then b else a) = max a b := by
 simp only [decide_eq_true_eq]; split <;> omega
end Go.Proofs.YtlfoglklibhbnaaGreat.Sx
namespace Go.Proofs.YtlfoglklibhbnaaGreat.Sx
noncomputable def cm3 : Cx := cm2
theorem cm3_ok (W : World) : ∀ l, Any l → CxOk Tryz.prog (E.at l) W cm3 := cm2_ok W
end Go.Proofs.YtlfoglklibhbnaaGreat.Sx
namespace Go.Proofs.YtlfoglklibhbnaaGreat.Sx
open Go.RowKit
theorem mnE (a b : Int) : (if decide (b < a) = true then b else a) = min a b := by
 simp only [decide_eq_true_eq]; split <;> omega
theorem ltle (a b : Int) : decide (a < b) = !decide (b ≤ a) := by
 rw [Bool.eq_iff_iff]; simp
def R_overlap : AV := (.tuple [(.bool (.ite (.ite (.app 56 0 (.cons (.var 0) (.cons (.var 1) (.cons (.var 2) (.cons (.var 3) (.cons (.var 4) (.cons (.var 5) .nil))))))) (.no (.app 56 0 (.cons (.var 6) (.cons (.var 7) (.cons (.var 8) (.cons (.var 9) (.cons (.var 10) (.cons (.var 11) .nil)))))))) (.blit true)) (.blit false) (.ite (.app 58 0 (.cons (.var 0) (.cons (.var 1) (.cons (.var 2) (.cons (.var 3) (.cons (.var 4) (.cons (.var 5) (.cons (.lit 1) (.cons (.var 6) (.cons (.var 7) (.cons (.var 8) (.cons (.var 9) (.cons (.var 10) (.cons (.var 11) .nil)))))))))))))) (.blit false) (.no (.app 58 0 (.cons (.var 6) (.cons (.var 7) (.cons (.var 8) (.cons (.var 9) (.cons (.var 10) (.cons (.var 11) (.cons (.lit 1) (.cons (.var 0) (.cons (.var 1) (.cons (.var 2) (.cons (.var 3) (.cons (.var 4) (.cons (.var 5) .nil)))))))))))))))))), (.int (.ite (.ite (.app 56 0 (.cons (.var 0) (.cons (.var 1) (.cons (.var 2) (.cons (.var 3) (.cons (.var 4) (.cons (.var 5) .nil))))))) (.no (.app 56 0 (.cons (.var 6) (.cons (.var 7) (.cons (.var 8) (.cons (.var 9) (.cons (.var 10) (.cons (.var 11) .nil)))))))) (.blit true)) (.lit 1) (.lit 0)))])
theorem k_overlap : acall cm3 20 false 67 [] (argsG [.g 6, .g 6] 0 0) (heapG [.g 6, .g 6] 0) = .leaf (R_overlap, heapG [.g 6, .g 6] 0) := by kernel_rfl
set_option maxHeartbeats 4000000 in
set_option maxRecDepth 20000 in
theorem v_overlap : ∀ l : List Int, l.length = lenSh [.g 6, .g 6] → Any l → valOf (E.at l) R_overlap = some (tupleV (resV E 59 l [.b, .i] 0 0)) := by
 intro l hl hG
 have h0 : l.length = 12 := hl
 clear hl
 obtain ⟨a0, l1, rfl, h1⟩ := cut1 h0
 clear h0
 obtain ⟨a1, l2, rfl, h2⟩ := cut1 h1
 clear h1
 obtain ⟨a2, l3, rfl, h3⟩ := cut1 h2
 clear h2
 obtain ⟨a3, l4, rfl, h4⟩ := cut1 h3
 clear h3
 obtain ⟨a4, l5, rfl, h5⟩ := cut1 h4
 clear h4
 obtain ⟨a5, l6, rfl, h6⟩ := cut1 h5
 clear h5
 obtain ⟨a6, l7, rfl, h7⟩ := cut1 h6
 clear h6
 obtain ⟨a7, l8, rfl, h8⟩ := cut1 h7
 clear h7
 obtain ⟨a8, l9, rfl, h9⟩ := cut1 h8
 clear h8
 obtain ⟨a9, l10, rfl, h10⟩ := cut1 h9
 clear h9
 obtain ⟨a10, l11, rfl, h11⟩ := cut1 h10
 clear h10
 obtain ⟨a11, l12, rfl, h12⟩ := cut1 h11
 clear h11
 obtain rfl := cut0 h12
 clear h12
 simp only [R_overlap, valOf, vals1, valInts, val1, tupleV, resV, valsI, den, bt1, bt2, bt3, bt4, Env.at, E, fb, fi, List.getD_cons_zero, List.getD_cons_succ, List.all_cons, List.all_nil, Bool.and_true, nr', us', ss', nr2, us2, ss2, nr3, us3, ss3, cr2, Bool.and_assoc, Option.map_some, List.all_append, cmps, List.take_succ_cons, List.take_zero, List.drop_succ_cons, List.drop_zero, Int.toNat_zero, Int.toNat_one, show (2 : Int).toNat = 2 from rfl, ptsOf, sqC, bothB, bothe, apB]
 generalize rgt [a0, a1, a2, a3, a4, a5] = ra, rgt [a6, a7, a8, a9, a10, a11] = rb
 generalize outE [a0, a1, a2, a3, a4, a5] 0 1 [(a6, a7), (a8, a9), (a10, a11)] = x0
 generalize outE [a0, a1, a2, a3, a4, a5] 1 1 [(a6, a7), (a8, a9), (a10, a11)] = x1
 generalize outE [a0, a1, a2, a3, a4, a5] 2 1 [(a6, a7), (a8, a9), (a10, a11)] = x2
 generalize outE [a6, a7, a8, a9, a10, a11] 0 1 [(a0, a1), (a2, a3), (a4, a5)] = y0
 generalize outE [a6, a7, a8, a9, a10, a11] 1 1 [(a0, a1), (a2, a3), (a4, a5)] = y1
 generalize outE [a6, a7, a8, a9, a10, a11] 2 1 [(a0, a1), (a2, a3), (a4, a5)] = y2
 cases ra <;> cases rb <;> cases x0 <;> cases x1 <;> cases x2 <;> cases y0 <;> cases y1 <;> cases y2 <;> rfl
theorem c_overlap (W : World) : Flat Tryz.prog E W Any 67 [.g 6, .g 6] fun l => tupleV (resV E 59 l [.b, .i] 0 0) := flat_val (cm3_ok W) k_overlap v_overlap
def R_square : AV := (.tuple [(.bool (.ite (.ite (.lt (.var 2) (.lit 1)) (.blit true) (.ite (.lt (.lit 4096) (.var 2)) (.blit true) (.no (.app 1 0 (.cons (.var 0) (.cons (.var 1) .nil)))))) (.blit false) (.ite (.app 1 0 (.cons (.add (.var 0) (.var 2)) (.cons (.add (.var 1) (.var 2)) .nil))) (.ite (.app 56 0 (.cons (.var 3) (.cons (.var 4) (.cons (.var 5) (.cons (.var 6) (.cons (.var 7) (.cons (.var 8) .nil))))))) (.ite (.ite (.le (.var 0) (.ite (.lt (.ite (.lt (.var 3) (.var 5)) (.var 5) (.var 3)) (.var 7)) (.var 7) (.ite (.lt (.var 3) (.var 5)) (.var 5) (.var 3)))) (.ite (.le (.ite (.lt (.var 7) (.ite (.lt (.var 5) (.var 3)) (.var 5) (.var 3))) (.var 7) (.ite (.lt (.var 5) (.var 3)) (.var 5) (.var 3))) (.add (.var 0) (.var 2))) (.le (.ite (.lt (.var 8) (.ite (.lt (.var 6) (.var 4)) (.var 6) (.var 4))) (.var 8) (.ite (.lt (.var 6) (.var 4)) (.var 6) (.var 4))) (.add (.var 1) (.var 2))) (.blit false)) (.ite (.le (.ite (.lt (.var 7) (.ite (.lt (.var 5) (.var 3)) (.var 5) (.var 3))) (.var 7) (.ite (.lt (.var 5) (.var 3)) (.var 5) (.var 3))) (.add (.var 0) (.var 2))) (.le (.ite (.lt (.var 8) (.ite (.lt (.var 6) (.var 4)) (.var 6) (.var 4))) (.var 8) (.ite (.lt (.var 6) (.var 4)) (.var 6) (.var 4))) (.add (.var 1) (.var 2))) (.blit false))) (.ite (.ite (.le (.var 0) (.ite (.lt (.ite (.lt (.var 3) (.var 5)) (.var 5) (.var 3)) (.var 7)) (.var 7) (.ite (.lt (.var 3) (.var 5)) (.var 5) (.var 3)))) (.le (.var 1) (.ite (.lt (.ite (.lt (.var 4) (.var 6)) (.var 6) (.var 4)) (.var 8)) (.var 8) (.ite (.lt (.var 4) (.var 6)) (.var 6) (.var 4)))) (.blit false)) (.no (.app 58 0 (.cons (.var 3) (.cons (.var 4) (.cons (.var 5) (.cons (.var 6) (.cons (.var 7) (.cons (.var 8) (.cons (.lit 0) (.cons (.var 0) (.cons (.var 1) (.cons (.add (.var 0) (.var 2)) (.cons (.var 1) (.cons (.add (.var 0) (.var 2)) (.cons (.add (.var 1) (.var 2)) (.cons (.var 0) (.cons (.add (.var 1) (.var 2)) .nil))))))))))))))))) (.blit false)) (.blit false)) (.blit false)) (.blit false)))), (.int (.ite (.ite (.lt (.var 2) (.lit 1)) (.blit true) (.ite (.lt (.lit 4096) (.var 2)) (.blit true) (.no (.app 1 0 (.cons (.var 0) (.cons (.var 1) .nil)))))) (.lit 5) (.ite (.app 1 0 (.cons (.add (.var 0) (.var 2)) (.cons (.add (.var 1) (.var 2)) .nil))) (.ite (.app 56 0 (.cons (.var 3) (.cons (.var 4) (.cons (.var 5) (.cons (.var 6) (.cons (.var 7) (.cons (.var 8) .nil))))))) (.lit 0) (.lit 1)) (.lit 5))))])
theorem k_square : acall cm3 20 false 63 [] (argsG [.g 2, .i, .g 6] 0 0) (heapG [.g 2, .i, .g 6] 0) = .leaf (R_square, heapG [.g 2, .i, .g 6] 0) := by kernel_rfl
set_option maxHeartbeats 4000000 in
set_option maxRecDepth 20000 in
theorem v_square : ∀ l : List Int, l.length = lenSh [.g 2, .i, .g 6] → Any l → valOf (E.at l) R_square = some (tupleV (resV E 61 l [.b, .i] 0 0)) := by
 intro l hl hG
 have h0 : l.length = 9 := hl
 clear hl
 obtain ⟨a0, l1, rfl, h1⟩ := cut1 h0
 clear h0
 obtain ⟨a1, l2, rfl, h2⟩ := cut1 h1
 clear h1
 obtain ⟨a2, l3, rfl, h3⟩ := cut1 h2
 clear h2
 obtain ⟨a3, l4, rfl, h4⟩ := cut1 h3
 clear h3
 obtain ⟨a4, l5, rfl, h5⟩ := cut1 h4
 clear h4
 obtain ⟨a5, l6, rfl, h6⟩ := cut1 h5
 clear h5
 obtain ⟨a6, l7, rfl, h7⟩ := cut1 h6
 clear h6
 obtain ⟨a7, l8, rfl, h8⟩ := cut1 h7
 clear h7
 obtain ⟨a8, l9, rfl, h9⟩ := cut1 h8
 clear h8
 obtain rfl := cut0 h9
 clear h9
 simp only [R_square, valOf, vals1, valInts, val1, tupleV, resV, valsI, den, bt1, bt2, bt3, bt4, Env.at, E, fb, fi, List.getD_cons_zero, List.getD_cons_succ, List.all_cons, List.all_nil, Bool.and_true, nr', us', ss', nr2, us2, ss2, nr3, us3, ss3, cr2, Bool.and_assoc, Option.map_some, List.all_append, cmps, List.take_succ_cons, List.take_zero, List.drop_succ_cons, List.drop_zero, Int.toNat_zero, Int.toNat_one, show (2 : Int).toNat = 2 from rfl, ptsOf, sqC, sqg, sqe, sqB, sqBox, mnE, mxE]
 have c1 : decide (a2 < 1) = !decide (1 ≤ a2) := ltle _ _
 have c2 : decide (4096 < a2) = !decide (a2 ≤ 4096) := ltle _ _
 rw [c1, c2]
 cases g1 : decide (1 ≤ a2)
 ·simp
 cases g2 : decide (a2 ≤ 4096)
 ·simp
 cases g3 : us a0
 ·simp
 cases g4 : us a1
 ·simp
 have q1 := of_decide_eq_true g1
 have q2 := of_decide_eq_true g2
 have q3 := us_b g3
 have q4 := us_b g4
 have w0 : IntKind.i64.wrap (a0 + a2) = a0 + a2 := wr (by omega)
 have w1 : IntKind.i64.wrap (a1 + a2) = a1 + a2 := wr (by omega)
 simp only [w0, w1, apB, ptsOf, ltle (a0 + a2), ltle (a1 + a2), ltle _ a0, ltle _ a1]
 generalize rgt [a3, a4, a5, a6, a7, a8] = ra, us (a0 + a2) = u0, us (a1 + a2) = u1
 generalize outE [a3, a4, a5, a6, a7, a8] 0 0 [(a0, a1), (a0 + a2, a1), (a0 + a2, a1 + a2), (a0, a1 + a2)] = x0
 generalize outE [a3, a4, a5, a6, a7, a8] 1 0 [(a0, a1), (a0 + a2, a1), (a0 + a2, a1 + a2), (a0, a1 + a2)] = x1
 generalize outE [a3, a4, a5, a6, a7, a8] 2 0 [(a0, a1), (a0 + a2, a1), (a0 + a2, a1 + a2), (a0, a1 + a2)] = x2
 generalize decide (min (min a3 a5) a7 ≤ a0 + a2) = d0, decide (min (min a4 a6) a8 ≤ a1 + a2) = d1, decide (a0 ≤ max (max a3 a5) a7) = d2, decide (a1 ≤ max (max a4 a6) a8) = d3
 cases ra <;> cases u0 <;> cases u1 <;> cases x0 <;> cases x1 <;> cases x2 <;> cases d0 <;> cases d1 <;> cases d2 <;> cases d3 <;> rfl
theorem c_square (W : World) : Flat Tryz.prog E W Any 63 [.g 2, .i, .g 6] fun l => tupleV (resV E 61 l [.b, .i] 0 0) := flat_val (cm3_ok W) k_square v_square
noncomputable def cm4 : Cx := ⟨cm3.ty, cm3.fn, [flatCon 67 [.g 6, .g 6] [.b, .i] 59 noChk, flatCon 63 [.g 2, .i, .g 6] [.b, .i] 61 noChk] ++ cm3.con, cm3.inl, cm3.eqs⟩
theorem cm4_ok (W : World) : ∀ l, Any l → CxOk Tryz.prog (E.at l) W cm4 :=
 cx_more (cm3_ok W) (List.forall_mem_cons.2 ⟨flat_con' (c_overlap W), List.forall_mem_cons.2 ⟨flat_con' (c_square W), (fun _ h => by cases h)⟩⟩)
end Go.Proofs.YtlfoglklibhbnaaGreat.Sx
namespace Go.Proofs.YtlfoglklibhbnaaGreat.Sx
open Go.RowKit
end Go.Proofs.YtlfoglklibhbnaaGreat.Sx
