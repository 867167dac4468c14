/- Contracts, reckoned. -/
import Derived.Test.YtfpnkcmplmkghaaQ2
import Derived.Test.YtfpnkcmplmkghaaFw
import Derived.KernelRfl
set_option linter.unusedVariables false
set_option linter.unusedSimpArgs false
namespace Go.Proofs.Ytfpnkcmplmkghaa.Sx
open Go.RowKit

theorem tri (x : Int) : (x < 0 ∧ ¬ 0 < x ∧ ¬ 0 ≤ x ∧ x ≤ 0) ∨ (¬ x < 0 ∧ ¬ 0 < x ∧ 0 ≤ x ∧ x ≤ 0) ∨ (¬ x < 0 ∧ 0 < x ∧ 0 ≤ x ∧ ¬ x ≤ 0) := by omega
theorem dnlt (a b : Int) : (!decide (a < b)) = decide (b ≤ a) := by rw [Bool.eq_iff_iff]; simp

def R_sis : AV := (.bool (.ite (.app 2 0 (.cons (.var 0) (.cons (.var 1) (.cons (.var 2) (.cons (.var 3) (.cons (.var 4) (.cons (.var 5) .nil))))))) (.ite (.lt (.var 3) (.var 0)) (.blit false) (.ite (.lt (.var 4) (.var 1)) (.blit false) (.no (.lt (.var 5) (.var 2))))) (.blit false)))
theorem k_sis : acall cy4 20 false 61 [] (argsG [.g 6] 0 0) (heapG [.g 6] 0) = .leaf (R_sis, heapG [.g 6] 0) := by kernel_rfl
set_option maxHeartbeats 4000000 in
set_option maxRecDepth 20000 in
theorem v_sis : ∀ l : List Int, l.length = lenSh [.g 6] → Any l → valOf (E.at l) R_sis = some (tupleV (resV E 53 l [.b] 0 0)) := by
  intro l hl hG
  have h0 : l.length = 6 := hl
  clear hl
  obtain ⟨a0, l1, rfl, h1⟩ := cut1 h0
  clear h0
  obtain ⟨a1, l2, rfl, h2⟩ := cut1 h1
  clear h1
  obtain ⟨a2, l3, rfl, h3⟩ := cut1 h2
  clear h2
  obtain ⟨a3, l4, rfl, h4⟩ := cut1 h3
  clear h3
  obtain ⟨a4, l5, rfl, h5⟩ := cut1 h4
  clear h4
  obtain ⟨a5, l6, rfl, h6⟩ := cut1 h5
  clear h5
  obtain rfl := cut0 h6
  clear h6
  simp only [R_sis, valOf, vals1, valInts, val1, tupleV, resV, valsI, den, bt1, bt2, bt3, bt4, Env.at, E, fb, fi, List.getD_cons_zero, List.getD_cons_succ, List.all_cons, List.all_nil, Bool.and_true, nr', us', ss', nr2, us2, ss2, nr3, us3, ss3, Bool.and_assoc, Option.map_some, List.all_append, sis, List.take_succ_cons, List.take_zero, dnlt]

theorem c_sis (W : World) : Flat Try.prog E W Any 61 [.g 6] fun l => tupleV (resV E 53 l [.b] 0 0) := flat_val (cy4_ok W) k_sis v_sis

def R_side12 : AV := (.tuple [(.int (.ite (.lt (.app 13 0 (.cons (.var 3) (.cons (.var 4) (.cons (.var 5) (.cons (.var 6) (.cons (.var 7) (.cons (.var 8) (.cons (.var 9) (.cons (.var 10) (.cons (.var 11) (.cons (.var 0) (.cons (.var 1) (.cons (.var 2) .nil))))))))))))) (.lit 0)) (.lit (-1)) (.ite (.lt (.lit 0) (.app 13 0 (.cons (.var 3) (.cons (.var 4) (.cons (.var 5) (.cons (.var 6) (.cons (.var 7) (.cons (.var 8) (.cons (.var 9) (.cons (.var 10) (.cons (.var 11) (.cons (.var 0) (.cons (.var 1) (.cons (.var 2) .nil)))))))))))))) (.lit 1) (.lit 0)))), (.int (.app 13 1 (.cons (.var 3) (.cons (.var 4) (.cons (.var 5) (.cons (.var 6) (.cons (.var 7) (.cons (.var 8) (.cons (.var 9) (.cons (.var 10) (.cons (.var 11) (.cons (.var 0) (.cons (.var 1) (.cons (.var 2) .nil))))))))))))))])
theorem k_side12 : acall cy4 20 false 20 [] (argsG [.g 3, .g 9] 0 0) (heapG [.g 3, .g 9] 0) = .leaf (R_side12, heapG [.g 3, .g 9] 0) := by kernel_rfl
set_option maxHeartbeats 4000000 in
set_option maxRecDepth 20000 in
theorem v_side12 : ∀ l : List Int, l.length = lenSh [.g 3, .g 9] → Any l → valOf (E.at l) R_side12 = some (tupleV (resV E 15 l [.i, .i] 0 0)) := by
  intro l hl hG
  have h0 : l.length = 12 := hl
  clear hl
  obtain ⟨a0, l1, rfl, h1⟩ := cut1 h0
  clear h0
  obtain ⟨a1, l2, rfl, h2⟩ := cut1 h1
  clear h1
  obtain ⟨a2, l3, rfl, h3⟩ := cut1 h2
  clear h2
  obtain ⟨a3, l4, rfl, h4⟩ := cut1 h3
  clear h3
  obtain ⟨a4, l5, rfl, h5⟩ := cut1 h4
  clear h4
  obtain ⟨a5, l6, rfl, h6⟩ := cut1 h5
  clear h5
  obtain ⟨a6, l7, rfl, h7⟩ := cut1 h6
  clear h6
  obtain ⟨a7, l8, rfl, h8⟩ := cut1 h7
  clear h7
  obtain ⟨a8, l9, rfl, h9⟩ := cut1 h8
  clear h8
  obtain ⟨a9, l10, rfl, h10⟩ := cut1 h9
  clear h9
  obtain ⟨a10, l11, rfl, h11⟩ := cut1 h10
  clear h10
  obtain ⟨a11, l12, rfl, h12⟩ := cut1 h11
  clear h11
  obtain rfl := cut0 h12
  clear h12
  simp only [R_side12, valOf, vals1, valInts, val1, tupleV, resV, valsI, den, bt1, bt2, bt3, bt4, Env.at, E, fb, fi, List.getD_cons_zero, List.getD_cons_succ, List.all_cons, List.all_nil, Bool.and_true, nr', us', ss', nr2, us2, ss2, nr3, us3, ss3, Bool.and_assoc, Option.map_some, List.all_append, cmps, sdV, sgn]
  cases h0 : ss a0
  · simp
  cases h1 : ss a1
  · simp
  cases h2 : ss a2
  · simp
  cases h3 : ss a3
  · simp
  cases h4 : ss a4
  · simp
  cases h5 : ss a5
  · simp
  cases h6 : ss a6
  · simp
  cases h7 : ss a7
  · simp
  cases h8 : ss a8
  · simp
  cases h9 : ss a9
  · simp
  cases h10 : ss a10
  · simp
  cases h11 : ss a11
  · simp
  simp

theorem c_side12 (W : World) : Flat Try.prog E W Any 20 [.g 3, .g 9] fun l => tupleV (resV E 15 l [.i, .i] 0 0) := flat_val (cy4_ok W) k_side12 v_side12

def R_hit : AV := (.tuple [(.bool (.ite (.ite (.app 2 0 (.cons (.var 0) (.cons (.var 1) (.cons (.var 2) (.cons (.var 3) (.cons (.var 4) (.cons (.var 5) .nil))))))) (.no (.ite (.ite (.ite (.lt (.var 6) (.lit (-16384))) (.blit true) (.lt (.lit 16384) (.var 6))) (.blit false) (.ite (.ite (.lt (.var 7) (.lit (-16384))) (.blit true) (.lt (.lit 16384) (.var 7))) (.blit false) (.no (.ite (.lt (.var 8) (.lit (-16384))) (.blit true) (.lt (.lit 16384) (.var 8)))))) (.ite (.ite (.ite (.lt (.var 9) (.lit (-16384))) (.blit true) (.lt (.lit 16384) (.var 9))) (.blit false) (.ite (.ite (.lt (.var 10) (.lit (-16384))) (.blit true) (.lt (.lit 16384) (.var 10))) (.blit false) (.no (.ite (.lt (.var 11) (.lit (-16384))) (.blit true) (.lt (.lit 16384) (.var 11)))))) (.ite (.ite (.lt (.var 12) (.lit (-16384))) (.blit true) (.lt (.lit 16384) (.var 12))) (.blit false) (.ite (.ite (.lt (.var 13) (.lit (-16384))) (.blit true) (.lt (.lit 16384) (.var 13))) (.blit false) (.no (.ite (.lt (.var 14) (.lit (-16384))) (.blit true) (.lt (.lit 16384) (.var 14)))))) (.blit false)) (.blit false))) (.blit true)) (.blit false) (.ite (.le (.lit 0) (.mul (.ite (.lt (.app 13 0 (.cons (.var 6) (.cons (.var 7) (.cons (.var 8) (.cons (.var 9) (.cons (.var 10) (.cons (.var 11) (.cons (.var 12) (.cons (.var 13) (.cons (.var 14) (.cons (.var 0) (.cons (.var 1) (.cons (.var 2) .nil))))))))))))) (.lit 0)) (.lit (-1)) (.ite (.lt (.lit 0) (.app 13 0 (.cons (.var 6) (.cons (.var 7) (.cons (.var 8) (.cons (.var 9) (.cons (.var 10) (.cons (.var 11) (.cons (.var 12) (.cons (.var 13) (.cons (.var 14) (.cons (.var 0) (.cons (.var 1) (.cons (.var 2) .nil)))))))))))))) (.lit 1) (.lit 0))) (.ite (.lt (.app 13 0 (.cons (.var 6) (.cons (.var 7) (.cons (.var 8) (.cons (.var 9) (.cons (.var 10) (.cons (.var 11) (.cons (.var 12) (.cons (.var 13) (.cons (.var 14) (.cons (.var 3) (.cons (.var 4) (.cons (.var 5) .nil))))))))))))) (.lit 0)) (.lit (-1)) (.ite (.lt (.lit 0) (.app 13 0 (.cons (.var 6) (.cons (.var 7) (.cons (.var 8) (.cons (.var 9) (.cons (.var 10) (.cons (.var 11) (.cons (.var 12) (.cons (.var 13) (.cons (.var 14) (.cons (.var 3) (.cons (.var 4) (.cons (.var 5) .nil)))))))))))))) (.lit 1) (.lit 0))))) (.blit false) (.ite (.ite (.le (.lit 0) (.app 13 0 (.cons (.var 0) (.cons (.var 1) (.cons (.var 2) (.cons (.var 3) (.cons (.var 4) (.cons (.var 5) (.cons (.var 6) (.cons (.var 7) (.cons (.var 8) (.cons (.var 9) (.cons (.var 10) (.cons (.var 11) .nil)))))))))))))) (.ite (.le (.lit 0) (.app 13 0 (.cons (.var 0) (.cons (.var 1) (.cons (.var 2) (.cons (.var 3) (.cons (.var 4) (.cons (.var 5) (.cons (.var 9) (.cons (.var 10) (.cons (.var 11) (.cons (.var 12) (.cons (.var 13) (.cons (.var 14) .nil)))))))))))))) (.le (.lit 0) (.app 13 0 (.cons (.var 0) (.cons (.var 1) (.cons (.var 2) (.cons (.var 3) (.cons (.var 4) (.cons (.var 5) (.cons (.var 12) (.cons (.var 13) (.cons (.var 14) (.cons (.var 6) (.cons (.var 7) (.cons (.var 8) .nil)))))))))))))) (.blit false)) (.blit false)) (.blit true) (.ite (.le (.app 13 0 (.cons (.var 0) (.cons (.var 1) (.cons (.var 2) (.cons (.var 3) (.cons (.var 4) (.cons (.var 5) (.cons (.var 6) (.cons (.var 7) (.cons (.var 8) (.cons (.var 9) (.cons (.var 10) (.cons (.var 11) .nil))))))))))))) (.lit 0)) (.ite (.le (.app 13 0 (.cons (.var 0) (.cons (.var 1) (.cons (.var 2) (.cons (.var 3) (.cons (.var 4) (.cons (.var 5) (.cons (.var 9) (.cons (.var 10) (.cons (.var 11) (.cons (.var 12) (.cons (.var 13) (.cons (.var 14) .nil))))))))))))) (.lit 0)) (.le (.app 13 0 (.cons (.var 0) (.cons (.var 1) (.cons (.var 2) (.cons (.var 3) (.cons (.var 4) (.cons (.var 5) (.cons (.var 12) (.cons (.var 13) (.cons (.var 14) (.cons (.var 6) (.cons (.var 7) (.cons (.var 8) .nil))))))))))))) (.lit 0)) (.blit false)) (.blit false)))))), (.int (.ite (.ite (.app 2 0 (.cons (.var 0) (.cons (.var 1) (.cons (.var 2) (.cons (.var 3) (.cons (.var 4) (.cons (.var 5) .nil))))))) (.no (.ite (.ite (.ite (.lt (.var 6) (.lit (-16384))) (.blit true) (.lt (.lit 16384) (.var 6))) (.blit false) (.ite (.ite (.lt (.var 7) (.lit (-16384))) (.blit true) (.lt (.lit 16384) (.var 7))) (.blit false) (.no (.ite (.lt (.var 8) (.lit (-16384))) (.blit true) (.lt (.lit 16384) (.var 8)))))) (.ite (.ite (.ite (.lt (.var 9) (.lit (-16384))) (.blit true) (.lt (.lit 16384) (.var 9))) (.blit false) (.ite (.ite (.lt (.var 10) (.lit (-16384))) (.blit true) (.lt (.lit 16384) (.var 10))) (.blit false) (.no (.ite (.lt (.var 11) (.lit (-16384))) (.blit true) (.lt (.lit 16384) (.var 11)))))) (.ite (.ite (.lt (.var 12) (.lit (-16384))) (.blit true) (.lt (.lit 16384) (.var 12))) (.blit false) (.ite (.ite (.lt (.var 13) (.lit (-16384))) (.blit true) (.lt (.lit 16384) (.var 13))) (.blit false) (.no (.ite (.lt (.var 14) (.lit (-16384))) (.blit true) (.lt (.lit 16384) (.var 14)))))) (.blit false)) (.blit false))) (.blit true)) (.lit 5) (.lit 0)))])
theorem k_hit : acall cy4 20 false 18 [] (argsG [.g 3, .g 3, .g 9] 0 0) (heapG [.g 3, .g 3, .g 9] 0) = .leaf (R_hit, heapG [.g 3, .g 3, .g 9] 0) := by kernel_rfl
set_option maxHeartbeats 4000000 in
set_option maxRecDepth 20000 in
theorem v_hit : ∀ l : List Int, l.length = lenSh [.g 3, .g 3, .g 9] → Any l → valOf (E.at l) R_hit = some (tupleV (resV E 16 l [.b, .i] 0 0)) := by
  intro l hl hG
  have h0 : l.length = 15 := hl
  clear hl
  obtain ⟨a0, l1, rfl, h1⟩ := cut1 h0
  clear h0
  obtain ⟨a1, l2, rfl, h2⟩ := cut1 h1
  clear h1
  obtain ⟨a2, l3, rfl, h3⟩ := cut1 h2
  clear h2
  obtain ⟨a3, l4, rfl, h4⟩ := cut1 h3
  clear h3
  obtain ⟨a4, l5, rfl, h5⟩ := cut1 h4
  clear h4
  obtain ⟨a5, l6, rfl, h6⟩ := cut1 h5
  clear h5
  obtain ⟨a6, l7, rfl, h7⟩ := cut1 h6
  clear h6
  obtain ⟨a7, l8, rfl, h8⟩ := cut1 h7
  clear h7
  obtain ⟨a8, l9, rfl, h9⟩ := cut1 h8
  clear h8
  obtain ⟨a9, l10, rfl, h10⟩ := cut1 h9
  clear h9
  obtain ⟨a10, l11, rfl, h11⟩ := cut1 h10
  clear h10
  obtain ⟨a11, l12, rfl, h12⟩ := cut1 h11
  clear h11
  obtain ⟨a12, l13, rfl, h13⟩ := cut1 h12
  clear h12
  obtain ⟨a13, l14, rfl, h14⟩ := cut1 h13
  clear h13
  obtain ⟨a14, l15, rfl, h15⟩ := cut1 h14
  clear h14
  obtain rfl := cut0 h15
  clear h15
  simp only [R_hit, valOf, vals1, valInts, val1, tupleV, resV, valsI, den, bt1, bt2, bt3, bt4, Env.at, E, fb, fi, List.getD_cons_zero, List.getD_cons_succ, List.all_cons, List.all_nil, Bool.and_true, nr', us', ss', nr2, us2, ss2, nr3, us3, ss3, Bool.and_assoc, Option.map_some, List.all_append, cmps, vA, vB, r0, r1, r2]
  cases h0 : ss a0
  · simp
  cases h1 : ss a1
  · simp
  cases h2 : ss a2
  · simp
  cases h3 : ss a3
  · simp
  cases h4 : ss a4
  · simp
  cases h5 : ss a5
  · simp
  cases h6 : ss a6
  · simp
  cases h7 : ss a7
  · simp
  cases h8 : ss a8
  · simp
  cases h9 : ss a9
  · simp
  cases h10 : ss a10
  · simp
  cases h11 : ss a11
  · simp
  cases h12 : ss a12
  · simp
  cases h13 : ss a13
  · simp
  cases h14 : ss a14
  · simp
  generalize volV [a6, a7, a8, a9, a10, a11, a12, a13, a14, a0, a1, a2] = A, volV [a6, a7, a8, a9, a10, a11, a12, a13, a14, a3, a4, a5] = B, volV [a0, a1, a2, a3, a4, a5, a6, a7, a8, a9, a10, a11] = x, volV [a0, a1, a2, a3, a4, a5, a9, a10, a11, a12, a13, a14] = y, volV [a0, a1, a2, a3, a4, a5, a12, a13, a14, a6, a7, a8] = z
  simp only [Bool.true_and, Bool.and_true, Bool.and_self, Bool.not_true, Bool.or_false, Bool.false_eq_true, reduceIte]
  have w0 : IntKind.i64.wrap 0 = 0 := by decide
  have w1 : IntKind.i64.wrap 1 = 1 := by decide
  have w3 : IntKind.i64.wrap 2 = 2 := by decide
  have w4 : IntKind.i64.wrap 3 = 3 := by decide
  have w2 : IntKind.i64.wrap (-1) = -1 := by decide
  unfold hitB
  rcases tri A with ⟨A1, A2, A3, A4⟩ | ⟨A1, A2, A3, A4⟩ | ⟨A1, A2, A3, A4⟩ <;> rcases tri B with ⟨B1, B2, B3, B4⟩ | ⟨B1, B2, B3, B4⟩ | ⟨B1, B2, B3, B4⟩ <;> simp [A1, A2, B1, B2, w0, w1, w2]
  all_goals
    rcases tri x with ⟨x1, x2, x3, x4⟩ | ⟨x1, x2, x3, x4⟩ | ⟨x1, x2, x3, x4⟩ <;> rcases tri y with ⟨y1, y2, y3, y4⟩ | ⟨y1, y2, y3, y4⟩ | ⟨y1, y2, y3, y4⟩ <;> rcases tri z with ⟨z1, z2, z3, z4⟩ | ⟨z1, z2, z3, z4⟩ | ⟨z1, z2, z3, z4⟩ <;>
      simp [x1, x2, x3, x4, y1, y2, y3, y4, z1, z2, z3, z4, w1, w3, w4]

theorem c_hit (W : World) : Flat Try.prog E W Any 18 [.g 3, .g 3, .g 9] fun l => tupleV (resV E 16 l [.b, .i] 0 0) := flat_val (cy4_ok W) k_hit v_hit

noncomputable def cs1 : Cx := ⟨cy4.ty, cy4.fn, [flatCon 61 [.g 6] [.b] 53 noChk, flatCon 20 [.g 3, .g 9] [.i, .i] 15 noChk, flatCon 18 [.g 3, .g 3, .g 9] [.b, .i] 16 noChk] ++ cy4.con, [102], cy4.eqs⟩
theorem cs1_ok (W : World) : ∀ l, Any l → CxOk Try.prog (E.at l) W cs1 :=
  cx_more (cy4_ok W) (List.forall_mem_cons.2 ⟨flat_con' (c_sis W), List.forall_mem_cons.2 ⟨flat_con' (c_side12 W), List.forall_mem_cons.2 ⟨flat_con' (c_hit W), (fun _ h => by cases h)⟩⟩⟩)
end Go.Proofs.Ytfpnkcmplmkghaa.Sx
