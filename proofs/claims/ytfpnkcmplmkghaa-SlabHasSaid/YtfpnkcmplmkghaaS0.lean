/- Texts that stood alone before, in one. -/
import Derived.Test.YtfpnkcmplmkghaaF1
import Derived.Test.YtfpnkcmplmkghaaS4
import Derived.Test.YtfpnkcmplmkghaaFw
import Derived.Test.YtfpnkcmplmkghaaSm
import Derived.KernelRfl
import Derived.Laws.StructEq
/- The reference's Cmp of chapter 3, handed to the reckoner for chapter 13. -/
set_option linter.unusedVariables false
namespace Go.Proofs.Ytfpnkcmplmkghaa.Sx
open Go.RowKit
theorem c_rfcmp (W : World) : Flat Try.prog E W Any 51 [.g 2, .g 2] fun l => tupleV (resV E 51 l [.i] 0 0) := by
  refine flat_calls rfl fun l w hl hI => ?_
  obtain ⟨a, l1, rfl, h1⟩ := cut1 hl
  obtain ⟨b, l2, rfl, h2⟩ := cut1 h1
  obtain ⟨c, l3, rfl, h3⟩ := cut1 h2
  obtain ⟨d, l4, rfl, h4⟩ := cut1 h3
  obtain rfl := cut0 h4
  exact Fc.rcmp_any a b c d w
noncomputable def cs5 : Cx := ⟨cs4.ty, cs4.fn, [flatCon 51 [.g 2, .g 2] [.i] 51 noChk] ++ cs4.con, cs4.inl, cs4.eqs⟩
theorem cs5_ok (W : World) : ∀ l, Any l → CxOk Try.prog (E.at l) W cs5 :=
  cx_more (fun l h => cs4_ok W l trivial) (List.forall_mem_cons.2 ⟨flat_con' (c_rfcmp W), (fun _ h => by cases h)⟩)
end Go.Proofs.Ytfpnkcmplmkghaa.Sx
/- Contracts, reckoned. -/
set_option linter.unusedVariables false
set_option linter.unusedSimpArgs false
namespace Go.Proofs.Ytfpnkcmplmkghaa.Sx
open Go.RowKit


def R_ris : AV := (.bool (.ite (.app 2 0 (.cons (.var 0) (.cons (.var 1) (.cons (.var 2) .nil)))) (.ite (.app 2 0 (.cons (.var 3) (.cons (.var 4) (.cons (.var 5) .nil)))) (.ite (.le (.var 0) (.var 3)) (.ite (.le (.var 1) (.var 4)) (.le (.var 2) (.var 5)) (.blit false)) (.blit false)) (.blit false)) (.blit false)))
theorem k_ris : acall cs5 20 false 62 [] (argsG [.g 6] 0 0) (heapG [.g 6] 0) = .leaf (R_ris, heapG [.g 6] 0) := by kernel_rfl
set_option maxHeartbeats 4000000 in
set_option maxRecDepth 20000 in
theorem v_ris : ∀ l : List Int, l.length = lenSh [.g 6] → Any l → valOf (E.at l) R_ris = some (tupleV (resV E 53 l [.b] 0 0)) := by
  intro l hl hG
  have h0 : l.length = 6 := hl
  clear hl
  obtain ⟨a0, l1, rfl, h1⟩ := cut1 h0
  clear h0
  obtain ⟨a1, l2, rfl, h2⟩ := cut1 h1
  clear h1
  obtain ⟨a2, l3, rfl, h3⟩ := cut1 h2
  clear h2
  obtain ⟨a3, l4, rfl, h4⟩ := cut1 h3
  clear h3
  obtain ⟨a4, l5, rfl, h5⟩ := cut1 h4
  clear h4
  obtain ⟨a5, l6, rfl, h6⟩ := cut1 h5
  clear h5
  obtain rfl := cut0 h6
  clear h6
  simp only [R_ris, valOf, vals1, valInts, val1, tupleV, resV, valsI, den, bt1, bt2, bt3, bt4, Env.at, E, fb, fi, List.getD_cons_zero, List.getD_cons_succ, List.all_cons, List.all_nil, Bool.and_true, nr', us', ss', nr2, us2, ss2, nr3, us3, ss3, Bool.and_assoc, Option.map_some, List.all_append, List.take_succ_cons, List.take_zero, List.drop_succ_cons, List.drop_zero, sis]

theorem c_ris (W : World) : Flat Try.prog E W Any 62 [.g 6] fun l => tupleV (resV E 53 l [.b] 0 0) := flat_val (cs5_ok W) k_ris v_ris

noncomputable def cs6 : Cx := ⟨cs5.ty, cs5.fn, [flatCon 62 [.g 6] [.b] 53 noChk] ++ cs5.con, cs5.inl, cs5.eqs⟩
theorem cs6_ok (W : World) : ∀ l, Any l → CxOk Try.prog (E.at l) W cs6 :=
  cx_more (cs5_ok W) (List.forall_mem_cons.2 ⟨flat_con' (c_ris W), (fun _ h => by cases h)⟩)
end Go.Proofs.Ytfpnkcmplmkghaa.Sx
/- Contracts, reckoned. -/
set_option linter.unusedVariables false
set_option linter.unusedSimpArgs false
namespace Go.Proofs.Ytfpnkcmplmkghaa.Sx
open Go.RowKit

theorem lgA (x y z : Int) : (if (if decide (x < y) = true then decide (y < z) else decide (x < z)) = true then (2 : Int) else if decide (x < y) = true then 1 else 0) = (if y ≤ x ∧ z ≤ x then 0 else if z ≤ y then 1 else 2) := by
  by_cases p : x < y <;> by_cases q : y < z <;> by_cases r : x < z <;> simp only [p, q, r, decide_true, decide_false, if_true, if_false, Bool.false_eq_true] <;> (repeat' split) <;> omega
theorem lgB (x y z : Int) : (if (decide (y ≤ x) && decide (z ≤ x)) = true then (0 : Int) else if decide (z ≤ y) = true then 1 else 2) = (if y ≤ x ∧ z ≤ x then 0 else if z ≤ y then 1 else 2) := by
  simp only [Bool.and_eq_true, decide_eq_true_eq]

def R_lon : AV := (.tuple [(.int (.ite (.app 53 0 (.cons (.var 0) (.cons (.var 1) (.cons (.var 2) (.cons (.var 3) (.cons (.var 4) (.cons (.var 5) .nil))))))) (.ite (.ite (.lt (.sub (.var 3) (.var 0)) (.sub (.var 4) (.var 1))) (.lt (.sub (.var 4) (.var 1)) (.sub (.var 5) (.var 2))) (.lt (.sub (.var 3) (.var 0)) (.sub (.var 5) (.var 2)))) (.lit 2) (.ite (.lt (.sub (.var 3) (.var 0)) (.sub (.var 4) (.var 1))) (.lit 1) (.lit 0))) (.lit 0))), (.int (.ite (.app 53 0 (.cons (.var 0) (.cons (.var 1) (.cons (.var 2) (.cons (.var 3) (.cons (.var 4) (.cons (.var 5) .nil))))))) (.lit 0) (.lit 1)))])
theorem k_lon : acall cs6 20 false 58 [] (argsG [.g 6] 0 0) (heapG [.g 6] 0) = .leaf (R_lon, heapG [.g 6] 0) := by kernel_rfl
set_option maxHeartbeats 4000000 in
set_option maxRecDepth 20000 in
theorem v_lon : ∀ l : List Int, l.length = lenSh [.g 6] → Any l → valOf (E.at l) R_lon = some (tupleV (resV E 62 l [.i, .i] 0 0)) := by
  intro l hl hG
  have h0 : l.length = 6 := hl
  clear hl
  obtain ⟨a0, l1, rfl, h1⟩ := cut1 h0
  clear h0
  obtain ⟨a1, l2, rfl, h2⟩ := cut1 h1
  clear h1
  obtain ⟨a2, l3, rfl, h3⟩ := cut1 h2
  clear h2
  obtain ⟨a3, l4, rfl, h4⟩ := cut1 h3
  clear h3
  obtain ⟨a4, l5, rfl, h5⟩ := cut1 h4
  clear h4
  obtain ⟨a5, l6, rfl, h6⟩ := cut1 h5
  clear h5
  obtain rfl := cut0 h6
  clear h6
  simp only [R_lon, valOf, vals1, valInts, val1, tupleV, resV, valsI, den, bt1, bt2, bt3, bt4, Env.at, E, fb, fi, List.getD_cons_zero, List.getD_cons_succ, List.all_cons, List.all_nil, Bool.and_true, nr', us', ss', nr2, us2, ss2, nr3, us3, ss3, Bool.and_assoc, Option.map_some, List.all_append, List.take_succ_cons, List.take_zero, List.drop_succ_cons, List.drop_zero, lg]
  cases k : sis [a0, a1, a2, a3, a4, a5]
  · simp
  have b := sis_iff.1 k
  have b0 := b.sl0; have b1 := b.sl1; have b2 := b.sl2; have b3 := b.sh0; have b4 := b.sh1; have b5 := b.sh2
  unfold Sm at b0 b1 b2 b3 b4 b5
  have w0 : IntKind.i64.wrap (a3 - a0) = a3 - a0 := wr (by omega)
  have w1 : IntKind.i64.wrap (a4 - a1) = a4 - a1 := wr (by omega)
  have w2 : IntKind.i64.wrap (a5 - a2) = a5 - a2 := wr (by omega)
  simp only [w0, w1, w2, if_true, lgA, lgB]

theorem c_lon (W : World) : Flat Try.prog E W Any 58 [.g 6] fun l => tupleV (resV E 62 l [.i, .i] 0 0) := flat_val (cs6_ok W) k_lon v_lon

def R_rlon : AV := (.tuple [(.int (.ite (.app 53 0 (.cons (.var 0) (.cons (.var 1) (.cons (.var 2) (.cons (.var 3) (.cons (.var 4) (.cons (.var 5) .nil))))))) (.ite (.ite (.le (.sub (.var 4) (.var 1)) (.sub (.var 3) (.var 0))) (.le (.sub (.var 5) (.var 2)) (.sub (.var 3) (.var 0))) (.blit false)) (.lit 0) (.ite (.le (.sub (.var 5) (.var 2)) (.sub (.var 4) (.var 1))) (.lit 1) (.lit 2))) (.lit 0))), (.int (.ite (.app 53 0 (.cons (.var 0) (.cons (.var 1) (.cons (.var 2) (.cons (.var 3) (.cons (.var 4) (.cons (.var 5) .nil))))))) (.lit 0) (.lit 1)))])
theorem k_rlon : acall cs6 20 false 59 [] (argsG [.g 6] 0 0) (heapG [.g 6] 0) = .leaf (R_rlon, heapG [.g 6] 0) := by kernel_rfl
set_option maxHeartbeats 4000000 in
set_option maxRecDepth 20000 in
theorem v_rlon : ∀ l : List Int, l.length = lenSh [.g 6] → Any l → valOf (E.at l) R_rlon = some (tupleV (resV E 62 l [.i, .i] 0 0)) := by
  intro l hl hG
  have h0 : l.length = 6 := hl
  clear hl
  obtain ⟨a0, l1, rfl, h1⟩ := cut1 h0
  clear h0
  obtain ⟨a1, l2, rfl, h2⟩ := cut1 h1
  clear h1
  obtain ⟨a2, l3, rfl, h3⟩ := cut1 h2
  clear h2
  obtain ⟨a3, l4, rfl, h4⟩ := cut1 h3
  clear h3
  obtain ⟨a4, l5, rfl, h5⟩ := cut1 h4
  clear h4
  obtain ⟨a5, l6, rfl, h6⟩ := cut1 h5
  clear h5
  obtain rfl := cut0 h6
  clear h6
  simp only [R_rlon, valOf, vals1, valInts, val1, tupleV, resV, valsI, den, bt1, bt2, bt3, bt4, Env.at, E, fb, fi, List.getD_cons_zero, List.getD_cons_succ, List.all_cons, List.all_nil, Bool.and_true, nr', us', ss', nr2, us2, ss2, nr3, us3, ss3, Bool.and_assoc, Option.map_some, List.all_append, List.take_succ_cons, List.take_zero, List.drop_succ_cons, List.drop_zero, lg]
  cases k : sis [a0, a1, a2, a3, a4, a5]
  · simp
  have b := sis_iff.1 k
  have b0 := b.sl0; have b1 := b.sl1; have b2 := b.sl2; have b3 := b.sh0; have b4 := b.sh1; have b5 := b.sh2
  unfold Sm at b0 b1 b2 b3 b4 b5
  have w0 : IntKind.i64.wrap (a3 - a0) = a3 - a0 := wr (by omega)
  have w1 : IntKind.i64.wrap (a4 - a1) = a4 - a1 := wr (by omega)
  have w2 : IntKind.i64.wrap (a5 - a2) = a5 - a2 := wr (by omega)
  simp only [w0, w1, w2, if_true, lgA, lgB]

theorem c_rlon (W : World) : Flat Try.prog E W Any 59 [.g 6] fun l => tupleV (resV E 62 l [.i, .i] 0 0) := flat_val (cs6_ok W) k_rlon v_rlon

def R_has : AV := (.bool (.ite (.app 53 0 (.cons (.var 0) (.cons (.var 1) (.cons (.var 2) (.cons (.var 3) (.cons (.var 4) (.cons (.var 5) .nil))))))) (.ite (.ite (.lt (.var 6) (.var 0)) (.blit true) (.lt (.var 3) (.var 6))) (.blit false) (.ite (.ite (.lt (.var 7) (.var 1)) (.blit true) (.lt (.var 4) (.var 7))) (.blit false) (.no (.ite (.lt (.var 8) (.var 2)) (.blit true) (.lt (.var 5) (.var 8)))))) (.blit false)))
theorem k_has : acall cs6 20 false 63 [] (argsG [.g 6, .g 3] 0 0) (heapG [.g 6, .g 3] 0) = .leaf (R_has, heapG [.g 6, .g 3] 0) := by kernel_rfl
set_option maxHeartbeats 4000000 in
set_option maxRecDepth 20000 in
theorem v_has : ∀ l : List Int, l.length = lenSh [.g 6, .g 3] → Any l → valOf (E.at l) R_has = some (tupleV (resV E 63 l [.b] 0 0)) := by
  intro l hl hG
  have h0 : l.length = 9 := hl
  clear hl
  obtain ⟨a0, l1, rfl, h1⟩ := cut1 h0
  clear h0
  obtain ⟨a1, l2, rfl, h2⟩ := cut1 h1
  clear h1
  obtain ⟨a2, l3, rfl, h3⟩ := cut1 h2
  clear h2
  obtain ⟨a3, l4, rfl, h4⟩ := cut1 h3
  clear h3
  obtain ⟨a4, l5, rfl, h5⟩ := cut1 h4
  clear h4
  obtain ⟨a5, l6, rfl, h6⟩ := cut1 h5
  clear h5
  obtain ⟨a6, l7, rfl, h7⟩ := cut1 h6
  clear h6
  obtain ⟨a7, l8, rfl, h8⟩ := cut1 h7
  clear h7
  obtain ⟨a8, l9, rfl, h9⟩ := cut1 h8
  clear h8
  obtain rfl := cut0 h9
  clear h9
  simp only [R_has, valOf, vals1, valInts, val1, tupleV, resV, valsI, den, bt1, bt2, bt3, bt4, Env.at, E, fb, fi, List.getD_cons_zero, List.getD_cons_succ, List.all_cons, List.all_nil, Bool.and_true, nr', us', ss', nr2, us2, ss2, nr3, us3, ss3, Bool.and_assoc, Option.map_some, List.all_append, List.take_succ_cons, List.take_zero, List.drop_succ_cons, List.drop_zero, hasB, Bool.not_or, dnlt, Bool.and_assoc]

theorem c_has (W : World) : Flat Try.prog E W Any 63 [.g 6, .g 3] fun l => tupleV (resV E 63 l [.b] 0 0) := flat_val (cs6_ok W) k_has v_has

def R_rhas : AV := (.bool (.ite (.app 53 0 (.cons (.var 0) (.cons (.var 1) (.cons (.var 2) (.cons (.var 3) (.cons (.var 4) (.cons (.var 5) .nil))))))) (.ite (.le (.var 0) (.var 6)) (.ite (.le (.var 6) (.var 3)) (.ite (.le (.var 1) (.var 7)) (.ite (.le (.var 7) (.var 4)) (.ite (.le (.var 2) (.var 8)) (.le (.var 8) (.var 5)) (.blit false)) (.blit false)) (.blit false)) (.blit false)) (.blit false)) (.blit false)))
theorem k_rhas : acall cs6 20 false 64 [] (argsG [.g 6, .g 3] 0 0) (heapG [.g 6, .g 3] 0) = .leaf (R_rhas, heapG [.g 6, .g 3] 0) := by kernel_rfl
set_option maxHeartbeats 4000000 in
set_option maxRecDepth 20000 in
theorem v_rhas : ∀ l : List Int, l.length = lenSh [.g 6, .g 3] → Any l → valOf (E.at l) R_rhas = some (tupleV (resV E 63 l [.b] 0 0)) := by
  intro l hl hG
  have h0 : l.length = 9 := hl
  clear hl
  obtain ⟨a0, l1, rfl, h1⟩ := cut1 h0
  clear h0
  obtain ⟨a1, l2, rfl, h2⟩ := cut1 h1
  clear h1
  obtain ⟨a2, l3, rfl, h3⟩ := cut1 h2
  clear h2
  obtain ⟨a3, l4, rfl, h4⟩ := cut1 h3
  clear h3
  obtain ⟨a4, l5, rfl, h5⟩ := cut1 h4
  clear h4
  obtain ⟨a5, l6, rfl, h6⟩ := cut1 h5
  clear h5
  obtain ⟨a6, l7, rfl, h7⟩ := cut1 h6
  clear h6
  obtain ⟨a7, l8, rfl, h8⟩ := cut1 h7
  clear h7
  obtain ⟨a8, l9, rfl, h9⟩ := cut1 h8
  clear h8
  obtain rfl := cut0 h9
  clear h9
  simp only [R_rhas, valOf, vals1, valInts, val1, tupleV, resV, valsI, den, bt1, bt2, bt3, bt4, Env.at, E, fb, fi, List.getD_cons_zero, List.getD_cons_succ, List.all_cons, List.all_nil, Bool.and_true, nr', us', ss', nr2, us2, ss2, nr3, us3, ss3, Bool.and_assoc, Option.map_some, List.all_append, List.take_succ_cons, List.take_zero, List.drop_succ_cons, List.drop_zero, hasB]

theorem c_rhas (W : World) : Flat Try.prog E W Any 64 [.g 6, .g 3] fun l => tupleV (resV E 63 l [.b] 0 0) := flat_val (cs6_ok W) k_rhas v_rhas

def R_rjoin : AV := (.tuple [(.agg [(.int (.ite (.ite (.app 53 0 (.cons (.var 0) (.cons (.var 1) (.cons (.var 2) (.cons (.var 3) (.cons (.var 4) (.cons (.var 5) .nil))))))) (.no (.app 53 0 (.cons (.var 6) (.cons (.var 7) (.cons (.var 8) (.cons (.var 9) (.cons (.var 10) (.cons (.var 11) .nil)))))))) (.blit true)) (.lit 0) (.ite (.ite (.app 2 0 (.cons (.var 0) (.cons (.var 1) (.cons (.var 2) .nil)))) (.ite (.app 2 0 (.cons (.var 3) (.cons (.var 4) (.cons (.var 5) .nil)))) (.ite (.app 2 0 (.cons (.var 6) (.cons (.var 7) (.cons (.var 8) .nil)))) (.app 2 0 (.cons (.var 9) (.cons (.var 10) (.cons (.var 11) .nil)))) (.blit false)) (.blit false)) (.blit false)) (.ite (.lt (.var 9) (.ite (.lt (.var 6) (.ite (.lt (.var 3) (.var 0)) (.var 3) (.var 0))) (.var 6) (.ite (.lt (.var 3) (.var 0)) (.var 3) (.var 0)))) (.var 9) (.ite (.lt (.var 6) (.ite (.lt (.var 3) (.var 0)) (.var 3) (.var 0))) (.var 6) (.ite (.lt (.var 3) (.var 0)) (.var 3) (.var 0)))) (.lit 0)))), (.int (.ite (.ite (.app 53 0 (.cons (.var 0) (.cons (.var 1) (.cons (.var 2) (.cons (.var 3) (.cons (.var 4) (.cons (.var 5) .nil))))))) (.no (.app 53 0 (.cons (.var 6) (.cons (.var 7) (.cons (.var 8) (.cons (.var 9) (.cons (.var 10) (.cons (.var 11) .nil)))))))) (.blit true)) (.lit 0) (.ite (.ite (.app 2 0 (.cons (.var 0) (.cons (.var 1) (.cons (.var 2) .nil)))) (.ite (.app 2 0 (.cons (.var 3) (.cons (.var 4) (.cons (.var 5) .nil)))) (.ite (.app 2 0 (.cons (.var 6) (.cons (.var 7) (.cons (.var 8) .nil)))) (.app 2 0 (.cons (.var 9) (.cons (.var 10) (.cons (.var 11) .nil)))) (.blit false)) (.blit false)) (.blit false)) (.ite (.lt (.var 10) (.ite (.lt (.var 7) (.ite (.lt (.var 4) (.var 1)) (.var 4) (.var 1))) (.var 7) (.ite (.lt (.var 4) (.var 1)) (.var 4) (.var 1)))) (.var 10) (.ite (.lt (.var 7) (.ite (.lt (.var 4) (.var 1)) (.var 4) (.var 1))) (.var 7) (.ite (.lt (.var 4) (.var 1)) (.var 4) (.var 1)))) (.lit 0)))), (.int (.ite (.ite (.app 53 0 (.cons (.var 0) (.cons (.var 1) (.cons (.var 2) (.cons (.var 3) (.cons (.var 4) (.cons (.var 5) .nil))))))) (.no (.app 53 0 (.cons (.var 6) (.cons (.var 7) (.cons (.var 8) (.cons (.var 9) (.cons (.var 10) (.cons (.var 11) .nil)))))))) (.blit true)) (.lit 0) (.ite (.ite (.app 2 0 (.cons (.var 0) (.cons (.var 1) (.cons (.var 2) .nil)))) (.ite (.app 2 0 (.cons (.var 3) (.cons (.var 4) (.cons (.var 5) .nil)))) (.ite (.app 2 0 (.cons (.var 6) (.cons (.var 7) (.cons (.var 8) .nil)))) (.app 2 0 (.cons (.var 9) (.cons (.var 10) (.cons (.var 11) .nil)))) (.blit false)) (.blit false)) (.blit false)) (.ite (.lt (.var 11) (.ite (.lt (.var 8) (.ite (.lt (.var 5) (.var 2)) (.var 5) (.var 2))) (.var 8) (.ite (.lt (.var 5) (.var 2)) (.var 5) (.var 2)))) (.var 11) (.ite (.lt (.var 8) (.ite (.lt (.var 5) (.var 2)) (.var 5) (.var 2))) (.var 8) (.ite (.lt (.var 5) (.var 2)) (.var 5) (.var 2)))) (.lit 0)))), (.int (.ite (.ite (.app 53 0 (.cons (.var 0) (.cons (.var 1) (.cons (.var 2) (.cons (.var 3) (.cons (.var 4) (.cons (.var 5) .nil))))))) (.no (.app 53 0 (.cons (.var 6) (.cons (.var 7) (.cons (.var 8) (.cons (.var 9) (.cons (.var 10) (.cons (.var 11) .nil)))))))) (.blit true)) (.lit 0) (.ite (.ite (.app 2 0 (.cons (.var 0) (.cons (.var 1) (.cons (.var 2) .nil)))) (.ite (.app 2 0 (.cons (.var 3) (.cons (.var 4) (.cons (.var 5) .nil)))) (.ite (.app 2 0 (.cons (.var 6) (.cons (.var 7) (.cons (.var 8) .nil)))) (.app 2 0 (.cons (.var 9) (.cons (.var 10) (.cons (.var 11) .nil)))) (.blit false)) (.blit false)) (.blit false)) (.ite (.lt (.ite (.lt (.ite (.lt (.var 0) (.var 3)) (.var 3) (.var 0)) (.var 6)) (.var 6) (.ite (.lt (.var 0) (.var 3)) (.var 3) (.var 0))) (.var 9)) (.var 9) (.ite (.lt (.ite (.lt (.var 0) (.var 3)) (.var 3) (.var 0)) (.var 6)) (.var 6) (.ite (.lt (.var 0) (.var 3)) (.var 3) (.var 0)))) (.lit 0)))), (.int (.ite (.ite (.app 53 0 (.cons (.var 0) (.cons (.var 1) (.cons (.var 2) (.cons (.var 3) (.cons (.var 4) (.cons (.var 5) .nil))))))) (.no (.app 53 0 (.cons (.var 6) (.cons (.var 7) (.cons (.var 8) (.cons (.var 9) (.cons (.var 10) (.cons (.var 11) .nil)))))))) (.blit true)) (.lit 0) (.ite (.ite (.app 2 0 (.cons (.var 0) (.cons (.var 1) (.cons (.var 2) .nil)))) (.ite (.app 2 0 (.cons (.var 3) (.cons (.var 4) (.cons (.var 5) .nil)))) (.ite (.app 2 0 (.cons (.var 6) (.cons (.var 7) (.cons (.var 8) .nil)))) (.app 2 0 (.cons (.var 9) (.cons (.var 10) (.cons (.var 11) .nil)))) (.blit false)) (.blit false)) (.blit false)) (.ite (.lt (.ite (.lt (.ite (.lt (.var 1) (.var 4)) (.var 4) (.var 1)) (.var 7)) (.var 7) (.ite (.lt (.var 1) (.var 4)) (.var 4) (.var 1))) (.var 10)) (.var 10) (.ite (.lt (.ite (.lt (.var 1) (.var 4)) (.var 4) (.var 1)) (.var 7)) (.var 7) (.ite (.lt (.var 1) (.var 4)) (.var 4) (.var 1)))) (.lit 0)))), (.int (.ite (.ite (.app 53 0 (.cons (.var 0) (.cons (.var 1) (.cons (.var 2) (.cons (.var 3) (.cons (.var 4) (.cons (.var 5) .nil))))))) (.no (.app 53 0 (.cons (.var 6) (.cons (.var 7) (.cons (.var 8) (.cons (.var 9) (.cons (.var 10) (.cons (.var 11) .nil)))))))) (.blit true)) (.lit 0) (.ite (.ite (.app 2 0 (.cons (.var 0) (.cons (.var 1) (.cons (.var 2) .nil)))) (.ite (.app 2 0 (.cons (.var 3) (.cons (.var 4) (.cons (.var 5) .nil)))) (.ite (.app 2 0 (.cons (.var 6) (.cons (.var 7) (.cons (.var 8) .nil)))) (.app 2 0 (.cons (.var 9) (.cons (.var 10) (.cons (.var 11) .nil)))) (.blit false)) (.blit false)) (.blit false)) (.ite (.lt (.ite (.lt (.ite (.lt (.var 2) (.var 5)) (.var 5) (.var 2)) (.var 8)) (.var 8) (.ite (.lt (.var 2) (.var 5)) (.var 5) (.var 2))) (.var 11)) (.var 11) (.ite (.lt (.ite (.lt (.var 2) (.var 5)) (.var 5) (.var 2)) (.var 8)) (.var 8) (.ite (.lt (.var 2) (.var 5)) (.var 5) (.var 2)))) (.lit 0))))]), (.int (.ite (.ite (.app 53 0 (.cons (.var 0) (.cons (.var 1) (.cons (.var 2) (.cons (.var 3) (.cons (.var 4) (.cons (.var 5) .nil))))))) (.no (.app 53 0 (.cons (.var 6) (.cons (.var 7) (.cons (.var 8) (.cons (.var 9) (.cons (.var 10) (.cons (.var 11) .nil)))))))) (.blit true)) (.lit 1) (.ite (.ite (.app 2 0 (.cons (.var 0) (.cons (.var 1) (.cons (.var 2) .nil)))) (.ite (.app 2 0 (.cons (.var 3) (.cons (.var 4) (.cons (.var 5) .nil)))) (.ite (.app 2 0 (.cons (.var 6) (.cons (.var 7) (.cons (.var 8) .nil)))) (.app 2 0 (.cons (.var 9) (.cons (.var 10) (.cons (.var 11) .nil)))) (.blit false)) (.blit false)) (.blit false)) (.lit 0) (.lit 5))))])
theorem k_rjoin : acall cs6 20 false 55 [] (argsG [.g 6, .g 6] 0 0) (heapG [.g 6, .g 6] 0) = .leaf (R_rjoin, heapG [.g 6, .g 6] 0) := by kernel_rfl
set_option maxHeartbeats 4000000 in
set_option maxRecDepth 20000 in
theorem v_rjoin : ∀ l : List Int, l.length = lenSh [.g 6, .g 6] → Any l → valOf (E.at l) R_rjoin = some (tupleV (resV E 55 l [.g 6, .i] 0 0)) := by
  intro l hl hG
  have h0 : l.length = 12 := hl
  clear hl
  obtain ⟨a0, l1, rfl, h1⟩ := cut1 h0
  clear h0
  obtain ⟨a1, l2, rfl, h2⟩ := cut1 h1
  clear h1
  obtain ⟨a2, l3, rfl, h3⟩ := cut1 h2
  clear h2
  obtain ⟨a3, l4, rfl, h4⟩ := cut1 h3
  clear h3
  obtain ⟨a4, l5, rfl, h5⟩ := cut1 h4
  clear h4
  obtain ⟨a5, l6, rfl, h6⟩ := cut1 h5
  clear h5
  obtain ⟨a6, l7, rfl, h7⟩ := cut1 h6
  clear h6
  obtain ⟨a7, l8, rfl, h8⟩ := cut1 h7
  clear h7
  obtain ⟨a8, l9, rfl, h9⟩ := cut1 h8
  clear h8
  obtain ⟨a9, l10, rfl, h10⟩ := cut1 h9
  clear h9
  obtain ⟨a10, l11, rfl, h11⟩ := cut1 h10
  clear h10
  obtain ⟨a11, l12, rfl, h12⟩ := cut1 h11
  clear h11
  obtain rfl := cut0 h12
  clear h12
  simp only [R_rjoin, valOf, vals1, valInts, val1, tupleV, resV, valsI, den, bt1, bt2, bt3, bt4, Env.at, E, fb, fi, List.getD_cons_zero, List.getD_cons_succ, List.all_cons, List.all_nil, Bool.and_true, nr', us', ss', nr2, us2, ss2, nr3, us3, ss3, Bool.and_assoc, Option.map_some, List.all_append, List.take_succ_cons, List.take_zero, List.drop_succ_cons, List.drop_zero, minI, maxI]
  cases h : sis [a0, a1, a2, a3, a4, a5]
  · simp
  cases k : sis [a6, a7, a8, a9, a10, a11]
  · simp
  have b1 := sis_iff.1 h; have b2 := sis_iff.1 k
  have s0 := sm_iff.2 b1.sl0; have s1 := sm_iff.2 b1.sl1; have s2 := sm_iff.2 b1.sl2; have s3 := sm_iff.2 b1.sh0; have s4 := sm_iff.2 b1.sh1; have s5 := sm_iff.2 b1.sh2
  have s6 := sm_iff.2 b2.sl0; have s7 := sm_iff.2 b2.sl1; have s8 := sm_iff.2 b2.sl2; have s9 := sm_iff.2 b2.sh0; have s10 := sm_iff.2 b2.sh1; have s11 := sm_iff.2 b2.sh2
  have c0 := b1.le0; have c1 := b1.le1; have c2 := b1.le2; have c3 := b2.le0; have c4 := b2.le1; have c5 := b2.le2
  have e0 : min (min (min a0 a3) a6) a9 = min a0 a6 := by omega
  have e1 : min (min (min a1 a4) a7) a10 = min a1 a7 := by omega
  have e2 : min (min (min a2 a5) a8) a11 = min a2 a8 := by omega
  have e3 : max (max (max a0 a3) a6) a9 = max a3 a9 := by omega
  have e4 : max (max (max a1 a4) a7) a10 = max a4 a10 := by omega
  have e5 : max (max (max a2 a5) a8) a11 = max a5 a11 := by omega
  simp [s0, s1, s2, s3, s4, s5, s6, s7, s8, s9, s10, s11]
  omega

theorem c_rjoin (W : World) : Flat Try.prog E W Any 55 [.g 6, .g 6] fun l => tupleV (resV E 55 l [.g 6, .i] 0 0) := flat_val (cs6_ok W) k_rjoin v_rjoin

noncomputable def cs7 : Cx := ⟨cs6.ty, cs6.fn, [flatCon 58 [.g 6] [.i, .i] 62 noChk, flatCon 59 [.g 6] [.i, .i] 62 noChk, flatCon 63 [.g 6, .g 3] [.b] 63 noChk, flatCon 64 [.g 6, .g 3] [.b] 63 noChk, flatCon 55 [.g 6, .g 6] [.g 6, .i] 55 noChk] ++ cs6.con, cs6.inl, cs6.eqs⟩
theorem cs7_ok (W : World) : ∀ l, Any l → CxOk Try.prog (E.at l) W cs7 :=
  cx_more (cs6_ok W) (List.forall_mem_cons.2 ⟨flat_con' (c_lon W), List.forall_mem_cons.2 ⟨flat_con' (c_rlon W), List.forall_mem_cons.2 ⟨flat_con' (c_has W), List.forall_mem_cons.2 ⟨flat_con' (c_rhas W), List.forall_mem_cons.2 ⟨flat_con' (c_rjoin W), (fun _ h => by cases h)⟩⟩⟩⟩⟩)
end Go.Proofs.Ytfpnkcmplmkghaa.Sx
/- Contracts, reckoned. -/
set_option linter.unusedVariables false
set_option linter.unusedSimpArgs false
namespace Go.Proofs.Ytfpnkcmplmkghaa.Sx
open Go.RowKit

theorem axd (p q : Int) : ((q - p == 0) = false ∧ decide (q - p < 0) = false ∧ p < q ∧ ¬ q < p ∧ (p == q) = false) ∨ ((q - p == 0) = false ∧ decide (q - p < 0) = true ∧ ¬ p < q ∧ q < p ∧ (p == q) = false) ∨ ((q - p == 0) = true ∧ decide (q - p < 0) = false ∧ ¬ p < q ∧ ¬ q < p ∧ (p == q) = true) := by
  simp only [decide_eq_true_eq, decide_eq_false_iff_not, beq_iff_eq, beq_eq_false_iff_ne]; omega

def S0_rmeets : SE := (.ite (.lt (.sub (.var 3) (.var 0)) (.lit 0)) (.sub (.lit 0) (.sub (.var 3) (.var 0))) (.sub (.var 3) (.var 0)))
def S1_rmeets : SE := (.ite (.lt (.sub (.var 4) (.var 1)) (.lit 0)) (.sub (.lit 0) (.sub (.var 4) (.var 1))) (.sub (.var 4) (.var 1)))
def S2_rmeets : SE := (.ite (.lt (.sub (.var 5) (.var 2)) (.lit 0)) (.sub (.lit 0) (.sub (.var 5) (.var 2))) (.sub (.var 5) (.var 2)))
def S3_rmeets : SE := (.ite (.eq (.sub (.var 3) (.var 0)) (.lit 0)) (.lit 0) (.ite (.lt (.lit 0) (.app 51 0 (.cons (.ite (.lt (.sub (.var 3) (.var 0)) (.lit 0)) (.sub (.var 0) (.var 9)) (.sub (.var 6) (.var 0))) (.cons S0_rmeets (.cons (.lit 0) (.cons (.lit 1) .nil)))))) (.ite (.lt (.sub (.var 3) (.var 0)) (.lit 0)) (.sub (.var 0) (.var 9)) (.sub (.var 6) (.var 0))) (.lit 0)))
def S4_rmeets : SE := (.ite (.eq (.sub (.var 3) (.var 0)) (.lit 0)) (.lit 1) (.ite (.lt (.app 51 0 (.cons (.ite (.lt (.sub (.var 3) (.var 0)) (.lit 0)) (.sub (.var 0) (.var 6)) (.sub (.var 9) (.var 0))) (.cons S0_rmeets (.cons (.lit 1) (.cons (.lit 1) .nil))))) (.lit 0)) (.ite (.lt (.sub (.var 3) (.var 0)) (.lit 0)) (.sub (.var 0) (.var 6)) (.sub (.var 9) (.var 0))) (.lit 1)))
def S5_rmeets : SE := (.ite (.eq (.sub (.var 3) (.var 0)) (.lit 0)) (.lit 1) (.ite (.lt (.lit 0) (.app 51 0 (.cons (.ite (.lt (.sub (.var 3) (.var 0)) (.lit 0)) (.sub (.var 0) (.var 9)) (.sub (.var 6) (.var 0))) (.cons S0_rmeets (.cons (.lit 0) (.cons (.lit 1) .nil)))))) S0_rmeets (.lit 1)))
def S6_rmeets : SE := (.ite (.eq (.sub (.var 3) (.var 0)) (.lit 0)) (.lit 1) (.ite (.lt (.app 51 0 (.cons (.ite (.lt (.sub (.var 3) (.var 0)) (.lit 0)) (.sub (.var 0) (.var 6)) (.sub (.var 9) (.var 0))) (.cons S0_rmeets (.cons (.lit 1) (.cons (.lit 1) .nil))))) (.lit 0)) S0_rmeets (.lit 1)))
def S7_rmeets : SE := (.ite (.eq (.sub (.var 4) (.var 1)) (.lit 0)) S3_rmeets (.ite (.lt (.lit 0) (.app 51 0 (.cons (.ite (.lt (.sub (.var 4) (.var 1)) (.lit 0)) (.sub (.var 1) (.var 10)) (.sub (.var 7) (.var 1))) (.cons S1_rmeets (.cons S3_rmeets (.cons S5_rmeets .nil)))))) (.ite (.lt (.sub (.var 4) (.var 1)) (.lit 0)) (.sub (.var 1) (.var 10)) (.sub (.var 7) (.var 1))) S3_rmeets))
def S8_rmeets : SE := (.ite (.eq (.sub (.var 4) (.var 1)) (.lit 0)) S4_rmeets (.ite (.lt (.app 51 0 (.cons (.ite (.lt (.sub (.var 4) (.var 1)) (.lit 0)) (.sub (.var 1) (.var 7)) (.sub (.var 10) (.var 1))) (.cons S1_rmeets (.cons S4_rmeets (.cons S6_rmeets .nil))))) (.lit 0)) (.ite (.lt (.sub (.var 4) (.var 1)) (.lit 0)) (.sub (.var 1) (.var 7)) (.sub (.var 10) (.var 1))) S4_rmeets))
def S9_rmeets : SE := (.ite (.eq (.sub (.var 4) (.var 1)) (.lit 0)) S5_rmeets (.ite (.lt (.lit 0) (.app 51 0 (.cons (.ite (.lt (.sub (.var 4) (.var 1)) (.lit 0)) (.sub (.var 1) (.var 10)) (.sub (.var 7) (.var 1))) (.cons S1_rmeets (.cons S3_rmeets (.cons S5_rmeets .nil)))))) S1_rmeets S5_rmeets))
def S10_rmeets : SE := (.ite (.eq (.sub (.var 4) (.var 1)) (.lit 0)) S6_rmeets (.ite (.lt (.app 51 0 (.cons (.ite (.lt (.sub (.var 4) (.var 1)) (.lit 0)) (.sub (.var 1) (.var 7)) (.sub (.var 10) (.var 1))) (.cons S1_rmeets (.cons S4_rmeets (.cons S6_rmeets .nil))))) (.lit 0)) S1_rmeets S6_rmeets))
def R_rmeets : AV := (.tuple [(.bool (.ite (.ite (.app 2 0 (.cons (.var 0) (.cons (.var 1) (.cons (.var 2) .nil)))) (.no (.app 2 0 (.cons (.var 3) (.cons (.var 4) (.cons (.var 5) .nil))))) (.blit true)) (.blit false) (.ite (.app 53 0 (.cons (.var 6) (.cons (.var 7) (.cons (.var 8) (.cons (.var 9) (.cons (.var 10) (.cons (.var 11) .nil))))))) (.ite (.ite (.eq (.sub (.var 3) (.var 0)) (.lit 0)) (.ite (.le (.var 6) (.var 0)) (.le (.var 0) (.var 9)) (.blit false)) (.blit true)) (.ite (.ite (.eq (.sub (.var 4) (.var 1)) (.lit 0)) (.ite (.le (.var 7) (.var 1)) (.le (.var 1) (.var 10)) (.blit false)) (.blit true)) (.ite (.ite (.eq (.sub (.var 5) (.var 2)) (.lit 0)) (.ite (.le (.var 8) (.var 2)) (.le (.var 2) (.var 11)) (.blit false)) (.blit true)) (.le (.app 51 0 (.cons (.ite (.eq (.sub (.var 5) (.var 2)) (.lit 0)) S7_rmeets (.ite (.lt (.lit 0) (.app 51 0 (.cons (.ite (.lt (.sub (.var 5) (.var 2)) (.lit 0)) (.sub (.var 2) (.var 11)) (.sub (.var 8) (.var 2))) (.cons S2_rmeets (.cons S7_rmeets (.cons S9_rmeets .nil)))))) (.ite (.lt (.sub (.var 5) (.var 2)) (.lit 0)) (.sub (.var 2) (.var 11)) (.sub (.var 8) (.var 2))) S7_rmeets)) (.cons (.ite (.eq (.sub (.var 5) (.var 2)) (.lit 0)) S9_rmeets (.ite (.lt (.lit 0) (.app 51 0 (.cons (.ite (.lt (.sub (.var 5) (.var 2)) (.lit 0)) (.sub (.var 2) (.var 11)) (.sub (.var 8) (.var 2))) (.cons S2_rmeets (.cons S7_rmeets (.cons S9_rmeets .nil)))))) S2_rmeets S9_rmeets)) (.cons (.ite (.eq (.sub (.var 5) (.var 2)) (.lit 0)) S8_rmeets (.ite (.lt (.app 51 0 (.cons (.ite (.lt (.sub (.var 5) (.var 2)) (.lit 0)) (.sub (.var 2) (.var 8)) (.sub (.var 11) (.var 2))) (.cons S2_rmeets (.cons S8_rmeets (.cons S10_rmeets .nil))))) (.lit 0)) (.ite (.lt (.sub (.var 5) (.var 2)) (.lit 0)) (.sub (.var 2) (.var 8)) (.sub (.var 11) (.var 2))) S8_rmeets)) (.cons (.ite (.eq (.sub (.var 5) (.var 2)) (.lit 0)) S10_rmeets (.ite (.lt (.app 51 0 (.cons (.ite (.lt (.sub (.var 5) (.var 2)) (.lit 0)) (.sub (.var 2) (.var 8)) (.sub (.var 11) (.var 2))) (.cons S2_rmeets (.cons S8_rmeets (.cons S10_rmeets .nil))))) (.lit 0)) S2_rmeets S10_rmeets)) .nil))))) (.lit 0)) (.blit false)) (.blit false)) (.blit false)) (.blit false)))), (.int (.ite (.ite (.app 2 0 (.cons (.var 0) (.cons (.var 1) (.cons (.var 2) .nil)))) (.no (.app 2 0 (.cons (.var 3) (.cons (.var 4) (.cons (.var 5) .nil))))) (.blit true)) (.lit 5) (.ite (.app 53 0 (.cons (.var 6) (.cons (.var 7) (.cons (.var 8) (.cons (.var 9) (.cons (.var 10) (.cons (.var 11) .nil))))))) (.lit 0) (.lit 1))))])
theorem k_rmeets : acall cs7 20 false 57 [] (argsG [.g 3, .g 3, .g 6] 0 0) (heapG [.g 3, .g 3, .g 6] 0) = .leaf (R_rmeets, heapG [.g 3, .g 3, .g 6] 0) := by kernel_rfl
set_option maxHeartbeats 4000000 in
set_option maxRecDepth 20000 in
theorem v_rmeets : ∀ l : List Int, l.length = lenSh [.g 3, .g 3, .g 6] → Any l → valOf (E.at l) R_rmeets = some (tupleV (resV E 54 l [.b, .i] 0 0)) := by
  intro l hl hG
  have h0 : l.length = 12 := hl
  clear hl
  obtain ⟨a0, l1, rfl, h1⟩ := cut1 h0
  clear h0
  obtain ⟨a1, l2, rfl, h2⟩ := cut1 h1
  clear h1
  obtain ⟨a2, l3, rfl, h3⟩ := cut1 h2
  clear h2
  obtain ⟨a3, l4, rfl, h4⟩ := cut1 h3
  clear h3
  obtain ⟨a4, l5, rfl, h5⟩ := cut1 h4
  clear h4
  obtain ⟨a5, l6, rfl, h6⟩ := cut1 h5
  clear h5
  obtain ⟨a6, l7, rfl, h7⟩ := cut1 h6
  clear h6
  obtain ⟨a7, l8, rfl, h8⟩ := cut1 h7
  clear h7
  obtain ⟨a8, l9, rfl, h9⟩ := cut1 h8
  clear h8
  obtain ⟨a9, l10, rfl, h10⟩ := cut1 h9
  clear h9
  obtain ⟨a10, l11, rfl, h11⟩ := cut1 h10
  clear h10
  obtain ⟨a11, l12, rfl, h12⟩ := cut1 h11
  clear h11
  obtain rfl := cut0 h12
  clear h12
  simp only [R_rmeets, S0_rmeets, S1_rmeets, S2_rmeets, S3_rmeets, S4_rmeets, S5_rmeets, S6_rmeets, S7_rmeets, S8_rmeets, S9_rmeets, S10_rmeets, valOf, vals1, valInts, val1, tupleV, resV, valsI, den, bt1, bt2, bt3, bt4, Env.at, E, fb, fi, List.getD_cons_zero, List.getD_cons_succ, List.all_cons, List.all_nil, Bool.and_true, nr', us', ss', nr2, us2, ss2, nr3, us3, ss3, Bool.and_assoc, Option.map_some, List.all_append, List.take_succ_cons, List.take_zero, List.drop_succ_cons, List.drop_zero]
  have ga : (!(ss a0 && (ss a1 && ss a2)) || !(ss a3 && (ss a4 && ss a5))) = !(ss a0 && (ss a1 && (ss a2 && (ss a3 && (ss a4 && (ss a5)))))) := by simp only [Bool.not_and, Bool.or_assoc]
  simp only [ga, Bool.not_not]
  clear ga
  cases h : (ss a0 && (ss a1 && (ss a2 && (ss a3 && (ss a4 && (ss a5))))))
  · have key : ∀ X : Bool, (ss a0 && (ss a1 && (ss a2 && (ss a3 && (ss a4 && (ss a5 && X)))))) = false := fun X => by
      have := congrArg (· && X) h
      simpa only [Bool.and_assoc, Bool.false_and] using this
    simp only [key, h, Bool.not_false, Bool.false_and, if_true, Bool.false_eq_true, if_false]
  cases k : sis [a6, a7, a8, a9, a10, a11]
  · simp
  have hs := h
  simp only [Bool.and_eq_true] at hs
  obtain ⟨h0, h1, h2, h3, h4, h5⟩ := hs
  have p0 := ss_b h0; have p1 := ss_b h1; have p2 := ss_b h2; have p3 := ss_b h3; have p4 := ss_b h4; have p5 := ss_b h5
  have b := sis_iff.1 k
  have b0 := b.sl0; have b1 := b.sl1; have b2 := b.sl2; have b3 := b.sh0; have b4 := b.sh1; have b5 := b.sh2
  unfold Sm at b0 b1 b2 b3 b4 b5
  have w0 : IntKind.i64.wrap (a3 - a0) = a3 - a0 := by rw [wr (by omega)]
  have w1 : IntKind.i64.wrap (a6 - a0) = a6 - a0 := by rw [wr (by omega)]
  have w2 : IntKind.i64.wrap (a9 - a0) = a9 - a0 := by rw [wr (by omega)]
  have w3 : IntKind.i64.wrap (a0 - a9) = a0 - a9 := by rw [wr (by omega)]
  have w4 : IntKind.i64.wrap (a0 - a6) = a0 - a6 := by rw [wr (by omega)]
  have w5 : IntKind.i64.wrap (0 - (a3 - a0)) = a0 - a3 := by rw [wr (by omega)]; omega
  have w6 : IntKind.i64.wrap (a4 - a1) = a4 - a1 := by rw [wr (by omega)]
  have w7 : IntKind.i64.wrap (a7 - a1) = a7 - a1 := by rw [wr (by omega)]
  have w8 : IntKind.i64.wrap (a10 - a1) = a10 - a1 := by rw [wr (by omega)]
  have w9 : IntKind.i64.wrap (a1 - a10) = a1 - a10 := by rw [wr (by omega)]
  have w10 : IntKind.i64.wrap (a1 - a7) = a1 - a7 := by rw [wr (by omega)]
  have w11 : IntKind.i64.wrap (0 - (a4 - a1)) = a1 - a4 := by rw [wr (by omega)]; omega
  have w12 : IntKind.i64.wrap (a5 - a2) = a5 - a2 := by rw [wr (by omega)]
  have w13 : IntKind.i64.wrap (a8 - a2) = a8 - a2 := by rw [wr (by omega)]
  have w14 : IntKind.i64.wrap (a11 - a2) = a11 - a2 := by rw [wr (by omega)]
  have w15 : IntKind.i64.wrap (a2 - a11) = a2 - a11 := by rw [wr (by omega)]
  have w16 : IntKind.i64.wrap (a2 - a8) = a2 - a8 := by rw [wr (by omega)]
  have w17 : IntKind.i64.wrap (0 - (a5 - a2)) = a2 - a5 := by rw [wr (by omega)]; omega
  simp only [h0, h1, h2, h3, h4, h5, h, w0, w1, w2, w3, w4, w5, w6, w7, w8, w9, w10, w11, w12, w13, w14, w15, w16, w17, if_true, Bool.true_and, Bool.not_true, Bool.false_eq_true, if_false]
  clear p0 p1 p2 p3 p4 p5 b0 b1 b2 b3 b4 b5 b h0 h1 h2 h3 h4 h5 h k w0 w1 w2 w3 w4 w5 w6 w7 w8 w9 w10 w11 w12 w13 w14 w15 w16 w17
  simp only [meetB, mL3, mL2, mL1, mU3, mU2, mU1, clL, clU, outA, List.getD_cons_zero, List.getD_cons_succ]
  rcases axd a0 a3 with ⟨x1, x2, x3, x4, x5⟩ | ⟨x1, x2, x3, x4, x5⟩ | ⟨x1, x2, x3, x4, x5⟩ <;> rcases axd a1 a4 with ⟨y1, y2, y3, y4, y5⟩ | ⟨y1, y2, y3, y4, y5⟩ | ⟨y1, y2, y3, y4, y5⟩ <;> rcases axd a2 a5 with ⟨z1, z2, z3, z4, z5⟩ | ⟨z1, z2, z3, z4, z5⟩ | ⟨z1, z2, z3, z4, z5⟩ <;>
    simp only [x1, x2, x3, x4, x5, y1, y2, y3, y4, y5, z1, z2, z3, z4, z5, if_true, if_false, Bool.false_eq_true, Bool.true_and, Bool.false_and, Bool.not_false, Bool.not_true, Bool.and_true, Bool.true_or, Bool.false_or, Bool.not_or, dnlt, decide_eq_true_eq, apply_ite Prod.fst, apply_ite Prod.snd]

theorem c_rmeets (W : World) : Flat Try.prog E W Any 57 [.g 3, .g 3, .g 6] fun l => tupleV (resV E 54 l [.b, .i] 0 0) := flat_val (cs7_ok W) k_rmeets v_rmeets

noncomputable def cs8 : Cx := ⟨cs7.ty, cs7.fn, [flatCon 57 [.g 3, .g 3, .g 6] [.b, .i] 54 noChk] ++ cs7.con, cs7.inl, cs7.eqs⟩
theorem cs8_ok (W : World) : ∀ l, Any l → CxOk Try.prog (E.at l) W cs8 :=
  cx_more (cs7_ok W) (List.forall_mem_cons.2 ⟨flat_con' (c_rmeets W), (fun _ h => by cases h)⟩)
end Go.Proofs.Ytfpnkcmplmkghaa.Sx
/- Boxes compared: a struct of two points. -/
set_option linter.unusedVariables false
set_option linter.unusedSimpArgs false
namespace Go.Proofs.Ytfpnkcmplmkghaa.Sx
open Go.RowKit
theorem run_part_agg {P : Program} {t : TypeId} {fs : Array Field} (h : P.underlying t = some (.struct fs)) {n : Nat} (hc : ∀ w, (Go.sizeOf t).run P w = .ok n w) {cs : Array Value} {k : Nat} {xs : Array Value} (hv : cs.extract k (k + n) = xs) (w : World) : (Go.part t cs k).run P w = .ok (.agg xs) w := by
  unfold Go.part
  have : (isAgg t).run P w = .ok true w := by unfold isAgg; simp [Sem.run_bind, run_underlying h]
  simp [Sem.run_bind, this, hc, hv]
set_option maxRecDepth 20000 in
theorem eqV3' (d : Nat) (a b c x y z : Int) (w : World) : (Op.equalIn (d + 2) 29 (.agg #[.int .i64 a, .int .i64 b, .int .i64 c]) (.agg #[.int .i64 x, .int .i64 y, .int .i64 z])).run Try.prog w = .ok (eqI [a, b, c] [x, y, z]) w := by
  have hu : Try.prog.underlying 29 = some (.struct (Try.prog.fieldsOf 29)) := by unfold Program.fieldsOf; rw [Try.underlying29]
  have e := run_equalIn_struct (P := Try.prog) w (d + 1) 29 #[.int .i64 a, .int .i64 b, .int .i64 c] #[.int .i64 x, .int .i64 y, .int .i64 z] hu (by kernel_rfl)
  rw [e]
  have hf : intFields Try.prog 0 (Try.prog.fieldsOf 29).toList := by
    unfold Program.fieldsOf; rw [Try.underlying29]
    exact ⟨by decide, Try.underlying3, rfl, by decide, Try.underlying3, rfl, by decide, Try.underlying3, rfl, trivial⟩
  have hl : (Try.prog.fieldsOf 29).toList.length = 3 := by kernel_rfl
  generalize (Try.prog.fieldsOf 29).toList = fs at *
  have := run_eqFields (P := Try.prog) (d := d) w fs 0 [a, b, c] [x, y, z] hf (by rw [hl]; simp) (by rw [hl]; simp)
  simpa only [List.map_cons, List.map_nil, List.drop_zero] using this
set_option maxRecDepth 20000 in
theorem eqBox : EqOk Try.prog 69 6 := by
  have hu : Try.prog.underlying 69 = some (.struct (Try.prog.fieldsOf 69)) := by unfold Program.fieldsOf; rw [Try.underlying69]
  obtain ⟨f1, f2, hfs, t1, t2, o1, o2, n1, n2⟩ : ∃ f1 f2 : Field, (Try.prog.fieldsOf 69).toList = [f1, f2] ∧ f1.type = 29 ∧ f2.type = 29 ∧ f1.offset = 0 ∧ f2.offset = 3 ∧ f1.name ≠ "_" ∧ f2.name ≠ "_" := by
    unfold Program.fieldsOf; rw [Try.underlying69]
    exact ⟨_, _, rfl, rfl, rfl, rfl, rfl, by decide, by decide⟩
  intro x y l m w hl hm
  obtain ⟨a0, l1, rfl, h1⟩ := cut1 hl
  obtain ⟨a1, l2, rfl, h2⟩ := cut1 h1
  obtain ⟨a2, l3, rfl, h3⟩ := cut1 h2
  obtain ⟨a3, l4, rfl, h4⟩ := cut1 h3
  obtain ⟨a4, l5, rfl, h5⟩ := cut1 h4
  obtain ⟨a5, l6, rfl, h6⟩ := cut1 h5
  obtain rfl := cut0 h6
  obtain ⟨b0, m1, rfl, k1⟩ := cut1 hm
  obtain ⟨b1, m2, rfl, k2⟩ := cut1 k1
  obtain ⟨b2, m3, rfl, k3⟩ := cut1 k2
  obtain ⟨b3, m4, rfl, k4⟩ := cut1 k3
  obtain ⟨b4, m5, rfl, k5⟩ := cut1 k4
  obtain ⟨b5, m6, rfl, k6⟩ := cut1 k5
  obtain rfl := cut0 k6
  clear hl h1 h2 h3 h4 h5 h6 hm k1 k2 k3 k4 k5 k6
  have sz : ∀ w, (Go.sizeOf 29).run Try.prog w = .ok 3 w := fun w => ty29.size
  have uV := Try.underlying29
  have e := run_equalIn_struct (P := Try.prog) w 9999 69 ([a0, a1, a2, a3, a4, a5].map (Value.int .i64)).toArray ([b0, b1, b2, b3, b4, b5].map (Value.int .i64)).toArray hu (by kernel_rfl)
  have e2 : (Op.eqFields 9999 ([a0, a1, a2, a3, a4, a5].map (Value.int .i64)).toArray ([b0, b1, b2, b3, b4, b5].map (Value.int .i64)).toArray [f1, f2]).run Try.prog w = .ok (eqI [a0, a1, a2, a3, a4, a5] [b0, b1, b2, b3, b4, b5]) w := by
    unfold Op.eqFields
    rw [if_pos n1, t1, o1]
    simp only [Sem.run_bind, run_part_agg uV sz (k := 0) (xs := #[.int .i64 a0, .int .i64 a1, .int .i64 a2]) (cs := ([a0, a1, a2, a3, a4, a5].map (Value.int .i64)).toArray) (by simp), run_part_agg uV sz (k := 0) (xs := #[.int .i64 b0, .int .i64 b1, .int .i64 b2]) (cs := ([b0, b1, b2, b3, b4, b5].map (Value.int .i64)).toArray) (by simp), Result.andThen_ok, eqV3' 9997]
    cases hb : eqI [a0, a1, a2] [b0, b1, b2]
    · simp only [Bool.not_false, if_true, Sem.run_pure]
      congr 1
      simp only [eqI, Bool.and_true] at hb ⊢
      rw [← Bool.and_assoc, ← Bool.and_assoc, Bool.and_assoc (a0 == b0), hb]; rfl
    · simp only [Bool.not_true, Bool.false_eq_true, if_false]
      unfold Op.eqFields
      rw [if_pos n2, t2, o2]
      simp only [Sem.run_bind, run_part_agg uV sz (k := 3) (xs := #[.int .i64 a3, .int .i64 a4, .int .i64 a5]) (cs := ([a0, a1, a2, a3, a4, a5].map (Value.int .i64)).toArray) (by simp), run_part_agg uV sz (k := 3) (xs := #[.int .i64 b3, .int .i64 b4, .int .i64 b5]) (cs := ([b0, b1, b2, b3, b4, b5].map (Value.int .i64)).toArray) (by simp), Result.andThen_ok, eqV3' 9997]
      simp only [eqI, Bool.and_true] at hb ⊢
      simp only [Bool.and_eq_true] at hb
      obtain ⟨q0, q1, q2⟩ := hb
      simp only [q0, q1, q2, Bool.true_and]
      cases hc : ((a3 == b3) && ((a4 == b4) && (a5 == b5))) <;> simp [Op.eqFields]
  rw [hfs, e2] at e
  constructor
  · rw [Sem.run_bind, run_eqGuard_agg w _ _ _ _ _ _ (by kernel_rfl), Result.andThen_ok, run_eql_struct, e]; rfl
  · rw [Sem.run_bind, run_eqGuard_agg w _ _ _ _ _ _ (by kernel_rfl), Result.andThen_ok, run_neq_struct, e]; rfl
noncomputable def cs9x : Cx := ⟨cs8.ty, cs8.fn, cs8.con, cs8.inl, (69, 6) :: cs8.eqs⟩
theorem cs9x_ok (W : World) : ∀ l, Any l → CxOk Try.prog (E.at l) W cs9x := fun l h =>
  let x := cs8_ok W l trivial
  ⟨x.ty, x.fn, x.con, List.forall_mem_cons.2 ⟨eqBox, x.eqs⟩, x.mixed⟩
end Go.Proofs.Ytfpnkcmplmkghaa.Sx
