/- Contracts, reckoned. -/
import Derived.Test.YtfpnkcmplmkghaaS12
import Derived.Test.YtfpnkcmplmkghaaFw
import Derived.Test.YtfpnkcmplmkghaaSm
import Derived.KernelRfl
set_option linter.unusedVariables false
set_option linter.unusedSimpArgs false
namespace Go.Proofs.Ytfpnkcmplmkghaa.Sx
open Go.RowKit

theorem axd (p q : Int) : ((q - p == 0) = false ∧ decide (q - p < 0) = false ∧ p < q ∧ ¬ q < p ∧ (p == q) = false) ∨ ((q - p == 0) = false ∧ decide (q - p < 0) = true ∧ ¬ p < q ∧ q < p ∧ (p == q) = false) ∨ ((q - p == 0) = true ∧ decide (q - p < 0) = false ∧ ¬ p < q ∧ ¬ q < p ∧ (p == q) = true) := by
  simp only [decide_eq_true_eq, decide_eq_false_iff_not, beq_iff_eq, beq_eq_false_iff_ne]; omega

def S0_rmeets : SE := (.ite (.lt (.sub (.var 3) (.var 0)) (.lit 0)) (.sub (.lit 0) (.sub (.var 3) (.var 0))) (.sub (.var 3) (.var 0)))
def S1_rmeets : SE := (.ite (.lt (.sub (.var 4) (.var 1)) (.lit 0)) (.sub (.lit 0) (.sub (.var 4) (.var 1))) (.sub (.var 4) (.var 1)))
def S2_rmeets : SE := (.ite (.lt (.sub (.var 5) (.var 2)) (.lit 0)) (.sub (.lit 0) (.sub (.var 5) (.var 2))) (.sub (.var 5) (.var 2)))
def S3_rmeets : SE := (.ite (.eq (.sub (.var 3) (.var 0)) (.lit 0)) (.lit 0) (.ite (.lt (.lit 0) (.app 51 0 (.cons (.ite (.lt (.sub (.var 3) (.var 0)) (.lit 0)) (.sub (.var 0) (.var 9)) (.sub (.var 6) (.var 0))) (.cons S0_rmeets (.cons (.lit 0) (.cons (.lit 1) .nil)))))) (.ite (.lt (.sub (.var 3) (.var 0)) (.lit 0)) (.sub (.var 0) (.var 9)) (.sub (.var 6) (.var 0))) (.lit 0)))
def S4_rmeets : SE := (.ite (.eq (.sub (.var 3) (.var 0)) (.lit 0)) (.lit 1) (.ite (.lt (.app 51 0 (.cons (.ite (.lt (.sub (.var 3) (.var 0)) (.lit 0)) (.sub (.var 0) (.var 6)) (.sub (.var 9) (.var 0))) (.cons S0_rmeets (.cons (.lit 1) (.cons (.lit 1) .nil))))) (.lit 0)) (.ite (.lt (.sub (.var 3) (.var 0)) (.lit 0)) (.sub (.var 0) (.var 6)) (.sub (.var 9) (.var 0))) (.lit 1)))
def S5_rmeets : SE := (.ite (.eq (.sub (.var 3) (.var 0)) (.lit 0)) (.lit 1) (.ite (.lt (.lit 0) (.app 51 0 (.cons (.ite (.lt (.sub (.var 3) (.var 0)) (.lit 0)) (.sub (.var 0) (.var 9)) (.sub (.var 6) (.var 0))) (.cons S0_rmeets (.cons (.lit 0) (.cons (.lit 1) .nil)))))) S0_rmeets (.lit 1)))
def S6_rmeets : SE := (.ite (.eq (.sub (.var 3) (.var 0)) (.lit 0)) (.lit 1) (.ite (.lt (.app 51 0 (.cons (.ite (.lt (.sub (.var 3) (.var 0)) (.lit 0)) (.sub (.var 0) (.var 6)) (.sub (.var 9) (.var 0))) (.cons S0_rmeets (.cons (.lit 1) (.cons (.lit 1) .nil))))) (.lit 0)) S0_rmeets (.lit 1)))
def S7_rmeets : SE := (.ite (.eq (.sub (.var 4) (.var 1)) (.lit 0)) S3_rmeets (.ite (.lt (.lit 0) (.app 51 0 (.cons (.ite (.lt (.sub (.var 4) (.var 1)) (.lit 0)) (.sub (.var 1) (.var 10)) (.sub (.var 7) (.var 1))) (.cons S1_rmeets (.cons S3_rmeets (.cons S5_rmeets .nil)))))) (.ite (.lt (.sub (.var 4) (.var 1)) (.lit 0)) (.sub (.var 1) (.var 10)) (.sub (.var 7) (.var 1))) S3_rmeets))
def S8_rmeets : SE := (.ite (.eq (.sub (.var 4) (.var 1)) (.lit 0)) S4_rmeets (.ite (.lt (.app 51 0 (.cons (.ite (.lt (.sub (.var 4) (.var 1)) (.lit 0)) (.sub (.var 1) (.var 7)) (.sub (.var 10) (.var 1))) (.cons S1_rmeets (.cons S4_rmeets (.cons S6_rmeets .nil))))) (.lit 0)) (.ite (.lt (.sub (.var 4) (.var 1)) (.lit 0)) (.sub (.var 1) (.var 7)) (.sub (.var 10) (.var 1))) S4_rmeets))
def S9_rmeets : SE := (.ite (.eq (.sub (.var 4) (.var 1)) (.lit 0)) S5_rmeets (.ite (.lt (.lit 0) (.app 51 0 (.cons (.ite (.lt (.sub (.var 4) (.var 1)) (.lit 0)) (.sub (.var 1) (.var 10)) (.sub (.var 7) (.var 1))) (.cons S1_rmeets (.cons S3_rmeets (.cons S5_rmeets .nil)))))) S1_rmeets S5_rmeets))
def S10_rmeets : SE := (.ite (.eq (.sub (.var 4) (.var 1)) (.lit 0)) S6_rmeets (.ite (.lt (.app 51 0 (.cons (.ite (.lt (.sub (.var 4) (.var 1)) (.lit 0)) (.sub (.var 1) (.var 7)) (.sub (.var 10) (.var 1))) (.cons S1_rmeets (.cons S4_rmeets (.cons S6_rmeets .nil))))) (.lit 0)) S1_rmeets S6_rmeets))
def R_rmeets : AV := (.tuple [(.bool (.ite (.ite (.app 2 0 (.cons (.var 0) (.cons (.var 1) (.cons (.var 2) .nil)))) (.no (.app 2 0 (.cons (.var 3) (.cons (.var 4) (.cons (.var 5) .nil))))) (.blit true)) (.blit false) (.ite (.app 53 0 (.cons (.var 6) (.cons (.var 7) (.cons (.var 8) (.cons (.var 9) (.cons (.var 10) (.cons (.var 11) .nil))))))) (.ite (.ite (.eq (.sub (.var 3) (.var 0)) (.lit 0)) (.ite (.le (.var 6) (.var 0)) (.le (.var 0) (.var 9)) (.blit false)) (.blit true)) (.ite (.ite (.eq (.sub (.var 4) (.var 1)) (.lit 0)) (.ite (.le (.var 7) (.var 1)) (.le (.var 1) (.var 10)) (.blit false)) (.blit true)) (.ite (.ite (.eq (.sub (.var 5) (.var 2)) (.lit 0)) (.ite (.le (.var 8) (.var 2)) (.le (.var 2) (.var 11)) (.blit false)) (.blit true)) (.le (.app 51 0 (.cons (.ite (.eq (.sub (.var 5) (.var 2)) (.lit 0)) S7_rmeets (.ite (.lt (.lit 0) (.app 51 0 (.cons (.ite (.lt (.sub (.var 5) (.var 2)) (.lit 0)) (.sub (.var 2) (.var 11)) (.sub (.var 8) (.var 2))) (.cons S2_rmeets (.cons S7_rmeets (.cons S9_rmeets .nil)))))) (.ite (.lt (.sub (.var 5) (.var 2)) (.lit 0)) (.sub (.var 2) (.var 11)) (.sub (.var 8) (.var 2))) S7_rmeets)) (.cons (.ite (.eq (.sub (.var 5) (.var 2)) (.lit 0)) S9_rmeets (.ite (.lt (.lit 0) (.app 51 0 (.cons (.ite (.lt (.sub (.var 5) (.var 2)) (.lit 0)) (.sub (.var 2) (.var 11)) (.sub (.var 8) (.var 2))) (.cons S2_rmeets (.cons S7_rmeets (.cons S9_rmeets .nil)))))) S2_rmeets S9_rmeets)) (.cons (.ite (.eq (.sub (.var 5) (.var 2)) (.lit 0)) S8_rmeets (.ite (.lt (.app 51 0 (.cons (.ite (.lt (.sub (.var 5) (.var 2)) (.lit 0)) (.sub (.var 2) (.var 8)) (.sub (.var 11) (.var 2))) (.cons S2_rmeets (.cons S8_rmeets (.cons S10_rmeets .nil))))) (.lit 0)) (.ite (.lt (.sub (.var 5) (.var 2)) (.lit 0)) (.sub (.var 2) (.var 8)) (.sub (.var 11) (.var 2))) S8_rmeets)) (.cons (.ite (.eq (.sub (.var 5) (.var 2)) (.lit 0)) S10_rmeets (.ite (.lt (.app 51 0 (.cons (.ite (.lt (.sub (.var 5) (.var 2)) (.lit 0)) (.sub (.var 2) (.var 8)) (.sub (.var 11) (.var 2))) (.cons S2_rmeets (.cons S8_rmeets (.cons S10_rmeets .nil))))) (.lit 0)) S2_rmeets S10_rmeets)) .nil))))) (.lit 0)) (.blit false)) (.blit false)) (.blit false)) (.blit false)))), (.int (.ite (.ite (.app 2 0 (.cons (.var 0) (.cons (.var 1) (.cons (.var 2) .nil)))) (.no (.app 2 0 (.cons (.var 3) (.cons (.var 4) (.cons (.var 5) .nil))))) (.blit true)) (.lit 5) (.ite (.app 53 0 (.cons (.var 6) (.cons (.var 7) (.cons (.var 8) (.cons (.var 9) (.cons (.var 10) (.cons (.var 11) .nil))))))) (.lit 0) (.lit 1))))])
theorem k_rmeets : acall cs7 20 false 57 [] (argsG [.g 3, .g 3, .g 6] 0 0) (heapG [.g 3, .g 3, .g 6] 0) = .leaf (R_rmeets, heapG [.g 3, .g 3, .g 6] 0) := by kernel_rfl
set_option maxHeartbeats 4000000 in
set_option maxRecDepth 20000 in
theorem v_rmeets : ∀ l : List Int, l.length = lenSh [.g 3, .g 3, .g 6] → Any l → valOf (E.at l) R_rmeets = some (tupleV (resV E 54 l [.b, .i] 0 0)) := by
  intro l hl hG
  have h0 : l.length = 12 := hl
  clear hl
  obtain ⟨a0, l1, rfl, h1⟩ := cut1 h0
  clear h0
  obtain ⟨a1, l2, rfl, h2⟩ := cut1 h1
  clear h1
  obtain ⟨a2, l3, rfl, h3⟩ := cut1 h2
  clear h2
  obtain ⟨a3, l4, rfl, h4⟩ := cut1 h3
  clear h3
  obtain ⟨a4, l5, rfl, h5⟩ := cut1 h4
  clear h4
  obtain ⟨a5, l6, rfl, h6⟩ := cut1 h5
  clear h5
  obtain ⟨a6, l7, rfl, h7⟩ := cut1 h6
  clear h6
  obtain ⟨a7, l8, rfl, h8⟩ := cut1 h7
  clear h7
  obtain ⟨a8, l9, rfl, h9⟩ := cut1 h8
  clear h8
  obtain ⟨a9, l10, rfl, h10⟩ := cut1 h9
  clear h9
  obtain ⟨a10, l11, rfl, h11⟩ := cut1 h10
  clear h10
  obtain ⟨a11, l12, rfl, h12⟩ := cut1 h11
  clear h11
  obtain rfl := cut0 h12
  clear h12
  simp only [R_rmeets, S0_rmeets, S1_rmeets, S2_rmeets, S3_rmeets, S4_rmeets, S5_rmeets, S6_rmeets, S7_rmeets, S8_rmeets, S9_rmeets, S10_rmeets, valOf, vals1, valInts, val1, tupleV, resV, valsI, den, bt1, bt2, bt3, bt4, Env.at, E, fb, fi, List.getD_cons_zero, List.getD_cons_succ, List.all_cons, List.all_nil, Bool.and_true, nr', us', ss', nr2, us2, ss2, nr3, us3, ss3, Bool.and_assoc, Option.map_some, List.all_append, List.take_succ_cons, List.take_zero, List.drop_succ_cons, List.drop_zero]
  have ga : (!(ss a0 && (ss a1 && ss a2)) || !(ss a3 && (ss a4 && ss a5))) = !(ss a0 && (ss a1 && (ss a2 && (ss a3 && (ss a4 && (ss a5)))))) := by simp only [Bool.not_and, Bool.or_assoc]
  simp only [ga, Bool.not_not]
  clear ga
  cases h : (ss a0 && (ss a1 && (ss a2 && (ss a3 && (ss a4 && (ss a5))))))
  · have key : ∀ X : Bool, (ss a0 && (ss a1 && (ss a2 && (ss a3 && (ss a4 && (ss a5 && X)))))) = false := fun X => by
      have := congrArg (· && X) h
      simpa only [Bool.and_assoc, Bool.false_and] using this
    simp only [key, h, Bool.not_false, Bool.false_and, if_true, Bool.false_eq_true, if_false]
  cases k : sis [a6, a7, a8, a9, a10, a11]
  · simp
  have hs := h
  simp only [Bool.and_eq_true] at hs
  obtain ⟨h0, h1, h2, h3, h4, h5⟩ := hs
  have p0 := ss_b h0; have p1 := ss_b h1; have p2 := ss_b h2; have p3 := ss_b h3; have p4 := ss_b h4; have p5 := ss_b h5
  have b := sis_iff.1 k
  have b0 := b.sl0; have b1 := b.sl1; have b2 := b.sl2; have b3 := b.sh0; have b4 := b.sh1; have b5 := b.sh2
  unfold Sm at b0 b1 b2 b3 b4 b5
  have w0 : IntKind.i64.wrap (a3 - a0) = a3 - a0 := by rw [wr (by omega)]
  have w1 : IntKind.i64.wrap (a6 - a0) = a6 - a0 := by rw [wr (by omega)]
  have w2 : IntKind.i64.wrap (a9 - a0) = a9 - a0 := by rw [wr (by omega)]
  have w3 : IntKind.i64.wrap (a0 - a9) = a0 - a9 := by rw [wr (by omega)]
  have w4 : IntKind.i64.wrap (a0 - a6) = a0 - a6 := by rw [wr (by omega)]
  have w5 : IntKind.i64.wrap (0 - (a3 - a0)) = a0 - a3 := by rw [wr (by omega)]; omega
  have w6 : IntKind.i64.wrap (a4 - a1) = a4 - a1 := by rw [wr (by omega)]
  have w7 : IntKind.i64.wrap (a7 - a1) = a7 - a1 := by rw [wr (by omega)]
  have w8 : IntKind.i64.wrap (a10 - a1) = a10 - a1 := by rw [wr (by omega)]
  have w9 : IntKind.i64.wrap (a1 - a10) = a1 - a10 := by rw [wr (by omega)]
  have w10 : IntKind.i64.wrap (a1 - a7) = a1 - a7 := by rw [wr (by omega)]
  have w11 : IntKind.i64.wrap (0 - (a4 - a1)) = a1 - a4 := by rw [wr (by omega)]; omega
  have w12 : IntKind.i64.wrap (a5 - a2) = a5 - a2 := by rw [wr (by omega)]
  have w13 : IntKind.i64.wrap (a8 - a2) = a8 - a2 := by rw [wr (by omega)]
  have w14 : IntKind.i64.wrap (a11 - a2) = a11 - a2 := by rw [wr (by omega)]
  have w15 : IntKind.i64.wrap (a2 - a11) = a2 - a11 := by rw [wr (by omega)]
  have w16 : IntKind.i64.wrap (a2 - a8) = a2 - a8 := by rw [wr (by omega)]
  have w17 : IntKind.i64.wrap (0 - (a5 - a2)) = a2 - a5 := by rw [wr (by omega)]; omega
  simp only [h0, h1, h2, h3, h4, h5, h, w0, w1, w2, w3, w4, w5, w6, w7, w8, w9, w10, w11, w12, w13, w14, w15, w16, w17, if_true, Bool.true_and, Bool.not_true, Bool.false_eq_true, if_false]
  clear p0 p1 p2 p3 p4 p5 b0 b1 b2 b3 b4 b5 b h0 h1 h2 h3 h4 h5 h k w0 w1 w2 w3 w4 w5 w6 w7 w8 w9 w10 w11 w12 w13 w14 w15 w16 w17
  simp only [meetB, mL3, mL2, mL1, mU3, mU2, mU1, clL, clU, outA, List.getD_cons_zero, List.getD_cons_succ]
  rcases axd a0 a3 with ⟨x1, x2, x3, x4, x5⟩ | ⟨x1, x2, x3, x4, x5⟩ | ⟨x1, x2, x3, x4, x5⟩ <;> rcases axd a1 a4 with ⟨y1, y2, y3, y4, y5⟩ | ⟨y1, y2, y3, y4, y5⟩ | ⟨y1, y2, y3, y4, y5⟩ <;> rcases axd a2 a5 with ⟨z1, z2, z3, z4, z5⟩ | ⟨z1, z2, z3, z4, z5⟩ | ⟨z1, z2, z3, z4, z5⟩ <;>
    simp only [x1, x2, x3, x4, x5, y1, y2, y3, y4, y5, z1, z2, z3, z4, z5, if_true, if_false, Bool.false_eq_true, Bool.true_and, Bool.false_and, Bool.not_false, Bool.not_true, Bool.and_true, Bool.true_or, Bool.false_or, Bool.not_or, dnlt, decide_eq_true_eq, apply_ite Prod.fst, apply_ite Prod.snd]

theorem c_rmeets (W : World) : Flat Try.prog E W Any 57 [.g 3, .g 3, .g 6] fun l => tupleV (resV E 54 l [.b, .i] 0 0) := flat_val (cs7_ok W) k_rmeets v_rmeets

noncomputable def cs8 : Cx := ⟨cs7.ty, cs7.fn, [flatCon 57 [.g 3, .g 3, .g 6] [.b, .i] 54 noChk] ++ cs7.con, cs7.inl, cs7.eqs⟩
theorem cs8_ok (W : World) : ∀ l, Any l → CxOk Try.prog (E.at l) W cs8 :=
  cx_more (cs7_ok W) (List.forall_mem_cons.2 ⟨flat_con' (c_rmeets W), (fun _ h => by cases h)⟩)
end Go.Proofs.Ytfpnkcmplmkghaa.Sx
