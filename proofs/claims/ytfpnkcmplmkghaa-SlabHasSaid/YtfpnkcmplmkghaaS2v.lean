/- Contract of Meets. -/
import Derived.Test.YtfpnkcmplmkghaaS2r
import Derived.KernelRfl
set_option linter.unusedVariables false
set_option linter.unusedSimpArgs false
namespace Go.Proofs.Ytfpnkcmplmkghaa.Sx
open Go.RowKit
set_option maxHeartbeats 4000000 in
set_option maxRecDepth 20000 in
theorem v_smeets : ∀ l : List Int, l.length = lenSh [.g 3, .g 3, .g 6] → Any l → valOf (E.at l) R_smeets = some (tupleV (resV E 54 l [.b, .i] 0 0)) := by
  intro l hl hG
  have h0 : l.length = 12 := hl
  clear hl
  obtain ⟨a0, l1, rfl, h1⟩ := cut1 h0
  clear h0
  obtain ⟨a1, l2, rfl, h2⟩ := cut1 h1
  clear h1
  obtain ⟨a2, l3, rfl, h3⟩ := cut1 h2
  clear h2
  obtain ⟨a3, l4, rfl, h4⟩ := cut1 h3
  clear h3
  obtain ⟨a4, l5, rfl, h5⟩ := cut1 h4
  clear h4
  obtain ⟨a5, l6, rfl, h6⟩ := cut1 h5
  clear h5
  obtain ⟨a6, l7, rfl, h7⟩ := cut1 h6
  clear h6
  obtain ⟨a7, l8, rfl, h8⟩ := cut1 h7
  clear h7
  obtain ⟨a8, l9, rfl, h9⟩ := cut1 h8
  clear h8
  obtain ⟨a9, l10, rfl, h10⟩ := cut1 h9
  clear h9
  obtain ⟨a10, l11, rfl, h11⟩ := cut1 h10
  clear h10
  obtain ⟨a11, l12, rfl, h12⟩ := cut1 h11
  clear h11
  obtain rfl := cut0 h12
  clear h12
  simp only [R_smeets, S0_smeets, S1_smeets, S2_smeets, S3_smeets, S4_smeets, S5_smeets, S6_smeets, S7_smeets, S8_smeets, S9_smeets, S10_smeets, S11_smeets, S12_smeets, S13_smeets, S14_smeets, S15_smeets, S16_smeets, S17_smeets, S18_smeets, S19_smeets, S20_smeets, S21_smeets, S22_smeets, S23_smeets, S24_smeets, S25_smeets, S26_smeets, S27_smeets, S28_smeets, S29_smeets, S30_smeets, S31_smeets, S32_smeets, S33_smeets, S34_smeets, S35_smeets, S36_smeets, S37_smeets, S38_smeets, S39_smeets, S40_smeets, S41_smeets, S42_smeets, S43_smeets, valOf, vals1, valInts, val1, tupleV, resV, valsI, den, bt1, bt2, bt3, bt4, Env.at, E, fb, fi, List.getD_cons_zero, List.getD_cons_succ, List.all_cons, List.all_nil, Bool.and_true, nr', us', ss', nr2, us2, ss2, nr3, us3, ss3, Bool.and_assoc, Option.map_some, List.all_append, List.take_succ_cons, List.take_zero, List.drop_succ_cons, List.drop_zero]
  cases h : (ss a0 && (ss a1 && (ss a2 && (ss a3 && (ss a4 && (ss a5))))))
  · have key : ∀ X : Bool, (ss a0 && (ss a1 && (ss a2 && (ss a3 && (ss a4 && (ss a5 && X)))))) = false := fun X => by
      have := congrArg (· && X) h
      simpa only [Bool.and_assoc, Bool.false_and] using this
    simp only [key, h, Bool.false_eq_true, if_false]
  cases k : sis [a6, a7, a8, a9, a10, a11]
  · simp
  have hs := h
  simp only [Bool.and_eq_true] at hs
  obtain ⟨h0, h1, h2, h3, h4, h5⟩ := hs
  have p0 := ss_b h0; have p1 := ss_b h1; have p2 := ss_b h2; have p3 := ss_b h3; have p4 := ss_b h4; have p5 := ss_b h5
  have b := sis_iff.1 k
  have b0 := b.sl0; have b1 := b.sl1; have b2 := b.sl2; have b3 := b.sh0; have b4 := b.sh1; have b5 := b.sh2
  unfold Sm at b0 b1 b2 b3 b4 b5
  have w0 : IntKind.i64.wrap (a3 - a0) = a3 - a0 := by rw [wr (by omega)]
  have w1 : IntKind.i64.wrap (a6 - a0) = a6 - a0 := by rw [wr (by omega)]
  have w2 : IntKind.i64.wrap (a9 - a0) = a9 - a0 := by rw [wr (by omega)]
  have w3 : IntKind.i64.wrap (a0 - a9) = a0 - a9 := by rw [wr (by omega)]
  have w4 : IntKind.i64.wrap (a0 - a6) = a0 - a6 := by rw [wr (by omega)]
  have w5 : IntKind.i64.wrap (0 - (a3 - a0)) = a0 - a3 := by rw [wr (by omega)]; omega
  have w6 : IntKind.i64.wrap (a4 - a1) = a4 - a1 := by rw [wr (by omega)]
  have w7 : IntKind.i64.wrap (a7 - a1) = a7 - a1 := by rw [wr (by omega)]
  have w8 : IntKind.i64.wrap (a10 - a1) = a10 - a1 := by rw [wr (by omega)]
  have w9 : IntKind.i64.wrap (a1 - a10) = a1 - a10 := by rw [wr (by omega)]
  have w10 : IntKind.i64.wrap (a1 - a7) = a1 - a7 := by rw [wr (by omega)]
  have w11 : IntKind.i64.wrap (0 - (a4 - a1)) = a1 - a4 := by rw [wr (by omega)]; omega
  have w12 : IntKind.i64.wrap (a5 - a2) = a5 - a2 := by rw [wr (by omega)]
  have w13 : IntKind.i64.wrap (a8 - a2) = a8 - a2 := by rw [wr (by omega)]
  have w14 : IntKind.i64.wrap (a11 - a2) = a11 - a2 := by rw [wr (by omega)]
  have w15 : IntKind.i64.wrap (a2 - a11) = a2 - a11 := by rw [wr (by omega)]
  have w16 : IntKind.i64.wrap (a2 - a8) = a2 - a8 := by rw [wr (by omega)]
  have w17 : IntKind.i64.wrap (0 - (a5 - a2)) = a2 - a5 := by rw [wr (by omega)]; omega
  clear p0 p1 p2 p3 p4 p5 b0 b1 b2 b3 b4 b5 b h0 h1 h2 h3 h4 h5 h k
  simp only [w0, w1, w2, w3, w4, w5, w6, w7, w8, w9, w10, w11, w12, w13, w14, w15, w16, w17, if_true, Bool.true_and]
  clear w0 w1 w2 w3 w4 w5 w6 w7 w8 w9 w10 w11 w12 w13 w14 w15 w16 w17
  simp only [meetB, mL3, mL2, mL1, mU3, mU2, mU1, clL, clU, outA, List.getD_cons_zero, List.getD_cons_succ]
  rcases axc a0 a3 with ⟨x1, x2, x3, x4, x5⟩ | ⟨x1, x2, x3, x4, x5⟩ | ⟨x1, x2, x3, x4, x5⟩ <;> rcases axc a1 a4 with ⟨y1, y2, y3, y4, y5⟩ | ⟨y1, y2, y3, y4, y5⟩ | ⟨y1, y2, y3, y4, y5⟩ <;> rcases axc a2 a5 with ⟨z1, z2, z3, z4, z5⟩ | ⟨z1, z2, z3, z4, z5⟩ | ⟨z1, z2, z3, z4, z5⟩ <;>
    simp only [x1, x2, x3, x4, x5, y1, y2, y3, y4, y5, z1, z2, z3, z4, z5, if_true, if_false, Bool.false_eq_true, Bool.true_and, Bool.false_and, Bool.not_false, Bool.not_true, Bool.and_true, decide_eq_true_eq, apply_ite Prod.fst, apply_ite Prod.snd]
theorem c_smeets (W : World) : Flat Try.prog E W Any 56 [.g 3, .g 3, .g 6] fun l => tupleV (resV E 54 l [.b, .i] 0 0) := flat_val (cs1_ok W) k_smeets v_smeets

noncomputable def cs2 : Cx := ⟨cs1.ty, cs1.fn, [flatCon 56 [.g 3, .g 3, .g 6] [.b, .i] 54 noChk] ++ cs1.con, cs1.inl, cs1.eqs⟩
theorem cs2_ok (W : World) : ∀ l, Any l → CxOk Try.prog (E.at l) W cs2 :=
  cx_more (cs1_ok W) (List.forall_mem_cons.2 ⟨flat_con' (c_smeets W), (fun _ h => by cases h)⟩)
end Go.Proofs.Ytfpnkcmplmkghaa.Sx
