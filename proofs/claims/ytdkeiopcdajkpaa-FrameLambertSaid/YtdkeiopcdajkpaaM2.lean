/- Contracts, reckoned. -/
import Derived.Test.YtdkeiopcdajkpaaM1
import Derived.Test.YtdkeiopcdajkpaaFp
import Derived.KernelRfl
set_option linter.unusedVariables false
set_option linter.unusedSimpArgs false
namespace Go.Proofs.Ytdkeiopcdajkpaa.Sx
open Go.RowKit

theorem axis3 (x y z : Int) : axis x y z = 0 ∨ axis x y z = 1 ∨ axis x y z = 2 := by
  unfold axis; (repeat' split) <;> simp
theorem nr_uv (k : Nat) (hk : k < 3) (a b c : Int) : nr (uv k [a, b, c]) = true := by
  have := uv_bd a b c k hk; simp [nr]; omega
theorem nr_uv0 (a b c : Int) : nr (uv 0 [a, b, c]) = true := nr_uv 0 (by decide) a b c
theorem nr_uv1 (a b c : Int) : nr (uv 1 [a, b, c]) = true := nr_uv 1 (by decide) a b c
theorem nr_uv2 (a b c : Int) : nr (uv 2 [a, b, c]) = true := nr_uv 2 (by decide) a b c
theorem nr_0 : nr 0 = true := by decide
theorem nr_1 : nr 1 = true := by decide
theorem rem3a : (IntKind.i64.wrap (0 + 1)).tmod 3 = 1 := by decide
theorem rem3b : (IntKind.i64.wrap (1 + 1)).tmod 3 = 2 := by decide
theorem rem3c : (IntKind.i64.wrap (2 + 1)).tmod 3 = 0 := by decide
theorem b10 : ((1 : Int) == 0) = false := by decide
theorem b11 : ((1 : Int) == 1) = true := by decide
theorem b12 : ((1 : Int) == 2) = false := by decide
theorem b20 : ((2 : Int) == 0) = false := by decide
theorem b21 : ((2 : Int) == 1) = false := by decide
theorem b22 : ((2 : Int) == 2) = true := by decide
theorem b00 : ((0 : Int) == 0) = true := by decide
theorem b01 : ((0 : Int) == 1) = false := by decide
theorem b02 : ((0 : Int) == 2) = false := by decide
theorem beqf {x : Int} (h : ¬ x = 0) : (x == 0) = false := by simpa using h
theorem c1 (x y : Int) : cr2 1 0 x y = y := by unfold cr2; omega
theorem c0 (x y : Int) : cr2 0 0 x y = 0 := by unfold cr2; omega
theorem c2 (x y : Int) : cr2 0 1 x y = -x := by unfold cr2; omega

def S0_open : SE := (.app 40 0 (.cons (.var 0) (.cons (.var 1) (.cons (.var 2) .nil))))
def S1_open : SE := (.app 40 1 (.cons (.var 0) (.cons (.var 1) (.cons (.var 2) .nil))))
def S2_open : SE := (.app 40 2 (.cons (.var 0) (.cons (.var 1) (.cons (.var 2) .nil))))
def S3_open : SE := (.eq (.app 40 3 (.cons (.var 0) (.cons (.var 1) (.cons (.var 2) .nil)))) (.lit 0))
def S4_open : SE := (.rem (.add (.app 8 0 (.cons S0_open (.cons S1_open (.cons S2_open .nil)))) (.lit 1)) (.lit 3))
def S5_open : SE := (.eq S4_open (.lit 0))
def S6_open : SE := (.eq S4_open (.lit 1))
def S7_open : SE := (.cons (.ite S5_open (.lit 1) (.lit 0)) (.cons (.ite S5_open (.lit 0) (.ite S6_open (.lit 1) (.lit 0))) (.cons (.ite S5_open (.lit 0) (.ite S6_open (.lit 0) (.lit 1))) (.cons S0_open (.cons S1_open (.cons S2_open .nil))))))
def S8_open : SE := (.eq (.app 6 3 S7_open) (.lit 0))
def S9_open : SE := (.cons (.app 6 0 S7_open) (.cons (.app 6 1 S7_open) (.cons (.app 6 2 S7_open) .nil)))
def S10_open : SE := (.eq (.app 40 3 S9_open) (.lit 0))
def S11_open : SE := (.cons S0_open (.cons S1_open (.cons S2_open (.cons (.app 40 0 S9_open) (.cons (.app 40 1 S9_open) (.cons (.app 40 2 S9_open) .nil))))))
def S12_open : SE := (.eq (.app 6 3 S11_open) (.lit 0))
def R_open : Tree (AV × Hp) := (.node (.ite S3_open (.ite S5_open (.blit true) (.ite S6_open (.blit true) (.eq S4_open (.lit 2)))) (.blit true)) (.leaf ((.tuple [(.agg [(.int (.ite S3_open (.ite S8_open (.ite S10_open (.ite S12_open (.app 40 0 S9_open) (.lit 0)) (.lit 0)) (.lit 0)) (.lit 0))), (.int (.ite S3_open (.ite S8_open (.ite S10_open (.ite S12_open (.app 40 1 S9_open) (.lit 0)) (.lit 0)) (.lit 0)) (.lit 0))), (.int (.ite S3_open (.ite S8_open (.ite S10_open (.ite S12_open (.app 40 2 S9_open) (.lit 0)) (.lit 0)) (.lit 0)) (.lit 0))), (.int (.ite S3_open (.ite S8_open (.ite S10_open (.ite S12_open (.app 30 0 (.cons (.app 6 0 S11_open) (.cons (.lit 1024) .nil))) (.lit 0)) (.lit 0)) (.lit 0)) (.lit 0))), (.int (.ite S3_open (.ite S8_open (.ite S10_open (.ite S12_open (.app 30 0 (.cons (.app 6 1 S11_open) (.cons (.lit 1024) .nil))) (.lit 0)) (.lit 0)) (.lit 0)) (.lit 0))), (.int (.ite S3_open (.ite S8_open (.ite S10_open (.ite S12_open (.app 30 0 (.cons (.app 6 2 S11_open) (.cons (.lit 1024) .nil))) (.lit 0)) (.lit 0)) (.lit 0)) (.lit 0))), (.int (.ite S3_open (.ite S8_open (.ite S10_open (.ite S12_open S0_open (.lit 0)) (.lit 0)) (.lit 0)) (.lit 0))), (.int (.ite S3_open (.ite S8_open (.ite S10_open (.ite S12_open S1_open (.lit 0)) (.lit 0)) (.lit 0)) (.lit 0))), (.int (.ite S3_open (.ite S8_open (.ite S10_open (.ite S12_open S2_open (.lit 0)) (.lit 0)) (.lit 0)) (.lit 0)))]), (.int (.ite S3_open (.ite S8_open (.ite S10_open (.ite S12_open (.lit 0) (.app 6 3 S11_open)) (.app 40 3 S9_open)) (.app 6 3 S7_open)) (.app 40 3 (.cons (.var 0) (.cons (.var 1) (.cons (.var 2) .nil))))))]), [])) (.fail))
theorem k_open : acall cm1 20 false 45 [] (argsG [.g 3] 0 0) (heapG [.g 3] 0) = R_open := by kernel_rfl
set_option maxHeartbeats 4000000 in
set_option maxRecDepth 20000 in
theorem v_open : ∀ l : List Int, l.length = lenSh [.g 3] → AllI l → ((R_open.map fun r => valOf (E.at l) r.1).sel (E.at l)) = some (some (tupleV (resV E 47 l [.g 9, .i] 0 0))) := by
  intro l hl hG
  have h0 : l.length = 3 := hl
  clear hl
  obtain ⟨a0, l1, rfl, h1⟩ := cut1 h0
  clear h0
  obtain ⟨a1, l2, rfl, h2⟩ := cut1 h1
  clear h1
  obtain ⟨a2, l3, rfl, h3⟩ := cut1 h2
  clear h2
  obtain rfl := cut0 h3
  clear h3
  by_cases he : ue [a0, a1, a2] = 0
  · rcases axis3 (uv 0 [a0, a1, a2]) (uv 1 [a0, a1, a2]) (uv 2 [a0, a1, a2]) with hx | hx | hx
    · have ht : tc [uv 0 [a0, a1, a2], uv 1 [a0, a1, a2], uv 2 [a0, a1, a2]] = [uv 2 [a0, a1, a2], 0, -uv 0 [a0, a1, a2]] := by simp [tc, hx]
      by_cases hf : ue [uv 2 [a0, a1, a2], 0, -uv 0 [a0, a1, a2]] = 0
      · simp only [R_open, S0_open, S1_open, S2_open, S3_open, S4_open, S5_open, S6_open, S7_open, S8_open, S9_open, S10_open, S11_open, S12_open, fv, te, tu, tb, ht, uu, List.cons_append, List.nil_append, he, hx, hf, valOf, vals1, valInts, val1, tupleV, resV, valsI, den, bt1, bt2, bt3, bt4, Env.at, E, fb, fi, List.getD_cons_zero, List.getD_cons_succ, List.all_cons, List.all_nil, Bool.and_true, nr', us', ss', nr2, us2, ss2, nr3, us3, ss3, Bool.and_assoc, Option.map_some, List.all_append, Env.b, Env.i, Tree.map, Tree.sel, if_true, Bool.false_eq_true, if_false, nr_uv0, nr_uv1, nr_uv2, nr_0, nr_1, rem3a, rem3b, rem3c, b10, b11, b12, b20, b21, b22, b00, b01, b02, c1, c0, c2, Bool.true_and, Bool.not_true, Bool.not_false, Bool.true_or, Bool.false_or, Bool.and_self]
      · have hg := beqf hf
        simp only [R_open, S0_open, S1_open, S2_open, S3_open, S4_open, S5_open, S6_open, S7_open, S8_open, S9_open, S10_open, S11_open, S12_open, fv, te, tu, tb, ht, uu, he, hx, hf, hg, valOf, vals1, valInts, val1, tupleV, resV, valsI, den, bt1, bt2, bt3, bt4, Env.at, E, fb, fi, List.getD_cons_zero, List.getD_cons_succ, List.all_cons, List.all_nil, Bool.and_true, nr', us', ss', nr2, us2, ss2, nr3, us3, ss3, Bool.and_assoc, Option.map_some, List.all_append, Env.b, Env.i, Tree.map, Tree.sel, if_true, Bool.false_eq_true, if_false, nr_uv0, nr_uv1, nr_uv2, nr_0, nr_1, rem3a, rem3b, rem3c, b10, b11, b12, b20, b21, b22, b00, b01, b02, c1, c0, c2, Bool.true_and, Bool.not_true, Bool.not_false, Bool.true_or, Bool.false_or, Bool.and_self]
    · have ht : tc [uv 0 [a0, a1, a2], uv 1 [a0, a1, a2], uv 2 [a0, a1, a2]] = [-uv 1 [a0, a1, a2], uv 0 [a0, a1, a2], 0] := by simp [tc, hx]
      by_cases hf : ue [-uv 1 [a0, a1, a2], uv 0 [a0, a1, a2], 0] = 0
      · simp only [R_open, S0_open, S1_open, S2_open, S3_open, S4_open, S5_open, S6_open, S7_open, S8_open, S9_open, S10_open, S11_open, S12_open, fv, te, tu, tb, ht, uu, List.cons_append, List.nil_append, he, hx, hf, valOf, vals1, valInts, val1, tupleV, resV, valsI, den, bt1, bt2, bt3, bt4, Env.at, E, fb, fi, List.getD_cons_zero, List.getD_cons_succ, List.all_cons, List.all_nil, Bool.and_true, nr', us', ss', nr2, us2, ss2, nr3, us3, ss3, Bool.and_assoc, Option.map_some, List.all_append, Env.b, Env.i, Tree.map, Tree.sel, if_true, Bool.false_eq_true, if_false, nr_uv0, nr_uv1, nr_uv2, nr_0, nr_1, rem3a, rem3b, rem3c, b10, b11, b12, b20, b21, b22, b00, b01, b02, c1, c0, c2, Bool.true_and, Bool.not_true, Bool.not_false, Bool.true_or, Bool.false_or, Bool.and_self]
      · have hg := beqf hf
        simp only [R_open, S0_open, S1_open, S2_open, S3_open, S4_open, S5_open, S6_open, S7_open, S8_open, S9_open, S10_open, S11_open, S12_open, fv, te, tu, tb, ht, uu, he, hx, hf, hg, valOf, vals1, valInts, val1, tupleV, resV, valsI, den, bt1, bt2, bt3, bt4, Env.at, E, fb, fi, List.getD_cons_zero, List.getD_cons_succ, List.all_cons, List.all_nil, Bool.and_true, nr', us', ss', nr2, us2, ss2, nr3, us3, ss3, Bool.and_assoc, Option.map_some, List.all_append, Env.b, Env.i, Tree.map, Tree.sel, if_true, Bool.false_eq_true, if_false, nr_uv0, nr_uv1, nr_uv2, nr_0, nr_1, rem3a, rem3b, rem3c, b10, b11, b12, b20, b21, b22, b00, b01, b02, c1, c0, c2, Bool.true_and, Bool.not_true, Bool.not_false, Bool.true_or, Bool.false_or, Bool.and_self]
    · have ht : tc [uv 0 [a0, a1, a2], uv 1 [a0, a1, a2], uv 2 [a0, a1, a2]] = [0, -uv 2 [a0, a1, a2], uv 1 [a0, a1, a2]] := by simp [tc, hx]
      by_cases hf : ue [0, -uv 2 [a0, a1, a2], uv 1 [a0, a1, a2]] = 0
      · simp only [R_open, S0_open, S1_open, S2_open, S3_open, S4_open, S5_open, S6_open, S7_open, S8_open, S9_open, S10_open, S11_open, S12_open, fv, te, tu, tb, ht, uu, List.cons_append, List.nil_append, he, hx, hf, valOf, vals1, valInts, val1, tupleV, resV, valsI, den, bt1, bt2, bt3, bt4, Env.at, E, fb, fi, List.getD_cons_zero, List.getD_cons_succ, List.all_cons, List.all_nil, Bool.and_true, nr', us', ss', nr2, us2, ss2, nr3, us3, ss3, Bool.and_assoc, Option.map_some, List.all_append, Env.b, Env.i, Tree.map, Tree.sel, if_true, Bool.false_eq_true, if_false, nr_uv0, nr_uv1, nr_uv2, nr_0, nr_1, rem3a, rem3b, rem3c, b10, b11, b12, b20, b21, b22, b00, b01, b02, c1, c0, c2, Bool.true_and, Bool.not_true, Bool.not_false, Bool.true_or, Bool.false_or, Bool.and_self]
      · have hg := beqf hf
        simp only [R_open, S0_open, S1_open, S2_open, S3_open, S4_open, S5_open, S6_open, S7_open, S8_open, S9_open, S10_open, S11_open, S12_open, fv, te, tu, tb, ht, uu, he, hx, hf, hg, valOf, vals1, valInts, val1, tupleV, resV, valsI, den, bt1, bt2, bt3, bt4, Env.at, E, fb, fi, List.getD_cons_zero, List.getD_cons_succ, List.all_cons, List.all_nil, Bool.and_true, nr', us', ss', nr2, us2, ss2, nr3, us3, ss3, Bool.and_assoc, Option.map_some, List.all_append, Env.b, Env.i, Tree.map, Tree.sel, if_true, Bool.false_eq_true, if_false, nr_uv0, nr_uv1, nr_uv2, nr_0, nr_1, rem3a, rem3b, rem3c, b10, b11, b12, b20, b21, b22, b00, b01, b02, c1, c0, c2, Bool.true_and, Bool.not_true, Bool.not_false, Bool.true_or, Bool.false_or, Bool.and_self]
  · have hg := beqf he
    simp only [R_open, S0_open, S1_open, S2_open, S3_open, S4_open, S5_open, S6_open, S7_open, S8_open, S9_open, S10_open, S11_open, S12_open, fv, te, uu, he, hg, valOf, vals1, valInts, val1, tupleV, resV, valsI, den, bt1, bt2, bt3, bt4, Env.at, E, fb, fi, List.getD_cons_zero, List.getD_cons_succ, List.all_cons, List.all_nil, Bool.and_true, nr', us', ss', nr2, us2, ss2, nr3, us3, ss3, Bool.and_assoc, Option.map_some, List.all_append, Env.b, Env.i, Tree.map, Tree.sel, if_true, Bool.false_eq_true, if_false, nr_uv0, nr_uv1, nr_uv2, nr_0, nr_1, rem3a, rem3b, rem3c, b10, b11, b12, b20, b21, b22, b00, b01, b02, c1, c0, c2, Bool.true_and, Bool.not_true, Bool.not_false, Bool.true_or, Bool.false_or, Bool.and_self]

theorem c_open (W : World) : Flat Try.prog E W AllI 45 [.g 3] fun l => tupleV (resV E 47 l [.g 9, .i] 0 0) := flat_sel (cm1_ok W) k_open v_open

noncomputable def cm2 : Cx := ⟨cm1.ty, cm1.fn, [flatCon 45 [.g 3] [.g 9, .i] 47 (rangesOk okId)] ++ cm1.con, cm1.inl, cm1.eqs⟩
theorem cm2_ok (W : World) : ∀ l, AllI l → CxOk Try.prog (E.at l) W cm2 :=
  cx_more (cm1_ok W) (List.forall_mem_cons.2 ⟨flat_conI okId_I (c_open W), (fun _ h => by cases h)⟩)
end Go.Proofs.Ytdkeiopcdajkpaa.Sx
