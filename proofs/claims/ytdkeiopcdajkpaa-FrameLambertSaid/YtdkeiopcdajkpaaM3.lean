/- Contracts, reckoned. -/
import Derived.Test.YtdkeiopcdajkpaaM2
import Derived.Test.YtdkeiopcdajkpaaFp
import Derived.KernelRfl
set_option linter.unusedVariables false
set_option linter.unusedSimpArgs false
namespace Go.Proofs.Ytdkeiopcdajkpaa.Sx
open Go.RowKit

theorem kk_bd {x : Int} (h : kk x = true) : -1024 ≤ x ∧ x ≤ 1024 := by simpa [kk] using h
theorem fit2 (a b : Int) : (decide (min a b < -1024) || decide (1024 < max a b)) = !(kk a && kk b) := by
  rw [Bool.eq_iff_iff]; simp only [kk, Bool.or_eq_true, Bool.not_eq_true', Bool.and_eq_false_imp, Bool.and_eq_true, decide_eq_true_eq, decide_eq_false_iff_not]; omega
theorem sq_disc {m : Int} (h0 : 0 ≤ m) (h : m ≤ 1048576) : 0 ≤ Wh.sqC m ∧ Wh.sqC m ≤ 1024 := by
  have := Wh.rt_root h0
  rw [Wh.rt_sqC h0 (by omega)] at this
  exact ⟨this.1, sqle (by decide) (by have := this.2.1; omega)⟩
theorem fq_1024 {x : Int} (h : -2097152 ≤ x ∧ x ≤ 2097152) : -2048 ≤ Wh.fq x 1024 ∧ Wh.fq x 1024 ≤ 2048 := by
  rw [fq_pos (by decide)]
  exact ⟨le_fdiv_of (by decide) (by omega), fdiv_lt_of (by decide) (by omega)⟩
theorem cr2_un {a b c d : Int} (ha : -1024 ≤ a ∧ a ≤ 1024) (hb : -1024 ≤ b ∧ b ≤ 1024) (hc : -1024 ≤ c ∧ c ≤ 1024) (hd : -1024 ≤ d ∧ d ≤ 1024) : -2097152 ≤ cr2 a b c d ∧ cr2 a b c d ≤ 2097152 := by
  unfold cr2
  have h1 := mul_bd (M := 1024) (N := 1024) 1048576 (by decide) ha hd
  have h2 := mul_bd (M := 1024) (N := 1024) 1048576 (by decide) hb hc
  omega
theorem tc3 (u : List Int) : ∃ x y z, tc u = [x, y, z] := by
  unfold tc; (repeat' split) <;> exact ⟨_, _, _, rfl⟩
theorem fv_bd (a b c : Int) (k : Nat) (hk : k < 9) : -2048 ≤ fv k [a, b, c] ∧ fv k [a, b, c] ≤ 2048 := by
  unfold fv
  split
  · have u0 := uv_bd a b c 0 (by decide); have u1 := uv_bd a b c 1 (by decide); have u2 := uv_bd a b c 2 (by decide)
    obtain ⟨x, y, z, ht⟩ := tc3 (uu [a, b, c])
    have t0 := uv_bd x y z 0 (by decide); have t1 := uv_bd x y z 1 (by decide); have t2 := uv_bd x y z 2 (by decide)
    have b0 := fq_1024 (cr2_un u1 u2 t1 t2); have b1 := fq_1024 (cr2_un u2 u0 t2 t0); have b2 := fq_1024 (cr2_un u0 u1 t0 t1)
    simp only [tb, tu, ht]
    match k, hk with
    | 0, _ => exact ⟨by show _ ≤ uv 0 [a, b, c]; omega, by show uv 0 [a, b, c] ≤ _; omega⟩
    | 1, _ => exact ⟨by show _ ≤ uv 1 [a, b, c]; omega, by show uv 1 [a, b, c] ≤ _; omega⟩
    | 2, _ => exact ⟨by show _ ≤ uv 2 [a, b, c]; omega, by show uv 2 [a, b, c] ≤ _; omega⟩
    | 3, _ => exact ⟨by show _ ≤ uv 0 [x, y, z]; omega, by show uv 0 [x, y, z] ≤ _; omega⟩
    | 4, _ => exact ⟨by show _ ≤ uv 1 [x, y, z]; omega, by show uv 1 [x, y, z] ≤ _; omega⟩
    | 5, _ => exact ⟨by show _ ≤ uv 2 [x, y, z]; omega, by show uv 2 [x, y, z] ≤ _; omega⟩
    | 6, _ => exact b0
    | 7, _ => exact b1
    | 8, _ => exact b2
  · exact ⟨by decide, by decide⟩
theorem dsum {t b u x y z : Int} (ht : -2048 ≤ t ∧ t ≤ 2048) (hb : -2048 ≤ b ∧ b ≤ 2048) (hu : -2048 ≤ u ∧ u ≤ 2048) (hx : -1024 ≤ x ∧ x ≤ 1024) (hy : -1024 ≤ y ∧ y ≤ 1024) (hz : 0 ≤ z ∧ z ≤ 1024) :
    IntKind.i64.wrap (IntKind.i64.wrap (IntKind.i64.wrap (t * x) + IntKind.i64.wrap (b * y)) + IntKind.i64.wrap (u * z)) = t * x + b * y + u * z := by
  have h1 := mul_bd (M := 2048) (N := 1024) 2097152 (by decide) ht hx
  have h2 := mul_bd (M := 2048) (N := 1024) 2097152 (by decide) hb hy
  have h3 := mul_bd (M := 2048) (N := 1024) 2097152 (by decide) hu (show -1024 ≤ z ∧ z ≤ 1024 by omega)
  rw [wr (x := t * x) (by omega), wr (x := b * y) (by omega), wr (x := u * z) (by omega), wr (x := t * x + b * y) (by omega), wr (by omega)]

def R_tangent : AV := (.tuple [(.agg [(.int (.app 47 6 (.cons (.var 0) (.cons (.var 1) (.cons (.var 2) .nil))))), (.int (.app 47 7 (.cons (.var 0) (.cons (.var 1) (.cons (.var 2) .nil))))), (.int (.app 47 8 (.cons (.var 0) (.cons (.var 1) (.cons (.var 2) .nil)))))]), (.agg [(.int (.app 47 0 (.cons (.var 0) (.cons (.var 1) (.cons (.var 2) .nil))))), (.int (.app 47 1 (.cons (.var 0) (.cons (.var 1) (.cons (.var 2) .nil))))), (.int (.app 47 2 (.cons (.var 0) (.cons (.var 1) (.cons (.var 2) .nil)))))]), (.agg [(.int (.app 47 3 (.cons (.var 0) (.cons (.var 1) (.cons (.var 2) .nil))))), (.int (.app 47 4 (.cons (.var 0) (.cons (.var 1) (.cons (.var 2) .nil))))), (.int (.app 47 5 (.cons (.var 0) (.cons (.var 1) (.cons (.var 2) .nil)))))]), (.int (.app 47 9 (.cons (.var 0) (.cons (.var 1) (.cons (.var 2) .nil)))))])
theorem k_tangent : acall cm2 20 false 15 [] (argsG [.g 3] 0 0) (heapG [.g 3] 0) = .leaf (R_tangent, heapG [.g 3] 0) := by kernel_rfl
set_option maxHeartbeats 4000000 in
set_option maxRecDepth 20000 in
theorem v_tangent : ∀ l : List Int, l.length = lenSh [.g 3] → AllI l → valOf (E.at l) R_tangent = some (tupleV (resV E 41 l [.g 3, .g 3, .g 3, .i] 0 0)) := by
  intro l hl hG
  have h0 : l.length = 3 := hl
  clear hl
  obtain ⟨a0, l1, rfl, h1⟩ := cut1 h0
  clear h0
  obtain ⟨a1, l2, rfl, h2⟩ := cut1 h1
  clear h1
  obtain ⟨a2, l3, rfl, h3⟩ := cut1 h2
  clear h2
  obtain rfl := cut0 h3
  clear h3
  simp only [R_tangent, valOf, vals1, valInts, val1, tupleV, resV, valsI, den, bt1, bt2, bt3, bt4, Env.at, E, fb, fi, List.getD_cons_zero, List.getD_cons_succ, List.all_cons, List.all_nil, Bool.and_true, nr', us', ss', nr2, us2, ss2, nr3, us3, ss3, Bool.and_assoc, Option.map_some, List.all_append, Env.b, Env.i, Tree.map, Tree.sel]

theorem c_tangent (W : World) : Flat Try.prog E W AllI 15 [.g 3] fun l => tupleV (resV E 41 l [.g 3, .g 3, .g 3, .i] 0 0) := flat_val (cm2_ok W) k_tangent v_tangent

def S0_rtangent : SE := (.app 40 0 (.cons (.var 0) (.cons (.var 1) (.cons (.var 2) .nil))))
def S1_rtangent : SE := (.app 40 1 (.cons (.var 0) (.cons (.var 1) (.cons (.var 2) .nil))))
def S2_rtangent : SE := (.app 40 2 (.cons (.var 0) (.cons (.var 1) (.cons (.var 2) .nil))))
def S3_rtangent : SE := (.eq (.app 40 3 (.cons (.var 0) (.cons (.var 1) (.cons (.var 2) .nil)))) (.lit 0))
def S4_rtangent : SE := (.eq (.rem (.add (.app 8 0 (.cons S0_rtangent (.cons S1_rtangent (.cons S2_rtangent .nil)))) (.lit 1)) (.lit 3)) (.lit 0))
def S5_rtangent : SE := (.cons (.ite S4_rtangent (.lit 1) (.lit 0)) (.cons (.ite S4_rtangent (.lit 0) (.ite (.eq (.rem (.add (.app 8 0 (.cons S0_rtangent (.cons S1_rtangent (.cons S2_rtangent .nil)))) (.lit 1)) (.lit 3)) (.lit 1)) (.lit 1) (.lit 0))) (.cons (.ite S4_rtangent (.lit 0) (.ite (.eq (.rem (.add (.app 8 0 (.cons S0_rtangent (.cons S1_rtangent (.cons S2_rtangent .nil)))) (.lit 1)) (.lit 3)) (.lit 1)) (.lit 0) (.lit 1))) (.cons S0_rtangent (.cons S1_rtangent (.cons S2_rtangent .nil))))))
def S6_rtangent : SE := (.cons (.app 6 0 S5_rtangent) (.cons (.app 6 1 S5_rtangent) (.cons (.app 6 2 S5_rtangent) .nil)))
def S7_rtangent : SE := (.eq (.app 40 3 S6_rtangent) (.lit 0))
def S8_rtangent : SE := (.cons S0_rtangent (.cons S1_rtangent (.cons S2_rtangent (.cons (.app 40 0 S6_rtangent) (.cons (.app 40 1 S6_rtangent) (.cons (.app 40 2 S6_rtangent) .nil))))))
def R_rtangent : AV := (.tuple [(.agg [(.int (.ite S3_rtangent (.ite S7_rtangent S0_rtangent (.lit 0)) (.lit 0))), (.int (.ite S3_rtangent (.ite S7_rtangent S1_rtangent (.lit 0)) (.lit 0))), (.int (.ite S3_rtangent (.ite S7_rtangent S2_rtangent (.lit 0)) (.lit 0)))]), (.agg [(.int (.ite S3_rtangent (.ite S7_rtangent (.app 40 0 S6_rtangent) (.lit 0)) (.lit 0))), (.int (.ite S3_rtangent (.ite S7_rtangent (.app 40 1 S6_rtangent) (.lit 0)) (.lit 0))), (.int (.ite S3_rtangent (.ite S7_rtangent (.app 40 2 S6_rtangent) (.lit 0)) (.lit 0)))]), (.agg [(.int (.ite S3_rtangent (.ite S7_rtangent (.app 30 0 (.cons (.app 6 0 S8_rtangent) (.cons (.lit 1024) .nil))) (.lit 0)) (.lit 0))), (.int (.ite S3_rtangent (.ite S7_rtangent (.app 30 0 (.cons (.app 6 1 S8_rtangent) (.cons (.lit 1024) .nil))) (.lit 0)) (.lit 0))), (.int (.ite S3_rtangent (.ite S7_rtangent (.app 30 0 (.cons (.app 6 2 S8_rtangent) (.cons (.lit 1024) .nil))) (.lit 0)) (.lit 0)))]), (.int (.ite S3_rtangent (.ite S7_rtangent (.lit 0) (.app 40 3 S6_rtangent)) (.app 40 3 (.cons (.var 0) (.cons (.var 1) (.cons (.var 2) .nil))))))])
theorem k_rtangent : acall cm2 20 false 16 [] (argsG [.g 3] 0 0) (heapG [.g 3] 0) = .leaf (R_rtangent, heapG [.g 3] 0) := by kernel_rfl
set_option maxHeartbeats 4000000 in
set_option maxRecDepth 20000 in
theorem v_rtangent : ∀ l : List Int, l.length = lenSh [.g 3] → AllI l → valOf (E.at l) R_rtangent = some (tupleV (resV E 41 l [.g 3, .g 3, .g 3, .i] 0 0)) := by
  intro l hl hG
  have h0 : l.length = 3 := hl
  clear hl
  obtain ⟨a0, l1, rfl, h1⟩ := cut1 h0
  clear h0
  obtain ⟨a1, l2, rfl, h2⟩ := cut1 h1
  clear h1
  obtain ⟨a2, l3, rfl, h3⟩ := cut1 h2
  clear h2
  obtain rfl := cut0 h3
  clear h3
  by_cases he : ue [a0, a1, a2] = 0
  · rcases axis3 (uv 0 [a0, a1, a2]) (uv 1 [a0, a1, a2]) (uv 2 [a0, a1, a2]) with hx | hx | hx
    · have ht : tc [uv 0 [a0, a1, a2], uv 1 [a0, a1, a2], uv 2 [a0, a1, a2]] = [uv 2 [a0, a1, a2], 0, -uv 0 [a0, a1, a2]] := by simp [tc, hx]
      by_cases hf : ue [uv 2 [a0, a1, a2], 0, -uv 0 [a0, a1, a2]] = 0
      · simp only [R_rtangent, S0_rtangent, S1_rtangent, S2_rtangent, S3_rtangent, S4_rtangent, S5_rtangent, S6_rtangent, S7_rtangent, S8_rtangent, fv, te, tu, tb, ht, uu, List.cons_append, List.nil_append, he, hx, hf, valOf, vals1, valInts, val1, tupleV, resV, valsI, den, bt1, bt2, bt3, bt4, Env.at, E, fb, fi, List.getD_cons_zero, List.getD_cons_succ, List.all_cons, List.all_nil, Bool.and_true, nr', us', ss', nr2, us2, ss2, nr3, us3, ss3, Bool.and_assoc, Option.map_some, List.all_append, Env.b, Env.i, Tree.map, Tree.sel, if_true, Bool.false_eq_true, if_false, nr_uv0, nr_uv1, nr_uv2, nr_0, nr_1, rem3a, rem3b, rem3c, b10, b11, b12, b20, b21, b22, b00, b01, b02, c1, c0, c2, Bool.true_and, Bool.not_true, Bool.not_false, Bool.true_or, Bool.false_or, Bool.and_self]
      · have hg := beqf hf
        simp only [R_rtangent, S0_rtangent, S1_rtangent, S2_rtangent, S3_rtangent, S4_rtangent, S5_rtangent, S6_rtangent, S7_rtangent, S8_rtangent, fv, te, tu, tb, ht, uu, he, hx, hf, hg, valOf, vals1, valInts, val1, tupleV, resV, valsI, den, bt1, bt2, bt3, bt4, Env.at, E, fb, fi, List.getD_cons_zero, List.getD_cons_succ, List.all_cons, List.all_nil, Bool.and_true, nr', us', ss', nr2, us2, ss2, nr3, us3, ss3, Bool.and_assoc, Option.map_some, List.all_append, Env.b, Env.i, Tree.map, Tree.sel, if_true, Bool.false_eq_true, if_false, nr_uv0, nr_uv1, nr_uv2, nr_0, nr_1, rem3a, rem3b, rem3c, b10, b11, b12, b20, b21, b22, b00, b01, b02, c1, c0, c2, Bool.true_and, Bool.not_true, Bool.not_false, Bool.true_or, Bool.false_or, Bool.and_self]
    · have ht : tc [uv 0 [a0, a1, a2], uv 1 [a0, a1, a2], uv 2 [a0, a1, a2]] = [-uv 1 [a0, a1, a2], uv 0 [a0, a1, a2], 0] := by simp [tc, hx]
      by_cases hf : ue [-uv 1 [a0, a1, a2], uv 0 [a0, a1, a2], 0] = 0
      · simp only [R_rtangent, S0_rtangent, S1_rtangent, S2_rtangent, S3_rtangent, S4_rtangent, S5_rtangent, S6_rtangent, S7_rtangent, S8_rtangent, fv, te, tu, tb, ht, uu, List.cons_append, List.nil_append, he, hx, hf, valOf, vals1, valInts, val1, tupleV, resV, valsI, den, bt1, bt2, bt3, bt4, Env.at, E, fb, fi, List.getD_cons_zero, List.getD_cons_succ, List.all_cons, List.all_nil, Bool.and_true, nr', us', ss', nr2, us2, ss2, nr3, us3, ss3, Bool.and_assoc, Option.map_some, List.all_append, Env.b, Env.i, Tree.map, Tree.sel, if_true, Bool.false_eq_true, if_false, nr_uv0, nr_uv1, nr_uv2, nr_0, nr_1, rem3a, rem3b, rem3c, b10, b11, b12, b20, b21, b22, b00, b01, b02, c1, c0, c2, Bool.true_and, Bool.not_true, Bool.not_false, Bool.true_or, Bool.false_or, Bool.and_self]
      · have hg := beqf hf
        simp only [R_rtangent, S0_rtangent, S1_rtangent, S2_rtangent, S3_rtangent, S4_rtangent, S5_rtangent, S6_rtangent, S7_rtangent, S8_rtangent, fv, te, tu, tb, ht, uu, he, hx, hf, hg, valOf, vals1, valInts, val1, tupleV, resV, valsI, den, bt1, bt2, bt3, bt4, Env.at, E, fb, fi, List.getD_cons_zero, List.getD_cons_succ, List.all_cons, List.all_nil, Bool.and_true, nr', us', ss', nr2, us2, ss2, nr3, us3, ss3, Bool.and_assoc, Option.map_some, List.all_append, Env.b, Env.i, Tree.map, Tree.sel, if_true, Bool.false_eq_true, if_false, nr_uv0, nr_uv1, nr_uv2, nr_0, nr_1, rem3a, rem3b, rem3c, b10, b11, b12, b20, b21, b22, b00, b01, b02, c1, c0, c2, Bool.true_and, Bool.not_true, Bool.not_false, Bool.true_or, Bool.false_or, Bool.and_self]
    · have ht : tc [uv 0 [a0, a1, a2], uv 1 [a0, a1, a2], uv 2 [a0, a1, a2]] = [0, -uv 2 [a0, a1, a2], uv 1 [a0, a1, a2]] := by simp [tc, hx]
      by_cases hf : ue [0, -uv 2 [a0, a1, a2], uv 1 [a0, a1, a2]] = 0
      · simp only [R_rtangent, S0_rtangent, S1_rtangent, S2_rtangent, S3_rtangent, S4_rtangent, S5_rtangent, S6_rtangent, S7_rtangent, S8_rtangent, fv, te, tu, tb, ht, uu, List.cons_append, List.nil_append, he, hx, hf, valOf, vals1, valInts, val1, tupleV, resV, valsI, den, bt1, bt2, bt3, bt4, Env.at, E, fb, fi, List.getD_cons_zero, List.getD_cons_succ, List.all_cons, List.all_nil, Bool.and_true, nr', us', ss', nr2, us2, ss2, nr3, us3, ss3, Bool.and_assoc, Option.map_some, List.all_append, Env.b, Env.i, Tree.map, Tree.sel, if_true, Bool.false_eq_true, if_false, nr_uv0, nr_uv1, nr_uv2, nr_0, nr_1, rem3a, rem3b, rem3c, b10, b11, b12, b20, b21, b22, b00, b01, b02, c1, c0, c2, Bool.true_and, Bool.not_true, Bool.not_false, Bool.true_or, Bool.false_or, Bool.and_self]
      · have hg := beqf hf
        simp only [R_rtangent, S0_rtangent, S1_rtangent, S2_rtangent, S3_rtangent, S4_rtangent, S5_rtangent, S6_rtangent, S7_rtangent, S8_rtangent, fv, te, tu, tb, ht, uu, he, hx, hf, hg, valOf, vals1, valInts, val1, tupleV, resV, valsI, den, bt1, bt2, bt3, bt4, Env.at, E, fb, fi, List.getD_cons_zero, List.getD_cons_succ, List.all_cons, List.all_nil, Bool.and_true, nr', us', ss', nr2, us2, ss2, nr3, us3, ss3, Bool.and_assoc, Option.map_some, List.all_append, Env.b, Env.i, Tree.map, Tree.sel, if_true, Bool.false_eq_true, if_false, nr_uv0, nr_uv1, nr_uv2, nr_0, nr_1, rem3a, rem3b, rem3c, b10, b11, b12, b20, b21, b22, b00, b01, b02, c1, c0, c2, Bool.true_and, Bool.not_true, Bool.not_false, Bool.true_or, Bool.false_or, Bool.and_self]
  · have hg := beqf he
    simp only [R_rtangent, S0_rtangent, S1_rtangent, S2_rtangent, S3_rtangent, S4_rtangent, S5_rtangent, S6_rtangent, S7_rtangent, S8_rtangent, fv, te, uu, he, hg, valOf, vals1, valInts, val1, tupleV, resV, valsI, den, bt1, bt2, bt3, bt4, Env.at, E, fb, fi, List.getD_cons_zero, List.getD_cons_succ, List.all_cons, List.all_nil, Bool.and_true, nr', us', ss', nr2, us2, ss2, nr3, us3, ss3, Bool.and_assoc, Option.map_some, List.all_append, Env.b, Env.i, Tree.map, Tree.sel, if_true, Bool.false_eq_true, if_false, nr_uv0, nr_uv1, nr_uv2, nr_0, nr_1, rem3a, rem3b, rem3c, b10, b11, b12, b20, b21, b22, b00, b01, b02, c1, c0, c2, Bool.true_and, Bool.not_true, Bool.not_false, Bool.true_or, Bool.false_or, Bool.and_self]

theorem c_rtangent (W : World) : Flat Try.prog E W AllI 16 [.g 3] fun l => tupleV (resV E 41 l [.g 3, .g 3, .g 3, .i] 0 0) := flat_val (cm2_ok W) k_rtangent v_rtangent

def R_direct : AV := (.tuple [(.agg [(.int (.ite (.eq (.app 47 9 (.cons (.var 0) (.cons (.var 1) (.cons (.var 2) .nil)))) (.lit 0)) (.ite (.ite (.lt (.ite (.lt (.var 4) (.var 3)) (.var 4) (.var 3)) (.lit (-1024))) (.blit true) (.lt (.lit 1024) (.ite (.lt (.var 3) (.var 4)) (.var 4) (.var 3)))) (.lit 0) (.app 30 0 (.cons (.add (.add (.mul (.app 47 0 (.cons (.var 0) (.cons (.var 1) (.cons (.var 2) .nil)))) (.var 3)) (.mul (.app 47 3 (.cons (.var 0) (.cons (.var 1) (.cons (.var 2) .nil)))) (.var 4))) (.mul (.app 47 6 (.cons (.var 0) (.cons (.var 1) (.cons (.var 2) .nil)))) (.app 31 0 (.cons (.ite (.lt (.sub (.sub (.lit 1048576) (.mul (.var 3) (.var 3))) (.mul (.var 4) (.var 4))) (.lit 0)) (.lit 0) (.sub (.sub (.lit 1048576) (.mul (.var 3) (.var 3))) (.mul (.var 4) (.var 4)))) .nil)))) (.cons (.lit 1024) .nil)))) (.lit 0))), (.int (.ite (.eq (.app 47 9 (.cons (.var 0) (.cons (.var 1) (.cons (.var 2) .nil)))) (.lit 0)) (.ite (.ite (.lt (.ite (.lt (.var 4) (.var 3)) (.var 4) (.var 3)) (.lit (-1024))) (.blit true) (.lt (.lit 1024) (.ite (.lt (.var 3) (.var 4)) (.var 4) (.var 3)))) (.lit 0) (.app 30 0 (.cons (.add (.add (.mul (.app 47 1 (.cons (.var 0) (.cons (.var 1) (.cons (.var 2) .nil)))) (.var 3)) (.mul (.app 47 4 (.cons (.var 0) (.cons (.var 1) (.cons (.var 2) .nil)))) (.var 4))) (.mul (.app 47 7 (.cons (.var 0) (.cons (.var 1) (.cons (.var 2) .nil)))) (.app 31 0 (.cons (.ite (.lt (.sub (.sub (.lit 1048576) (.mul (.var 3) (.var 3))) (.mul (.var 4) (.var 4))) (.lit 0)) (.lit 0) (.sub (.sub (.lit 1048576) (.mul (.var 3) (.var 3))) (.mul (.var 4) (.var 4)))) .nil)))) (.cons (.lit 1024) .nil)))) (.lit 0))), (.int (.ite (.eq (.app 47 9 (.cons (.var 0) (.cons (.var 1) (.cons (.var 2) .nil)))) (.lit 0)) (.ite (.ite (.lt (.ite (.lt (.var 4) (.var 3)) (.var 4) (.var 3)) (.lit (-1024))) (.blit true) (.lt (.lit 1024) (.ite (.lt (.var 3) (.var 4)) (.var 4) (.var 3)))) (.lit 0) (.app 30 0 (.cons (.add (.add (.mul (.app 47 2 (.cons (.var 0) (.cons (.var 1) (.cons (.var 2) .nil)))) (.var 3)) (.mul (.app 47 5 (.cons (.var 0) (.cons (.var 1) (.cons (.var 2) .nil)))) (.var 4))) (.mul (.app 47 8 (.cons (.var 0) (.cons (.var 1) (.cons (.var 2) .nil)))) (.app 31 0 (.cons (.ite (.lt (.sub (.sub (.lit 1048576) (.mul (.var 3) (.var 3))) (.mul (.var 4) (.var 4))) (.lit 0)) (.lit 0) (.sub (.sub (.lit 1048576) (.mul (.var 3) (.var 3))) (.mul (.var 4) (.var 4)))) .nil)))) (.cons (.lit 1024) .nil)))) (.lit 0)))]), (.int (.ite (.eq (.app 47 9 (.cons (.var 0) (.cons (.var 1) (.cons (.var 2) .nil)))) (.lit 0)) (.ite (.ite (.lt (.ite (.lt (.var 4) (.var 3)) (.var 4) (.var 3)) (.lit (-1024))) (.blit true) (.lt (.lit 1024) (.ite (.lt (.var 3) (.var 4)) (.var 4) (.var 3)))) (.lit 1) (.app 31 1 (.cons (.ite (.lt (.sub (.sub (.lit 1048576) (.mul (.var 3) (.var 3))) (.mul (.var 4) (.var 4))) (.lit 0)) (.lit 0) (.sub (.sub (.lit 1048576) (.mul (.var 3) (.var 3))) (.mul (.var 4) (.var 4)))) .nil))) (.app 47 9 (.cons (.var 0) (.cons (.var 1) (.cons (.var 2) .nil))))))])
theorem k_direct : acall cm2 20 false 17 [] (argsG [.g 3, .g 2] 0 0) (heapG [.g 3, .g 2] 0) = .leaf (R_direct, heapG [.g 3, .g 2] 0) := by kernel_rfl
set_option maxHeartbeats 4000000 in
set_option maxRecDepth 20000 in
theorem v_direct : ∀ l : List Int, l.length = lenSh [.g 3, .g 2] → AllI l → valOf (E.at l) R_direct = some (tupleV (resV E 42 l [.g 3, .i] 0 0)) := by
  intro l hl hG
  have h0 : l.length = 5 := hl
  clear hl
  obtain ⟨a0, l1, rfl, h1⟩ := cut1 h0
  clear h0
  obtain ⟨a1, l2, rfl, h2⟩ := cut1 h1
  clear h1
  obtain ⟨a2, l3, rfl, h3⟩ := cut1 h2
  clear h2
  obtain ⟨a3, l4, rfl, h4⟩ := cut1 h3
  clear h3
  obtain ⟨a4, l5, rfl, h5⟩ := cut1 h4
  clear h4
  obtain rfl := cut0 h5
  clear h5
  have hk := fit2 a3 a4
  have z0 := beq_self_eq_true (0 : Int)
  simp only [R_direct, minI, maxI, de, dv, List.take_succ_cons, List.take_zero, List.drop_succ_cons, List.drop_zero, hk, valOf, vals1, valInts, val1, tupleV, resV, valsI, den, bt1, bt2, bt3, bt4, Env.at, E, fb, fi, List.getD_cons_zero, List.getD_cons_succ, List.all_cons, List.all_nil, Bool.and_true, nr', us', ss', nr2, us2, ss2, nr3, us3, ss3, Bool.and_assoc, Option.map_some, List.all_append, Env.b, Env.i, Tree.map, Tree.sel]
  by_cases he : te [a0, a1, a2] = 0
  · cases hc : (kk a3 && kk a4)
    · simp [he]
    · have hb := hc
      simp only [Bool.and_eq_true] at hb
      have k3 := kk_bd hb.1; have k4 := kk_bd hb.2
      have q3 := mul_bd (M := 1024) (N := 1024) 1048576 (by decide) k3 k3; have q4 := mul_bd (M := 1024) (N := 1024) 1048576 (by decide) k4 k4
      have p3 := sq_bd1 (x := a3) (by omega); have p4 := sq_bd1 (x := a4) (by omega)
      have w1 : IntKind.i64.wrap (a3 * a3) = a3 * a3 := wr (by omega)
      have w2 : IntKind.i64.wrap (a4 * a4) = a4 * a4 := wr (by omega)
      have w3 : IntKind.i64.wrap (1048576 - a3 * a3) = 1048576 - a3 * a3 := wr (by omega)
      have w4 : IntKind.i64.wrap (1048576 - a3 * a3 - a4 * a4) = 1048576 - a3 * a3 - a4 * a4 := wr (by omega)
      have g1 : ¬ max (1048576 - a3 * a3 - a4 * a4) 0 < 0 := by omega
      have g2 : ¬ 9223372036854775807 < max (1048576 - a3 * a3 - a4 * a4) 0 := by omega
      have hz := sq_disc (m := max (1048576 - a3 * a3 - a4 * a4) 0) (by omega) (by omega)
      simp only [w1, w2, w3, w4, g1, g2, he, if_true, if_false, dz, List.getD_cons_zero, List.getD_cons_succ, Bool.not_true, Bool.false_eq_true, z0]
      generalize Wh.sqC (max (1048576 - a3 * a3 - a4 * a4) 0) = z at *
      have hv := fv_bd a0 a1 a2
      have e0 := dsum (hv 3 (by decide)) (hv 6 (by decide)) (hv 0 (by decide)) k3 k4 hz
      have e1 := dsum (hv 4 (by decide)) (hv 7 (by decide)) (hv 1 (by decide)) k3 k4 hz
      have e2 := dsum (hv 5 (by decide)) (hv 8 (by decide)) (hv 2 (by decide)) k3 k4 hz
      simp only [e0, e1, e2, Nat.reduceAdd]
  · have hg : (te [a0, a1, a2] == 0) = false := by simpa using he
    simp [he, hg]

theorem c_direct (W : World) : Flat Try.prog E W AllI 17 [.g 3, .g 2] fun l => tupleV (resV E 42 l [.g 3, .i] 0 0) := flat_val (cm2_ok W) k_direct v_direct

noncomputable def cm3 : Cx := ⟨cm2.ty, cm2.fn, [flatCon 15 [.g 3] [.g 3, .g 3, .g 3, .i] 41 (rangesOk okId), flatCon 16 [.g 3] [.g 3, .g 3, .g 3, .i] 41 (rangesOk okId), flatCon 17 [.g 3, .g 2] [.g 3, .i] 42 (rangesOk okId)] ++ cm2.con, cm2.inl, cm2.eqs⟩
theorem cm3_ok (W : World) : ∀ l, AllI l → CxOk Try.prog (E.at l) W cm3 :=
  cx_more (cm2_ok W) (List.forall_mem_cons.2 ⟨flat_conI okId_I (c_tangent W), List.forall_mem_cons.2 ⟨flat_conI okId_I (c_rtangent W), List.forall_mem_cons.2 ⟨flat_conI okId_I (c_direct W), (fun _ h => by cases h)⟩⟩⟩)
end Go.Proofs.Ytdkeiopcdajkpaa.Sx
