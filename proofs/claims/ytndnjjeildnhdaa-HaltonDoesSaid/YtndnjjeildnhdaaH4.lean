/- Contracts, reckoned. -/
import Derived.Test.YtndnjjeildnhdaaHQ2
import Derived.KernelRfl
set_option linter.unusedVariables false
set_option linter.unusedSimpArgs false
namespace Go.Proofs.Ytndnjjeildnhdaa.Sx
open Go.RowKit


def R_rhpoint : AV := (.tuple [(.agg [(.int (.ite (.ite (.eq (.app 72 2 (.cons (.lit 2) (.cons (.var 0) .nil))) (.lit 0)) (.no (.eq (.app 72 2 (.cons (.lit 3) (.cons (.var 0) .nil))) (.lit 0))) (.blit true)) (.lit 0) (.ite (.eq (.app 72 1 (.cons (.lit 2) (.cons (.var 0) .nil))) (.lit 0)) (.lit 0) (.ite (.ite (.eq (.mul (.lit 65536) (.app 72 0 (.cons (.lit 2) (.cons (.var 0) .nil)))) (.lit (-9223372036854775808))) (.eq (.app 72 1 (.cons (.lit 2) (.cons (.var 0) .nil))) (.lit (-1))) (.blit false)) (.lit 0) (.ite (.ite (.eq (.rem (.mul (.lit 65536) (.app 72 0 (.cons (.lit 2) (.cons (.var 0) .nil)))) (.app 72 1 (.cons (.lit 2) (.cons (.var 0) .nil)))) (.lit 0)) (.blit false) (.ite (.lt (.rem (.mul (.lit 65536) (.app 72 0 (.cons (.lit 2) (.cons (.var 0) .nil)))) (.app 72 1 (.cons (.lit 2) (.cons (.var 0) .nil)))) (.lit 0)) (.no (.lt (.app 72 1 (.cons (.lit 2) (.cons (.var 0) .nil))) (.lit 0))) (.lt (.app 72 1 (.cons (.lit 2) (.cons (.var 0) .nil))) (.lit 0)))) (.sub (.quo (.mul (.lit 65536) (.app 72 0 (.cons (.lit 2) (.cons (.var 0) .nil)))) (.app 72 1 (.cons (.lit 2) (.cons (.var 0) .nil)))) (.lit 1)) (.quo (.mul (.lit 65536) (.app 72 0 (.cons (.lit 2) (.cons (.var 0) .nil)))) (.app 72 1 (.cons (.lit 2) (.cons (.var 0) .nil))))))))), (.int (.ite (.ite (.eq (.app 72 2 (.cons (.lit 2) (.cons (.var 0) .nil))) (.lit 0)) (.no (.eq (.app 72 2 (.cons (.lit 3) (.cons (.var 0) .nil))) (.lit 0))) (.blit true)) (.lit 0) (.ite (.eq (.app 72 1 (.cons (.lit 3) (.cons (.var 0) .nil))) (.lit 0)) (.lit 0) (.ite (.ite (.eq (.mul (.lit 65536) (.app 72 0 (.cons (.lit 3) (.cons (.var 0) .nil)))) (.lit (-9223372036854775808))) (.eq (.app 72 1 (.cons (.lit 3) (.cons (.var 0) .nil))) (.lit (-1))) (.blit false)) (.lit 0) (.ite (.ite (.eq (.rem (.mul (.lit 65536) (.app 72 0 (.cons (.lit 3) (.cons (.var 0) .nil)))) (.app 72 1 (.cons (.lit 3) (.cons (.var 0) .nil)))) (.lit 0)) (.blit false) (.ite (.lt (.rem (.mul (.lit 65536) (.app 72 0 (.cons (.lit 3) (.cons (.var 0) .nil)))) (.app 72 1 (.cons (.lit 3) (.cons (.var 0) .nil)))) (.lit 0)) (.no (.lt (.app 72 1 (.cons (.lit 3) (.cons (.var 0) .nil))) (.lit 0))) (.lt (.app 72 1 (.cons (.lit 3) (.cons (.var 0) .nil))) (.lit 0)))) (.sub (.quo (.mul (.lit 65536) (.app 72 0 (.cons (.lit 3) (.cons (.var 0) .nil)))) (.app 72 1 (.cons (.lit 3) (.cons (.var 0) .nil)))) (.lit 1)) (.quo (.mul (.lit 65536) (.app 72 0 (.cons (.lit 3) (.cons (.var 0) .nil)))) (.app 72 1 (.cons (.lit 3) (.cons (.var 0) .nil)))))))))]), (.int (.ite (.ite (.eq (.app 72 2 (.cons (.lit 2) (.cons (.var 0) .nil))) (.lit 0)) (.no (.eq (.app 72 2 (.cons (.lit 3) (.cons (.var 0) .nil))) (.lit 0))) (.blit true)) (.lit 1) (.lit 0)))])
theorem k_rhpoint : acall ch6 20 false 11 [] (argsG [.i] 0 0) (heapG [.i] 0) = .leaf (R_rhpoint, heapG [.i] 0) := by kernel_rfl
set_option maxHeartbeats 4000000 in
set_option maxRecDepth 20000 in
theorem v_rhpoint : ∀ l : List Int, l.length = lenSh [.i] → Any l → valOf (E.at l) R_rhpoint = some (tupleV (resV E 73 l [.g 2, .i] 0 0)) := by
  intro l hl hG
  have h0 : l.length = 1 := hl
  clear hl
  obtain ⟨a0, l1, rfl, h1⟩ := cut1 h0
  clear h0
  obtain rfl := cut0 h1
  clear h1
  by_cases g : 0 ≤ a0 ∧ a0 ≤ 65535
  · have k2 : hok [2, a0] = true := by simp [hok]; omega
    have k3 : hok [3, a0] = true := by simp [hok]; omega
    have kp : pok a0 = true := by simp [pok]; omega
    have i2 : hI 2 17 a0 (0, 1) = Mt.hA 2 a0 (Mt.nd 2 17 a0) := by rw [Mt.hI_eq, Mt.hA_hB]
    have i3 : hI 3 17 a0 (0, 1) = Mt.hA 3 a0 (Mt.nd 3 17 a0) := by rw [Mt.hI_eq, Mt.hA_hB]
    obtain ⟨b1, b2, b3⟩ := hA_end (b := 2) (i := a0) (by omega) (by omega) g.1 g.2
    obtain ⟨c1, c2, c3⟩ := hA_end (b := 3) (i := a0) (by omega) (by omega) g.1 g.2
    rw [← i2] at b1 b2 b3
    rw [← i3] at c1 c2 c3
    simp only [R_rhpoint, valOf, vals1, valInts, val1, tupleV, resV, valsI, den, bt1, bt2, bt3, bt4, Env.at, E, fb, fi, List.getD_cons_zero, List.getD_cons_succ, List.all_cons, List.all_nil, Bool.and_true, Bool.and_assoc, Option.map_some, List.all_append, k2, k3, kp, hinv, hpt, if_true]
    generalize (hI 2 17 a0 (0, 1)).1 = n at *
    generalize (hI 2 17 a0 (0, 1)).2 = d at *
    generalize (hI 3 17 a0 (0, 1)).1 = m at *
    generalize (hI 3 17 a0 (0, 1)).2 = e at *
    have z1 : (d == 0) = false := by simp; omega
    have z2 : (e == 0) = false := by simp; omega
    have z3 : (d == -1) = false := by simp; omega
    have z4 : (e == -1) = false := by simp; omega
    have w1 : IntKind.i64.wrap (65536 * n) = 65536 * n := wr (by omega)
    have w2 : IntKind.i64.wrap (65536 * m) = 65536 * m := wr (by omega)
    have t1 : (65536 * n).tdiv d = 65536 * n / d := Int.tdiv_eq_ediv_of_nonneg (by omega)
    have t2 : (65536 * m).tdiv e = 65536 * m / e := Int.tdiv_eq_ediv_of_nonneg (by omega)
    have u1 : (65536 * n).tmod d = 65536 * n % d := Int.tmod_eq_emod_of_nonneg (by omega)
    have u2 : (65536 * m).tmod e = 65536 * m % e := Int.tmod_eq_emod_of_nonneg (by omega)
    have r1 : 0 ≤ 65536 * n % d := Int.emod_nonneg _ (by omega)
    have r2 : 0 ≤ 65536 * m % e := Int.emod_nonneg _ (by omega)
    have r3 : 65536 * n % d < d := Int.emod_lt_of_pos _ (by omega)
    have r4 : 65536 * m % e < e := Int.emod_lt_of_pos _ (by omega)
    have x1 : 0 ≤ 65536 * n / d := Int.ediv_nonneg (by omega) (by omega)
    have x2 : 0 ≤ 65536 * m / e := Int.ediv_nonneg (by omega) (by omega)
    have y1 : 65536 * n / d ≤ 65536 * n := Int.ediv_le_self _ (by omega)
    have y2 : 65536 * m / e ≤ 65536 * m := Int.ediv_le_self _ (by omega)
    have v1 : IntKind.i64.wrap (65536 * n / d) = 65536 * n / d := wr (by omega)
    have v2 : IntKind.i64.wrap (65536 * m / e) = 65536 * m / e := wr (by omega)
    simp only [w1, w2, t1, t2, u1, u2, v1, v2]
    have f1 : (65536 * n == -9223372036854775808) = false := by simp; omega
    have f2 : (65536 * m == -9223372036854775808) = false := by simp; omega
    have l1 : decide (65536 * n % d < 0) = false := by simp; omega
    have l2 : decide (65536 * m % e < 0) = false := by simp; omega
    have l3 : decide (d < 0) = false := by simp; omega
    have l4 : decide (e < 0) = false := by simp; omega
    generalize 65536 * n % d = r at *
    generalize 65536 * m % e = s at *
    by_cases q1 : r = 0 <;> by_cases q2 : s = 0 <;> simp [z1, z2, z3, z4, f1, f2, l1, l2, l3, l4, q1, q2]
  · have k2 : hok [2, a0] = false := by simp [hok]; omega
    have k3 : hok [3, a0] = false := by simp [hok]; omega
    have kp : pok a0 = false := by simp [pok]; omega
    simp [R_rhpoint, valOf, vals1, valInts, val1, tupleV, resV, valsI, den, bt1, bt2, bt3, bt4, Env.at, E, fb, fi, List.getD_cons_zero, List.getD_cons_succ, List.all_cons, List.all_nil, Bool.and_true, Bool.and_assoc, Option.map_some, List.all_append, k2, k3, kp]

theorem c_rhpoint (W : World) : Flat Try.prog E W Any 11 [.i] fun l => tupleV (resV E 73 l [.g 2, .i] 0 0) := flat_val (ch6_ok W) k_rhpoint v_rhpoint

noncomputable def ch7 : Cx := ⟨ch6.ty, ch6.fn, [flatCon 11 [.i] [.g 2, .i] 73 noChk] ++ ch6.con, ch6.inl, ch6.eqs⟩
theorem ch7_ok (W : World) : ∀ l, Any l → CxOk Try.prog (E.at l) W ch7 :=
  cx_more (ch6_ok W) (List.forall_mem_cons.2 ⟨flat_con' (c_rhpoint W), (fun _ h => by cases h)⟩)
end Go.Proofs.Ytndnjjeildnhdaa.Sx
