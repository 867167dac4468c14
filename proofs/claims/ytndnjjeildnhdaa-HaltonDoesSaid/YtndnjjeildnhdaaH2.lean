/- Contracts, reckoned. -/
import Derived.Test.YtndnjjeildnhdaaH1
import Derived.KernelRfl
set_option linter.unusedVariables false
set_option linter.unusedSimpArgs false
namespace Go.Proofs.Ytndnjjeildnhdaa.Sx
open Go.RowKit

theorem hA_end {b i : Int} (hb : 2 ≤ b) (hb16 : b ≤ 16) (h0 : 0 ≤ i) (h1 : i ≤ 65535) : 1 ≤ (Mt.hA b i (Mt.nd b 17 i)).2 ∧ 0 ≤ (Mt.hA b i (Mt.nd b 17 i)).1 ∧ (Mt.hA b i (Mt.nd b 17 i)).1 ≤ 1048560 := by
  obtain ⟨nz, npos⟩ := Mt.nd_ok hb 17 i h0 (by rw [show (2 : Int) ^ 17 = 131072 by decide]; omega)
  obtain ⟨u1, u2, u3, u4⟩ := Mt.hA_bd hb h0 (Mt.nd b 17 i)
  refine ⟨u1, u2, ?_⟩
  cases hN : Mt.nd b 17 i with
  | zero => simp [Mt.hA]
  | succ k =>
    rw [hN] at u3
    have hle := Mt.hA_le hb h0 (npos k (by omega))
    have e2 : (Mt.hA b i (k + 1)).2 = (Mt.hA b i k).2 * b := rfl
    obtain ⟨v1, v2, v3, v4⟩ := Mt.hA_bd hb h0 k
    have p2 : (Mt.hA b i k).2 * b ≤ 65535 * 16 := Int.mul_le_mul (by omega) hb16 (by omega) (by omega)
    omega

def R_hpoint : Tree (AV × Hp) := (.node (.ite (.eq (.app 72 2 (.cons (.lit 2) (.cons (.var 0) .nil))) (.lit 0)) (.ite (.eq (.app 72 1 (.cons (.lit 2) (.cons (.var 0) .nil))) (.lit 0)) (.blit false) (.no (.eq (.app 72 1 (.cons (.lit 3) (.cons (.var 0) .nil))) (.lit 0)))) (.blit true)) (.leaf ((.tuple [(.agg [(.int (.ite (.eq (.app 72 2 (.cons (.lit 2) (.cons (.var 0) .nil))) (.lit 0)) (.quo (.mul (.lit 65536) (.app 72 0 (.cons (.lit 2) (.cons (.var 0) .nil)))) (.app 72 1 (.cons (.lit 2) (.cons (.var 0) .nil)))) (.lit 0))), (.int (.ite (.eq (.app 72 2 (.cons (.lit 2) (.cons (.var 0) .nil))) (.lit 0)) (.quo (.mul (.lit 65536) (.app 72 0 (.cons (.lit 3) (.cons (.var 0) .nil)))) (.app 72 1 (.cons (.lit 3) (.cons (.var 0) .nil)))) (.lit 0)))]), (.int (.ite (.eq (.app 72 2 (.cons (.lit 2) (.cons (.var 0) .nil))) (.lit 0)) (.app 72 2 (.cons (.lit 3) (.cons (.var 0) .nil))) (.app 72 2 (.cons (.lit 2) (.cons (.var 0) .nil)))))]), [])) (.fail ))
theorem k_hpoint : acall ch2 20 false 10 [] (argsG [.i] 0 0) (heapG [.i] 0) = R_hpoint := by kernel_rfl
set_option maxHeartbeats 4000000 in
set_option maxRecDepth 20000 in
theorem v_hpoint : ∀ l : List Int, l.length = lenSh [.i] → Any l → ((R_hpoint.map fun r => valOf (E.at l) r.1).sel (E.at l)) = some (some (tupleV (resV E 73 l [.g 2, .i] 0 0))) := by
  intro l hl hG
  have h0 : l.length = 1 := hl
  clear hl
  obtain ⟨a0, l1, rfl, h1⟩ := cut1 h0
  clear h0
  obtain rfl := cut0 h1
  clear h1
  by_cases g : 0 ≤ a0 ∧ a0 ≤ 65535
  · have k2 : hok [2, a0] = true := by simp [hok]; omega
    have k3 : hok [3, a0] = true := by simp [hok]; omega
    have kp : pok a0 = true := by simp [pok]; omega
    have i2 : hI 2 17 a0 (0, 1) = Mt.hA 2 a0 (Mt.nd 2 17 a0) := by rw [Mt.hI_eq, Mt.hA_hB]
    have i3 : hI 3 17 a0 (0, 1) = Mt.hA 3 a0 (Mt.nd 3 17 a0) := by rw [Mt.hI_eq, Mt.hA_hB]
    obtain ⟨b1, b2, b3⟩ := hA_end (b := 2) (i := a0) (by omega) (by omega) g.1 g.2
    obtain ⟨c1, c2, c3⟩ := hA_end (b := 3) (i := a0) (by omega) (by omega) g.1 g.2
    rw [← i2] at b1 b2 b3
    rw [← i3] at c1 c2 c3
    simp only [R_hpoint, Tree.map, Tree.sel, Env.b, Env.i, valOf, vals1, valInts, val1, tupleV, resV, valsI, den, bt1, bt2, bt3, bt4, Env.at, E, fb, fi, List.getD_cons_zero, List.getD_cons_succ, List.all_cons, List.all_nil, Bool.and_true, Bool.and_assoc, Option.map_some, List.all_append, k2, k3, kp, hinv, hpt, if_true]
    generalize (hI 2 17 a0 (0, 1)).1 = n at *
    generalize (hI 2 17 a0 (0, 1)).2 = d at *
    generalize (hI 3 17 a0 (0, 1)).1 = m at *
    generalize (hI 3 17 a0 (0, 1)).2 = e at *
    have z1 : (d == 0) = false := by simp; omega
    have z2 : (e == 0) = false := by simp; omega
    have w1 : IntKind.i64.wrap (65536 * n) = 65536 * n := wr (by omega)
    have w2 : IntKind.i64.wrap (65536 * m) = 65536 * m := wr (by omega)
    have t1 : (65536 * n).tdiv d = 65536 * n / d := Int.tdiv_eq_ediv_of_nonneg (by omega)
    have t2 : (65536 * m).tdiv e = 65536 * m / e := Int.tdiv_eq_ediv_of_nonneg (by omega)
    have x1 : 0 ≤ 65536 * n / d := Int.ediv_nonneg (by omega) (by omega)
    have x2 : 0 ≤ 65536 * m / e := Int.ediv_nonneg (by omega) (by omega)
    have y1 : 65536 * n / d ≤ 65536 * n := Int.ediv_le_self _ (by omega)
    have y2 : 65536 * m / e ≤ 65536 * m := Int.ediv_le_self _ (by omega)
    have v1 : IntKind.i64.wrap (65536 * n / d) = 65536 * n / d := wr (by omega)
    have v2 : IntKind.i64.wrap (65536 * m / e) = 65536 * m / e := wr (by omega)
    simp [z1, z2, w1, w2, t1, t2, v1, v2]
  · have k2 : hok [2, a0] = false := by simp [hok]; omega
    have k3 : hok [3, a0] = false := by simp [hok]; omega
    have kp : pok a0 = false := by simp [pok]; omega
    simp [R_hpoint, Tree.map, Tree.sel, Env.b, Env.i, valOf, vals1, valInts, val1, tupleV, resV, valsI, den, bt1, bt2, bt3, bt4, Env.at, E, fb, fi, List.getD_cons_zero, List.getD_cons_succ, List.all_cons, List.all_nil, Bool.and_true, Bool.and_assoc, Option.map_some, List.all_append, k2, k3, kp]

theorem c_hpoint (W : World) : Flat Try.prog E W Any 10 [.i] fun l => tupleV (resV E 73 l [.g 2, .i] 0 0) := flat_sel (ch2_ok W) k_hpoint v_hpoint

noncomputable def ch3 : Cx := ⟨ch2.ty, ch2.fn, [flatCon 10 [.i] [.g 2, .i] 73 noChk] ++ ch2.con, ch2.inl, ch2.eqs⟩
theorem ch3_ok (W : World) : ∀ l, Any l → CxOk Try.prog (E.at l) W ch3 :=
  cx_more (ch2_ok W) (List.forall_mem_cons.2 ⟨flat_con' (c_hpoint W), (fun _ h => by cases h)⟩)
end Go.Proofs.Ytndnjjeildnhdaa.Sx
