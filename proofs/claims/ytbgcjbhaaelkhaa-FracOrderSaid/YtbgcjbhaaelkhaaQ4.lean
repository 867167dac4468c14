/- Contracts, reckoned. -/
import Derived.Test.YtbgcjbhaaelkhaaQ3
import Derived.Test.YtbgcjbhaaelkhaaFw
import Derived.KernelRfl
set_option linter.unusedVariables false
set_option linter.unusedSimpArgs false
namespace Go.Proofs.Ytbgcjbhaaelkhaa.Sx
open Go.RowKit


def R_FracOrder : AV := (.bool (.ite (.ite (.eq (.add (.app 51 0 (.cons (.var 0) (.cons (.var 1) (.cons (.var 2) (.cons (.var 3) .nil))))) (.app 51 0 (.cons (.var 2) (.cons (.var 3) (.cons (.var 0) (.cons (.var 1) .nil)))))) (.lit 0)) (.ite (.eq (.app 51 0 (.cons (.var 0) (.cons (.var 1) (.cons (.var 0) (.cons (.var 1) .nil))))) (.lit 0)) (.ite (.lt (.app 51 0 (.cons (.var 0) (.cons (.var 1) (.cons (.var 2) (.cons (.var 3) .nil))))) (.lit (-1))) (.blit true) (.lt (.lit 1) (.app 51 0 (.cons (.var 0) (.cons (.var 1) (.cons (.var 2) (.cons (.var 3) .nil))))))) (.blit true)) (.blit true)) (.blit false) (.ite (.app 20 0 .nil) (.ite (.le (.app 51 0 (.cons (.var 0) (.cons (.var 1) (.cons (.var 2) (.cons (.var 3) .nil))))) (.lit 0)) (.ite (.le (.app 51 0 (.cons (.var 2) (.cons (.var 3) (.cons (.var 4) (.cons (.var 5) .nil))))) (.lit 0)) (.ite (.le (.app 51 0 (.cons (.var 0) (.cons (.var 1) (.cons (.var 4) (.cons (.var 5) .nil))))) (.lit 0)) (.ite (.lt (.app 51 0 (.cons (.var 0) (.cons (.var 1) (.cons (.var 2) (.cons (.var 3) .nil))))) (.lit 0)) (.ite (.lt (.app 51 0 (.cons (.var 0) (.cons (.var 1) (.cons (.var 4) (.cons (.var 5) .nil))))) (.lit 0)) (.ite (.eq (.app 51 0 (.cons (.var 0) (.cons (.var 1) (.cons (.var 2) (.cons (.var 3) .nil))))) (.lit 0)) (.ite (.eq (.app 51 0 (.cons (.var 2) (.cons (.var 3) (.cons (.var 4) (.cons (.var 5) .nil))))) (.lit 0)) (.eq (.app 51 0 (.cons (.var 0) (.cons (.var 1) (.cons (.var 4) (.cons (.var 5) .nil))))) (.lit 0)) (.blit true)) (.blit true)) (.blit false)) (.ite (.eq (.app 51 0 (.cons (.var 0) (.cons (.var 1) (.cons (.var 2) (.cons (.var 3) .nil))))) (.lit 0)) (.ite (.eq (.app 51 0 (.cons (.var 2) (.cons (.var 3) (.cons (.var 4) (.cons (.var 5) .nil))))) (.lit 0)) (.eq (.app 51 0 (.cons (.var 0) (.cons (.var 1) (.cons (.var 4) (.cons (.var 5) .nil))))) (.lit 0)) (.blit true)) (.blit true))) (.blit false)) (.ite (.lt (.app 51 0 (.cons (.var 0) (.cons (.var 1) (.cons (.var 2) (.cons (.var 3) .nil))))) (.lit 0)) (.ite (.eq (.app 51 0 (.cons (.var 0) (.cons (.var 1) (.cons (.var 2) (.cons (.var 3) .nil))))) (.lit 0)) (.ite (.eq (.app 51 0 (.cons (.var 2) (.cons (.var 3) (.cons (.var 4) (.cons (.var 5) .nil))))) (.lit 0)) (.eq (.app 51 0 (.cons (.var 0) (.cons (.var 1) (.cons (.var 4) (.cons (.var 5) .nil))))) (.lit 0)) (.blit true)) (.blit true)) (.ite (.eq (.app 51 0 (.cons (.var 0) (.cons (.var 1) (.cons (.var 2) (.cons (.var 3) .nil))))) (.lit 0)) (.ite (.eq (.app 51 0 (.cons (.var 2) (.cons (.var 3) (.cons (.var 4) (.cons (.var 5) .nil))))) (.lit 0)) (.eq (.app 51 0 (.cons (.var 0) (.cons (.var 1) (.cons (.var 4) (.cons (.var 5) .nil))))) (.lit 0)) (.blit true)) (.blit true)))) (.ite (.lt (.app 51 0 (.cons (.var 0) (.cons (.var 1) (.cons (.var 2) (.cons (.var 3) .nil))))) (.lit 0)) (.ite (.le (.app 51 0 (.cons (.var 2) (.cons (.var 3) (.cons (.var 4) (.cons (.var 5) .nil))))) (.lit 0)) (.ite (.lt (.app 51 0 (.cons (.var 0) (.cons (.var 1) (.cons (.var 4) (.cons (.var 5) .nil))))) (.lit 0)) (.ite (.eq (.app 51 0 (.cons (.var 0) (.cons (.var 1) (.cons (.var 2) (.cons (.var 3) .nil))))) (.lit 0)) (.ite (.eq (.app 51 0 (.cons (.var 2) (.cons (.var 3) (.cons (.var 4) (.cons (.var 5) .nil))))) (.lit 0)) (.eq (.app 51 0 (.cons (.var 0) (.cons (.var 1) (.cons (.var 4) (.cons (.var 5) .nil))))) (.lit 0)) (.blit true)) (.blit true)) (.blit false)) (.ite (.eq (.app 51 0 (.cons (.var 0) (.cons (.var 1) (.cons (.var 2) (.cons (.var 3) .nil))))) (.lit 0)) (.ite (.eq (.app 51 0 (.cons (.var 2) (.cons (.var 3) (.cons (.var 4) (.cons (.var 5) .nil))))) (.lit 0)) (.eq (.app 51 0 (.cons (.var 0) (.cons (.var 1) (.cons (.var 4) (.cons (.var 5) .nil))))) (.lit 0)) (.blit true)) (.blit true))) (.ite (.eq (.app 51 0 (.cons (.var 0) (.cons (.var 1) (.cons (.var 2) (.cons (.var 3) .nil))))) (.lit 0)) (.ite (.eq (.app 51 0 (.cons (.var 2) (.cons (.var 3) (.cons (.var 4) (.cons (.var 5) .nil))))) (.lit 0)) (.eq (.app 51 0 (.cons (.var 0) (.cons (.var 1) (.cons (.var 4) (.cons (.var 5) .nil))))) (.lit 0)) (.blit true)) (.blit true)))) (.blit false))))
theorem k_FracOrder : acall cy6 20 false 7 [] (argsG [.g 2, .g 2, .g 2] 0 0) (heapG [.g 2, .g 2, .g 2] 0) = .leaf (R_FracOrder, heapG [.g 2, .g 2, .g 2] 0) := by kernel_rfl
set_option maxHeartbeats 4000000 in
set_option maxRecDepth 20000 in
theorem v_FracOrder : ∀ l : List Int, l.length = lenSh [.g 2, .g 2, .g 2] → AllI l → valOf (E.at l) R_FracOrder = some (tupleV (resV E 20 l [.b] 0 0)) := by
  intro l hl hG
  have h0 : l.length = 6 := hl
  clear hl
  obtain ⟨a0, l1, rfl, h1⟩ := cut1 h0
  clear h0
  obtain ⟨a1, l2, rfl, h2⟩ := cut1 h1
  clear h1
  obtain ⟨a2, l3, rfl, h3⟩ := cut1 h2
  clear h2
  obtain ⟨a3, l4, rfl, h4⟩ := cut1 h3
  clear h3
  obtain ⟨a4, l5, rfl, h5⟩ := cut1 h4
  clear h4
  obtain ⟨a5, l6, rfl, h6⟩ := cut1 h5
  clear h5
  obtain rfl := cut0 h6
  clear h6
  simp only [R_FracOrder, valOf, vals1, valInts, val1, tupleV, resV, valsI, den, bt1, bt2, bt3, bt4, Env.at, E, fb, fi, List.getD_cons_zero, List.getD_cons_succ, List.all_cons, List.all_nil, Bool.and_true, nr', us', ss', nr2, us2, ss2, nr3, us3, ss3, Bool.and_assoc, Option.map_some, List.all_append, cmps, Wh.fe, Env.b, Env.i, Tree.map, Tree.sel, maxI]
  have w0 : IntKind.i64.wrap 0 = 0 := by decide
  have b := fcmp_bd a0 a1 a2 a3
  have t := fcmp_trans a0 a1 a2 a3 a4 a5
  rw [fcmp_anti a0 a1 a2 a3, fcmp_self, Int.add_right_neg, w0]
  generalize fcmp [a0, a1, a2, a3] = x at *
  generalize fcmp [a2, a3, a4, a5] = y at *
  generalize fcmp [a0, a1, a4, a5] = z at *
  have g1 : decide (x < -1) = false := by simp; omega
  have g2 : decide (1 < x) = false := by simp; omega
  simp only [g1, g2]
  obtain ⟨t1, t2, t3⟩ := t
  rcases tri2 x 0 with ⟨p, q, r⟩ | ⟨p, q, r⟩ | ⟨p, q, r⟩ <;> rcases tri2 y 0 with ⟨p', q', r'⟩ | ⟨p', q', r'⟩ | ⟨p', q', r'⟩ <;> rcases tri2 z 0 with ⟨p'', q'', r''⟩ | ⟨p'', q'', r''⟩ | ⟨p'', q'', r''⟩ <;> first | (exfalso; omega) | (simp [p, q, r, p', q', r', p'', q'', r'']; done) | (simp [p, q, r, p', q', r', p'', q'', r'']; omega)

theorem c_FracOrder (W : World) : Flat Try.prog E W AllI 7 [.g 2, .g 2, .g 2] fun l => tupleV (resV E 20 l [.b] 0 0) := flat_val (cy6_ok W) k_FracOrder v_FracOrder

end Go.Proofs.Ytbgcjbhaaelkhaa.Sx
