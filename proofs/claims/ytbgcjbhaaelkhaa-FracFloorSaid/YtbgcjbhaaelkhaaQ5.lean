/- Contracts, reckoned. -/
import Derived.Test.YtbgcjbhaaelkhaaQ3
import Derived.Test.YtbgcjbhaaelkhaaFw
import Derived.KernelRfl
set_option linter.unusedVariables false
set_option linter.unusedSimpArgs false
namespace Go.Proofs.Ytbgcjbhaaelkhaa.Sx
open Go.RowKit

theorem fdiv_lt_of {a b q : Int} (hb : 0 < b) (h : a < b * (q + 1)) : a.fdiv b ≤ q := by
  rw [Int.fdiv_eq_ediv_of_nonneg _ (Int.le_of_lt hb)]
  have := Int.ediv_lt_of_lt_mul hb (show a < (q + 1) * b by rw [Int.mul_comm]; exact h)
  omega
theorem le_fdiv_of {a b q : Int} (hb : 0 < b) (h : b * q ≤ a) : q ≤ a.fdiv b := by
  rw [Int.fdiv_eq_ediv_of_nonneg _ (Int.le_of_lt hb)]
  exact Int.le_ediv_of_mul_le hb (by rw [Int.mul_comm]; exact h)
theorem fdiv_bds (a : Int) {b : Int} (hb : 0 < b) : b * a.fdiv b ≤ a ∧ a < b * (a.fdiv b + 1) := by
  rw [Int.fdiv_eq_ediv_of_nonneg _ (Int.le_of_lt hb)]
  have h1 := Int.emod_nonneg a (show b ≠ 0 by omega)
  have h2 := Int.emod_lt_of_pos a hb
  have h3 := Int.mul_ediv_add_emod a b
  rw [Int.mul_add]; omega

def R_FracFloor : AV := (.bool (.ite (.eq (.ite (.ite (.le (.lit 1) (.var 1)) (.ite (.le (.var 1) (.lit 1000000000000000000)) (.ite (.le (.lit (-1000000000000000000)) (.var 0)) (.le (.var 0) (.lit 1000000000000000000)) (.blit false)) (.blit false)) (.blit false)) (.app 30 2 (.cons (.var 0) (.cons (.var 1) .nil))) (.lit 1)) (.lit 0)) (.ite (.ite (.lt (.ite (.ite (.le (.lit 1) (.var 1)) (.ite (.le (.var 1) (.lit 1000000000000000000)) (.ite (.le (.lit (-1000000000000000000)) (.var 0)) (.le (.var 0) (.lit 1000000000000000000)) (.blit false)) (.blit false)) (.blit false)) (.app 30 0 (.cons (.var 0) (.cons (.var 1) .nil))) (.lit 0)) (.lit (-1000000000000000000))) (.blit true) (.lt (.lit 1000000000000000000) (.ite (.ite (.le (.lit 1) (.var 1)) (.ite (.le (.var 1) (.lit 1000000000000000000)) (.ite (.le (.lit (-1000000000000000000)) (.var 0)) (.le (.var 0) (.lit 1000000000000000000)) (.blit false)) (.blit false)) (.blit false)) (.app 30 0 (.cons (.var 0) (.cons (.var 1) .nil))) (.lit 0)))) (.blit false) (.ite (.lt (.lit 0) (.app 51 0 (.cons (.ite (.ite (.le (.lit 1) (.var 1)) (.ite (.le (.var 1) (.lit 1000000000000000000)) (.ite (.le (.lit (-1000000000000000000)) (.var 0)) (.le (.var 0) (.lit 1000000000000000000)) (.blit false)) (.blit false)) (.blit false)) (.app 30 0 (.cons (.var 0) (.cons (.var 1) .nil))) (.lit 0)) (.cons (.lit 1) (.cons (.var 0) (.cons (.var 1) .nil)))))) (.blit false) (.ite (.app 20 0 .nil) (.ite (.eq (.ite (.ite (.le (.lit 1) (.var 1)) (.ite (.le (.var 1) (.lit 1000000000000000000)) (.ite (.le (.lit (-1000000000000000000)) (.var 0)) (.le (.var 0) (.lit 1000000000000000000)) (.blit false)) (.blit false)) (.blit false)) (.app 30 0 (.cons (.var 0) (.cons (.var 1) .nil))) (.lit 0)) (.lit 1000000000000000000)) (.blit true) (.lt (.app 51 0 (.cons (.var 0) (.cons (.var 1) (.cons (.add (.ite (.ite (.le (.lit 1) (.var 1)) (.ite (.le (.var 1) (.lit 1000000000000000000)) (.ite (.le (.lit (-1000000000000000000)) (.var 0)) (.le (.var 0) (.lit 1000000000000000000)) (.blit false)) (.blit false)) (.blit false)) (.app 30 0 (.cons (.var 0) (.cons (.var 1) .nil))) (.lit 0)) (.lit 1)) (.cons (.lit 1) .nil))))) (.lit 0))) (.blit false)))) (.ite (.app 20 0 .nil) (.ite (.ite (.le (.lit 1) (.var 1)) (.ite (.le (.var 1) (.lit 1000000000000000000)) (.ite (.le (.lit (-1000000000000000000)) (.var 0)) (.le (.var 0) (.lit 1000000000000000000)) (.blit false)) (.blit false)) (.blit false)) (.blit false) (.eq (.ite (.ite (.le (.lit 1) (.var 1)) (.ite (.le (.var 1) (.lit 1000000000000000000)) (.ite (.le (.lit (-1000000000000000000)) (.var 0)) (.le (.var 0) (.lit 1000000000000000000)) (.blit false)) (.blit false)) (.blit false)) (.app 30 0 (.cons (.var 0) (.cons (.var 1) .nil))) (.lit 0)) (.lit 0))) (.blit false))))
theorem k_FracFloor : acall cy6 20 false 9 [] (argsG [.g 2] 0 0) (heapG [.g 2] 0) = .leaf (R_FracFloor, heapG [.g 2] 0) := by kernel_rfl
set_option maxHeartbeats 4000000 in
set_option maxRecDepth 20000 in
theorem v_FracFloor : ∀ l : List Int, l.length = lenSh [.g 2] → AllI l → valOf (E.at l) R_FracFloor = some (tupleV (resV E 20 l [.b] 0 0)) := by
  intro l hl hG
  have h0 : l.length = 2 := hl
  clear hl
  obtain ⟨a0, l1, rfl, h1⟩ := cut1 h0
  clear h0
  obtain ⟨a1, l2, rfl, h2⟩ := cut1 h1
  clear h1
  obtain rfl := cut0 h2
  clear h2
  simp only [R_FracFloor, valOf, vals1, valInts, val1, tupleV, resV, valsI, den, bt1, bt2, bt3, bt4, Env.at, E, fb, fi, List.getD_cons_zero, List.getD_cons_succ, List.all_cons, List.all_nil, Bool.and_true, nr', us', ss', nr2, us2, ss2, nr3, us3, ss3, Bool.and_assoc, Option.map_some, List.all_append, cmps, Wh.fe, Env.b, Env.i, Tree.map, Tree.sel, maxI, fr4, fr4t]
  cases h : fr1 a0 a1
  · simp
  · obtain ⟨h1, h2⟩ := fr1_ok h
    have e : Wh.fe a0 a1 = 0 := Wh.fe_ok.2 ⟨by omega, by omega⟩
    have q : Wh.fq a0 a1 = a0.fdiv a1 := by unfold Wh.fq; rw [if_pos e]
    have d := fdiv_bds a0 (b := a1) (by omega)
    have n0 : -1000000000000000000 ≤ a0.fdiv a1 := le_fdiv_of (by omega) (by omega)
    have n1 : a0.fdiv a1 ≤ 1000000000000000000 := fdiv_lt_of (by omega) (by omega)
    simp only [q]
    generalize a0.fdiv a1 = n at *
    have f1 : fr1 n 1 = true := by simp [fr1]; omega
    have c1 : fcmp [n, 1, a0, a1] ≤ 0 := by rw [fcmp_right f1 h, sgc_le]; (have : n * a1 = a1 * n := by grind); omega
    have w : IntKind.i64.wrap (n + 1) = n + 1 := wr (by omega)
    have g1 : decide (n < -1000000000000000000) = false := by simp; omega
    have g2 : decide (1000000000000000000 < n) = false := by simp; omega
    have g3 : decide (0 < fcmp [n, 1, a0, a1]) = false := by simp; omega
    have e' : (if a1 = 0 then (3 : Int) else if a0 = -9223372036854775808 ∧ a1 = -1 then 4 else 0) = 0 := by rw [if_neg (by omega), if_neg (by omega)]
    simp only [e', if_true, w, g1, g2, g3]
    by_cases hn : n = 1000000000000000000
    · subst hn; simp
    · have f2 : fr1 (n + 1) 1 = true := by simp [fr1]; omega
      have c2 : fcmp [a0, a1, n + 1, 1] < 0 := by rw [fcmp_right h f2, sgc_lt]; (have : (n + 1) * a1 = a1 * (n + 1) := by grind); omega
      simp [c2]

theorem c_FracFloor (W : World) : Flat Try.prog E W AllI 9 [.g 2] fun l => tupleV (resV E 20 l [.b] 0 0) := flat_val (cy6_ok W) k_FracFloor v_FracFloor

end Go.Proofs.Ytbgcjbhaaelkhaa.Sx
