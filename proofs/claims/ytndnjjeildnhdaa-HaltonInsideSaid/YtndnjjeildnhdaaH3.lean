/- Contracts, reckoned. -/
import Derived.Test.YtndnjjeildnhdaaDw
import Derived.KernelRfl
set_option linter.unusedVariables false
set_option linter.unusedSimpArgs false
namespace Go.Proofs.Ytndnjjeildnhdaa.Sx
open Go.RowKit

theorem hins_iff {x y : Int} : hins x y = true ↔ (0 ≤ x ∧ x ≤ 65536 ∧ 0 ≤ y ∧ y ≤ 65536) ∧ (2 * x - 65536) * (2 * x - 65536) + (2 * y - 65536) * (2 * y - 65536) ≤ 4294967296 := by
  unfold hins
  simp only [Bool.and_eq_true, decide_eq_true_eq]
theorem hins_congr {x y u v : Int} (h : (0 ≤ x ∧ x ≤ 65536 ∧ 0 ≤ y ∧ y ≤ 65536) ↔ (0 ≤ u ∧ u ≤ 65536 ∧ 0 ≤ v ∧ v ≤ 65536)) (k : (2 * x - 65536) * (2 * x - 65536) + (2 * y - 65536) * (2 * y - 65536) = (2 * u - 65536) * (2 * u - 65536) + (2 * v - 65536) * (2 * v - 65536)) : hins x y = hins u v := by
  rw [Bool.eq_iff_iff, hins_iff, hins_iff, h, k]
theorem hins_out {x y : Int} (h : ¬ (0 ≤ x ∧ x ≤ 65536 ∧ 0 ≤ y ∧ y ≤ 65536)) : hins x y = false := by
  rw [← Bool.not_eq_true, hins_iff]; exact fun k => h k.1
theorem hins_near {x y : Int} (h : hins x y = true) : hins ((x + 32768) / 2) ((y + 32768) / 2) = true := by
  rw [hins_iff] at h ⊢
  obtain ⟨⟨h0, h1, h2, h3⟩, h4⟩ := h
  refine ⟨by omega, ?_⟩
  have sq : ∀ z : Int, (2 * ((z + 32768) / 2) - 65536) * (2 * ((z + 32768) / 2) - 65536) ≤ (2 * z - 65536) * (2 * z - 65536) := by
    intro z
    by_cases hz : 0 ≤ 2 * z - 65536
    · exact Mt.sq_le (by omega) (by omega)
    · have := Mt.sq_le (a := -(2 * ((z + 32768) / 2) - 65536)) (b := -(2 * z - 65536)) (by omega) (by omega)
      simp only [Int.neg_mul_neg] at this
      exact this
  have s1 := sq x
  have s2 := sq y
  omega

def R_HaltonInside : AV := (.bool (.ite (.ite (.lt (.var 0) (.lit 0)) (.blit true) (.ite (.lt (.lit 65536) (.var 0)) (.blit true) (.ite (.lt (.var 1) (.lit 0)) (.blit true) (.lt (.lit 65536) (.var 1))))) (.ite (.app 20 0 .nil) (.no (.ite (.lt (.var 0) (.lit 0)) (.app 71 0 (.cons (.var 0) (.cons (.var 1) .nil))) (.ite (.lt (.lit 65536) (.var 0)) (.app 71 0 (.cons (.var 0) (.cons (.var 1) .nil))) (.ite (.lt (.var 1) (.lit 0)) (.app 71 0 (.cons (.var 0) (.cons (.var 1) .nil))) (.app 71 0 (.cons (.var 0) (.cons (.var 1) .nil))))))) (.blit false)) (.ite (.app 20 0 .nil) (.ite (.ite (.app 71 0 (.cons (.sub (.lit 65536) (.var 0)) (.cons (.var 1) .nil))) (.ite (.lt (.var 0) (.lit 0)) (.app 71 0 (.cons (.var 0) (.cons (.var 1) .nil))) (.ite (.lt (.lit 65536) (.var 0)) (.app 71 0 (.cons (.var 0) (.cons (.var 1) .nil))) (.ite (.lt (.var 1) (.lit 0)) (.app 71 0 (.cons (.var 0) (.cons (.var 1) .nil))) (.app 71 0 (.cons (.var 0) (.cons (.var 1) .nil)))))) (.no (.ite (.lt (.var 0) (.lit 0)) (.app 71 0 (.cons (.var 0) (.cons (.var 1) .nil))) (.ite (.lt (.lit 65536) (.var 0)) (.app 71 0 (.cons (.var 0) (.cons (.var 1) .nil))) (.ite (.lt (.var 1) (.lit 0)) (.app 71 0 (.cons (.var 0) (.cons (.var 1) .nil))) (.app 71 0 (.cons (.var 0) (.cons (.var 1) .nil)))))))) (.ite (.ite (.app 71 0 (.cons (.var 0) (.cons (.sub (.lit 65536) (.var 1)) .nil))) (.ite (.lt (.var 0) (.lit 0)) (.app 71 0 (.cons (.var 0) (.cons (.var 1) .nil))) (.ite (.lt (.lit 65536) (.var 0)) (.app 71 0 (.cons (.var 0) (.cons (.var 1) .nil))) (.ite (.lt (.var 1) (.lit 0)) (.app 71 0 (.cons (.var 0) (.cons (.var 1) .nil))) (.app 71 0 (.cons (.var 0) (.cons (.var 1) .nil)))))) (.no (.ite (.lt (.var 0) (.lit 0)) (.app 71 0 (.cons (.var 0) (.cons (.var 1) .nil))) (.ite (.lt (.lit 65536) (.var 0)) (.app 71 0 (.cons (.var 0) (.cons (.var 1) .nil))) (.ite (.lt (.var 1) (.lit 0)) (.app 71 0 (.cons (.var 0) (.cons (.var 1) .nil))) (.app 71 0 (.cons (.var 0) (.cons (.var 1) .nil)))))))) (.ite (.ite (.app 71 0 (.cons (.var 1) (.cons (.var 0) .nil))) (.ite (.lt (.var 0) (.lit 0)) (.app 71 0 (.cons (.var 0) (.cons (.var 1) .nil))) (.ite (.lt (.lit 65536) (.var 0)) (.app 71 0 (.cons (.var 0) (.cons (.var 1) .nil))) (.ite (.lt (.var 1) (.lit 0)) (.app 71 0 (.cons (.var 0) (.cons (.var 1) .nil))) (.app 71 0 (.cons (.var 0) (.cons (.var 1) .nil)))))) (.no (.ite (.lt (.var 0) (.lit 0)) (.app 71 0 (.cons (.var 0) (.cons (.var 1) .nil))) (.ite (.lt (.lit 65536) (.var 0)) (.app 71 0 (.cons (.var 0) (.cons (.var 1) .nil))) (.ite (.lt (.var 1) (.lit 0)) (.app 71 0 (.cons (.var 0) (.cons (.var 1) .nil))) (.app 71 0 (.cons (.var 0) (.cons (.var 1) .nil)))))))) (.ite (.ite (.lt (.var 0) (.lit 0)) (.app 71 0 (.cons (.var 0) (.cons (.var 1) .nil))) (.ite (.lt (.lit 65536) (.var 0)) (.app 71 0 (.cons (.var 0) (.cons (.var 1) .nil))) (.ite (.lt (.var 1) (.lit 0)) (.app 71 0 (.cons (.var 0) (.cons (.var 1) .nil))) (.app 71 0 (.cons (.var 0) (.cons (.var 1) .nil)))))) (.ite (.app 71 0 (.cons (.quo (.add (.var 0) (.lit 32768)) (.lit 2)) (.cons (.quo (.add (.var 1) (.lit 32768)) (.lit 2)) .nil))) (.app 71 0 (.cons (.lit 32768) (.cons (.lit 32768) .nil))) (.blit false)) (.app 71 0 (.cons (.lit 32768) (.cons (.lit 32768) .nil)))) (.blit false)) (.blit false)) (.blit false)) (.blit false))))
theorem k_HaltonInside : acall ch4 20 false 6 [] (argsG [.g 2] 0 0) (heapG [.g 2] 0) = .leaf (R_HaltonInside, heapG [.g 2] 0) := by kernel_rfl
set_option maxHeartbeats 4000000 in
set_option maxRecDepth 20000 in
theorem v_HaltonInside : ∀ l : List Int, l.length = lenSh [.g 2] → Any l → valOf (E.at l) R_HaltonInside = some (tupleV (resV E 20 l [.b] 0 0)) := by
  intro l hl hG
  have h0 : l.length = 2 := hl
  clear hl
  obtain ⟨a0, l1, rfl, h1⟩ := cut1 h0
  clear h0
  obtain ⟨a1, l2, rfl, h2⟩ := cut1 h1
  clear h1
  obtain rfl := cut0 h2
  clear h2
  by_cases g : 0 ≤ a0 ∧ a0 ≤ 65536 ∧ 0 ≤ a1 ∧ a1 ≤ 65536
  · have e1 := hins_congr (x := 65536 - a0) (y := a1) (u := a0) (v := a1) (by omega) (by grind)
    have e2 := hins_congr (x := a0) (y := 65536 - a1) (u := a0) (v := a1) (by omega) (by grind)
    have e3 := hins_congr (x := a1) (y := a0) (u := a0) (v := a1) (by omega) (by grind)
    have e5 : hins 32768 32768 = true := by decide
    have e4 := hins_near (x := a0) (y := a1)
    obtain ⟨g0, g1, g2, g3⟩ := g
    have d0 : decide (a0 < 0) = false := by simp; omega
    have d1 : decide (65536 < a0) = false := by simp; omega
    have d2 : decide (a1 < 0) = false := by simp; omega
    have d3 : decide (65536 < a1) = false := by simp; omega
    have w0 : IntKind.i64.wrap (65536 - a0) = 65536 - a0 := wr (by omega)
    have w1 : IntKind.i64.wrap (65536 - a1) = 65536 - a1 := wr (by omega)
    have w2 : IntKind.i64.wrap (a0 + 32768) = a0 + 32768 := wr (by omega)
    have w3 : IntKind.i64.wrap (a1 + 32768) = a1 + 32768 := wr (by omega)
    have t0 : (a0 + 32768).tdiv 2 = (a0 + 32768) / 2 := Int.tdiv_eq_ediv_of_nonneg (by omega)
    have t1 : (a1 + 32768).tdiv 2 = (a1 + 32768) / 2 := Int.tdiv_eq_ediv_of_nonneg (by omega)
    have w4 : IntKind.i64.wrap ((a0 + 32768) / 2) = (a0 + 32768) / 2 := wr (by omega)
    have w5 : IntKind.i64.wrap ((a1 + 32768) / 2) = (a1 + 32768) / 2 := wr (by omega)
    simp only [R_HaltonInside, valOf, vals1, valInts, val1, tupleV, resV, valsI, den, bt1, bt2, bt3, bt4, Env.at, E, fb, fi, List.getD_cons_zero, List.getD_cons_succ, List.all_cons, List.all_nil, Bool.and_true, Bool.and_assoc, Option.map_some, List.all_append]
    cases k : hins a0 a1
    · rw [k] at e1 e2 e3
      simp [d0, d1, d2, d3, w0, w1, w2, w3, t0, t1, w4, w5, e1, e2, e3, e5, k]
    · rw [k] at e1 e2 e3
      have e6 := e4 k
      simp [d0, d1, d2, d3, w0, w1, w2, w3, t0, t1, w4, w5, e1, e2, e3, e5, e6, k]
  · have e1 := hins_out g
    have hd : (decide (a0 < 0) || (decide (65536 < a0) || (decide (a1 < 0) || decide (65536 < a1)))) = true := by
      simp only [Bool.or_eq_true, decide_eq_true_eq]; omega
    simp only [R_HaltonInside, valOf, vals1, valInts, val1, tupleV, resV, valsI, den, bt1, bt2, bt3, bt4, Env.at, E, fb, fi, List.getD_cons_zero, List.getD_cons_succ, List.all_cons, List.all_nil, Bool.and_true, Bool.and_assoc, Option.map_some, List.all_append, e1, hd, Bool.and_false, Bool.not_false, if_true]

theorem c_HaltonInside (W : World) : Flat Try.prog E W Any 6 [.g 2] fun l => tupleV (resV E 20 l [.b] 0 0) := flat_val (ch4_ok W) k_HaltonInside v_HaltonInside

end Go.Proofs.Ytndnjjeildnhdaa.Sx
