/- Contracts, reckoned. -/
import Derived.Test.YtndnjjeildnhdaaH4
import Derived.Test.YtndnjjeildnhdaaFw
import Derived.KernelRfl
set_option linter.unusedVariables false
set_option linter.unusedSimpArgs false
namespace Go.Proofs.Ytndnjjeildnhdaa.Sx
open Go.RowKit

theorem hI_lin {b : Int} : ∀ (n : Nat) (i p q : Int), hI b n i (p, q) = (p * (hI b n i (0, 1)).2 + (hI b n i (0, 1)).1, q * (hI b n i (0, 1)).2)
  | 0, i, p, q => by simp [hI]
  | n + 1, i, p, q => by
    simp only [hI]
    split
    · simp
    · rw [hI_lin n (i / b) (p * b + i % b) (q * b), hI_lin n (i / b) (0 * b + i % b) (1 * b)]
      generalize (hI b n (i / b) (0, 1)).1 = N
      generalize (hI b n (i / b) (0, 1)).2 = D
      simp only [Prod.mk.injEq]
      constructor <;> grind
theorem hI_fuel {b : Int} (hb : 2 ≤ b) : ∀ (n : Nat) (i : Int) (a : Int × Int), 0 ≤ i → i < 2 ^ n → hI b (n + 1) i a = hI b n i a
  | 0, i, a, h0, h => by
    have : i = 0 := by simp at h; omega
    subst this; simp [hI]
  | n + 1, i, a, h0, h => by
    have e : hI b (n + 1) i a = if i ≤ 0 then a else hI b n (i / b) (a.1 * b + i % b, a.2 * b) := rfl
    have e2 : hI b (n + 1 + 1) i a = if i ≤ 0 then a else hI b (n + 1) (i / b) (a.1 * b + i % b, a.2 * b) := rfl
    rw [e, e2]
    split
    · rfl
    · have hdiv : i / b ≤ i / 2 := by
        have h1 : i / b * 2 ≤ i / b * b := Int.mul_le_mul_of_nonneg_left hb (Int.ediv_nonneg h0 (by omega))
        have h2 : i / b * b ≤ i := Int.ediv_mul_le i (by omega)
        omega
      have hlt : i / b < 2 ^ n := by
        have : i / 2 < 2 ^ n := by rw [Int.pow_succ] at h; omega
        omega
      exact hI_fuel hb n (i / b) _ (Int.ediv_nonneg h0 (by omega)) hlt
theorem hinv_digit {b i d : Int} (hb : 2 ≤ b) (hi : 1 ≤ i) (hi2 : i ≤ 4000) (h0 : 0 ≤ d) (h1 : d < b) : hI b 17 (b * i + d) (0, 1) = ((hI b 17 i (0, 1)).1 + d * (hI b 17 i (0, 1)).2, b * (hI b 17 i (0, 1)).2) := by
  have hbi : 2 * i ≤ b * i := Int.mul_le_mul_of_nonneg_right hb (by omega)
  have e : hI b 17 (b * i + d) (0, 1) = if b * i + d ≤ 0 then (0, 1) else hI b 16 ((b * i + d) / b) (0 * b + (b * i + d) % b, 1 * b) := rfl
  have e1 : (b * i + d) / b = i := by rw [Int.mul_add_ediv_left _ _ (by omega), Int.ediv_eq_zero_of_lt h0 h1]; omega
  have e2 : (b * i + d) % b = d := by rw [Int.add_comm, Int.add_mul_emod_self_left]; exact Int.emod_eq_of_lt h0 h1
  rw [e, if_neg (by omega), e1, e2, hI_lin, hI_fuel hb 16 i (0, 1) (by omega) (by rw [show (2 : Int) ^ 16 = 65536 by decide]; omega)]
  simp only [Prod.mk.injEq]
  constructor <;> grind
theorem hA_endD {b i : Int} (hb : 2 ≤ b) (hb16 : b ≤ 16) (h0 : 0 ≤ i) (h1 : i ≤ 65535) : 1 ≤ (Mt.hA b i (Mt.nd b 17 i)).2 ∧ 0 ≤ (Mt.hA b i (Mt.nd b 17 i)).1 ∧ (Mt.hA b i (Mt.nd b 17 i)).1 < (Mt.hA b i (Mt.nd b 17 i)).2 ∧ (Mt.hA b i (Mt.nd b 17 i)).2 ≤ 1048560 := by
  obtain ⟨nz, npos⟩ := Mt.nd_ok hb 17 i h0 (by rw [show (2 : Int) ^ 17 = 131072 by decide]; omega)
  obtain ⟨u1, u2, u3, u4⟩ := Mt.hA_bd hb h0 (Mt.nd b 17 i)
  refine ⟨u1, u2, u3, ?_⟩
  cases hN : Mt.nd b 17 i with
  | zero => simp [Mt.hA]
  | succ k =>
    have hle := Mt.hA_le hb h0 (npos k (by omega))
    have e2 : (Mt.hA b i (k + 1)).2 = (Mt.hA b i k).2 * b := rfl
    obtain ⟨v1, v2, v3, v4⟩ := Mt.hA_bd hb h0 k
    have p2 : (Mt.hA b i k).2 * b ≤ 65535 * 16 := Int.mul_le_mul (by omega) hb16 (by omega) (by omega)
    omega

def R_HaltonDigit : AV := (.bool (.ite (.ite (.lt (.var 0) (.lit 2)) (.blit true) (.ite (.lt (.lit 16) (.var 0)) (.blit true) (.ite (.lt (.var 1) (.lit 1)) (.blit true) (.ite (.lt (.lit 4000) (.var 1)) (.blit true) (.ite (.lt (.var 2) (.lit 0)) (.blit true) (.le (.var 0) (.var 2))))))) (.app 20 0 .nil) (.ite (.eq (.app 72 2 (.cons (.var 0) (.cons (.add (.mul (.var 0) (.var 1)) (.var 2)) .nil))) (.lit 0)) (.ite (.ite (.eq (.app 72 2 (.cons (.var 0) (.cons (.var 1) .nil))) (.lit 0)) (.ite (.lt (.app 72 0 (.cons (.var 0) (.cons (.var 1) .nil))) (.lit 0)) (.blit true) (.ite (.le (.app 72 1 (.cons (.var 0) (.cons (.var 1) .nil))) (.app 72 0 (.cons (.var 0) (.cons (.var 1) .nil)))) (.blit true) (.ite (.le (.app 72 1 (.cons (.var 0) (.cons (.add (.mul (.var 0) (.var 1)) (.var 2)) .nil))) (.app 72 0 (.cons (.var 0) (.cons (.add (.mul (.var 0) (.var 1)) (.var 2)) .nil)))) (.blit true) (.ite (.lt (.lit 1000000000000000) (.app 72 1 (.cons (.var 0) (.cons (.var 1) .nil)))) (.blit true) (.lt (.app 72 1 (.cons (.var 0) (.cons (.var 1) .nil))) (.lit 1)))))) (.blit true)) (.blit false) (.ite (.app 20 0 .nil) (.eq (.app 51 0 (.cons (.app 72 0 (.cons (.var 0) (.cons (.add (.mul (.var 0) (.var 1)) (.var 2)) .nil))) (.cons (.app 72 1 (.cons (.var 0) (.cons (.add (.mul (.var 0) (.var 1)) (.var 2)) .nil))) (.cons (.add (.app 72 0 (.cons (.var 0) (.cons (.var 1) .nil))) (.mul (.var 2) (.app 72 1 (.cons (.var 0) (.cons (.var 1) .nil))))) (.cons (.mul (.var 0) (.app 72 1 (.cons (.var 0) (.cons (.var 1) .nil)))) .nil))))) (.lit 0)) (.blit false))) (.ite (.app 20 0 .nil) (.lt (.lit 65535) (.add (.mul (.var 0) (.var 1)) (.var 2))) (.blit false)))))
theorem k_HaltonDigit : acall ch7 20 false 7 [] (argsG [.i, .i, .i] 0 0) (heapG [.i, .i, .i] 0) = .leaf (R_HaltonDigit, heapG [.i, .i, .i] 0) := by kernel_rfl
set_option maxHeartbeats 4000000 in
set_option maxRecDepth 20000 in
theorem v_HaltonDigit : ∀ l : List Int, l.length = lenSh [.i, .i, .i] → Any l → valOf (E.at l) R_HaltonDigit = some (tupleV (resV E 20 l [.b] 0 0)) := by
  intro l hl hG
  have h0 : l.length = 3 := hl
  clear hl
  obtain ⟨a0, l1, rfl, h1⟩ := cut1 h0
  clear h0
  obtain ⟨a1, l2, rfl, h2⟩ := cut1 h1
  clear h1
  obtain ⟨a2, l3, rfl, h3⟩ := cut1 h2
  clear h2
  obtain rfl := cut0 h3
  clear h3
  by_cases g : 2 ≤ a0 ∧ a0 ≤ 16 ∧ 1 ≤ a1 ∧ a1 ≤ 4000 ∧ 0 ≤ a2 ∧ a2 < a0
  · obtain ⟨g0, g1, g2, g3, g4, g5⟩ := g
    have m1 : 2 * a1 ≤ a0 * a1 := Int.mul_le_mul_of_nonneg_right g0 (by omega)
    have m2 : a0 * a1 ≤ 16 * 4000 := Int.mul_le_mul g1 g3 (by omega) (by omega)
    have k1 : hok [a0, a1] = true := by simp [hok]; omega
    have k2 : hok [a0, a0 * a1 + a2] = true := by simp [hok]; omega
    have w1 : IntKind.i64.wrap (a0 * a1) = a0 * a1 := wr (by omega)
    have w2 : IntKind.i64.wrap (a0 * a1 + a2) = a0 * a1 + a2 := wr (by omega)
    have hd := hinv_digit (b := a0) (i := a1) (d := a2) g0 g2 g3 g4 g5
    have i2 : hI a0 17 a1 (0, 1) = Mt.hA a0 a1 (Mt.nd a0 17 a1) := by rw [Mt.hI_eq, Mt.hA_hB]
    obtain ⟨b1, b2, b3, b4⟩ := hA_endD (b := a0) (i := a1) g0 g1 (by omega) (by omega)
    rw [← i2] at b1 b2 b3 b4
    have e1 : hinv [a0, a1] = hI a0 17 a1 (0, 1) := rfl
    have e2 : hinv [a0, a0 * a1 + a2] = ((hI a0 17 a1 (0, 1)).1 + a2 * (hI a0 17 a1 (0, 1)).2, a0 * (hI a0 17 a1 (0, 1)).2) := by
      show hI a0 17 (a0 * a1 + a2) (0, 1) = _; exact hd
    have c0 : (decide (a0 < 2) || (decide (16 < a0) || (decide (a1 < 1) || (decide (4000 < a1) || (decide (a2 < 0) || decide (a0 ≤ a2)))))) = false := by
      simp only [Bool.or_eq_false_iff, decide_eq_false_iff_not]; omega
    simp only [R_HaltonDigit, valOf, vals1, valInts, val1, tupleV, resV, valsI, den, bt1, bt2, bt3, bt4, Env.at, E, fb, fi, List.getD_cons_zero, List.getD_cons_succ, List.all_cons, List.all_nil, Bool.and_true, Bool.and_assoc, Option.map_some, List.all_append, w1, w2, k1, k2, e1, e2, if_true, c0]
    generalize (hI a0 17 a1 (0, 1)).1 = N at *
    generalize (hI a0 17 a1 (0, 1)).2 = D at *
    have p1 : 0 ≤ a2 * D := Int.mul_nonneg g4 (by omega)
    have p2 : a2 * D ≤ 16 * 1048560 := Int.mul_le_mul (by omega) b4 (by omega) (by omega)
    have p3 : (a2 + 1) * D ≤ a0 * D := Int.mul_le_mul_of_nonneg_right (by omega) (by omega)
    rw [Int.add_mul] at p3
    have p4 : a0 * D ≤ 16 * 1048560 := Int.mul_le_mul (by omega) b4 (by omega) (by omega)
    have w3 : IntKind.i64.wrap (a2 * D) = a2 * D := wr (by omega)
    have w4 : IntKind.i64.wrap (N + a2 * D) = N + a2 * D := wr (by omega)
    have w5 : IntKind.i64.wrap (a0 * D) = a0 * D := wr (by omega)
    have d1 : decide (N < 0) = false := by simp; omega
    have d2 : decide (D ≤ N) = false := by simp; omega
    have d3 : decide (a0 * D ≤ N + a2 * D) = false := by simp; omega
    have d4 : decide (1000000000000000 < D) = false := by simp; omega
    have d5 : decide (D < 1) = false := by simp; omega
    simp only [w3, w4, w5, d1, d2, d3, d4, d5, fcmp_self]
    rfl
  · have c0 : (decide (a0 < 2) || (decide (16 < a0) || (decide (a1 < 1) || (decide (4000 < a1) || (decide (a2 < 0) || decide (a0 ≤ a2)))))) = true := by
      simp only [Bool.or_eq_true, decide_eq_true_eq]; omega
    simp only [R_HaltonDigit, valOf, vals1, valInts, val1, tupleV, resV, valsI, den, bt1, bt2, bt3, bt4, Env.at, E, fb, fi, List.getD_cons_zero, List.getD_cons_succ, List.all_cons, List.all_nil, Bool.and_true, Bool.and_assoc, Option.map_some, List.all_append, c0, Bool.true_or]
    rfl

theorem c_HaltonDigit (W : World) : Flat Try.prog E W Any 7 [.i, .i, .i] fun l => tupleV (resV E 20 l [.b] 0 0) := flat_val (ch7_ok W) k_HaltonDigit v_HaltonDigit

end Go.Proofs.Ytndnjjeildnhdaa.Sx
