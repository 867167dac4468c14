/- Contracts, reckoned. -/
import Derived.Test.YtndnjjeildnhdaaDw
import Derived.Test.YtndnjjeildnhdaaFw
import Derived.KernelRfl
set_option linter.unusedVariables false
set_option linter.unusedSimpArgs false
namespace Go.Proofs.Ytndnjjeildnhdaa.Sx
open Go.RowKit


def S0_mul : SE := (.ite (.lt (.var 0) (.lit 0)) (.no (.lt (.var 1) (.lit 0))) (.lt (.var 1) (.lit 0)))
def S1_mul : SE := (.ite (.lt (.lit 1000000000000000000) (.ite (.lt (.var 0) (.var 1)) (.var 1) (.var 0))) (.blit true) (.lt (.ite (.lt (.var 1) (.var 0)) (.var 1) (.var 0)) (.lit (-1000000000000000000))))
def S2_mul : SE := (.rem (.add (.mul (.rem (.ite (.lt (.var 0) (.sub (.lit 0) (.var 0))) (.sub (.lit 0) (.var 0)) (.var 0)) (.lit 1000000000)) (.rem (.ite (.lt (.var 1) (.sub (.lit 0) (.var 1))) (.sub (.lit 0) (.var 1)) (.var 1)) (.lit 1000000000))) (.mul (.rem (.add (.mul (.quo (.ite (.lt (.var 0) (.sub (.lit 0) (.var 0))) (.sub (.lit 0) (.var 0)) (.var 0)) (.lit 1000000000)) (.rem (.ite (.lt (.var 1) (.sub (.lit 0) (.var 1))) (.sub (.lit 0) (.var 1)) (.var 1)) (.lit 1000000000))) (.mul (.rem (.ite (.lt (.var 0) (.sub (.lit 0) (.var 0))) (.sub (.lit 0) (.var 0)) (.var 0)) (.lit 1000000000)) (.quo (.ite (.lt (.var 1) (.sub (.lit 0) (.var 1))) (.sub (.lit 0) (.var 1)) (.var 1)) (.lit 1000000000)))) (.lit 1000000000)) (.lit 1000000000))) (.lit 1000000000000000000))
def S3_mul : SE := (.eq S2_mul (.lit 0))
def S4_mul : SE := (.sub (.lit 1000000000000000000) S2_mul)
def S5_mul : SE := (.add (.add (.mul (.quo (.ite (.lt (.var 0) (.sub (.lit 0) (.var 0))) (.sub (.lit 0) (.var 0)) (.var 0)) (.lit 1000000000)) (.quo (.ite (.lt (.var 1) (.sub (.lit 0) (.var 1))) (.sub (.lit 0) (.var 1)) (.var 1)) (.lit 1000000000))) (.quo (.add (.mul (.quo (.ite (.lt (.var 0) (.sub (.lit 0) (.var 0))) (.sub (.lit 0) (.var 0)) (.var 0)) (.lit 1000000000)) (.rem (.ite (.lt (.var 1) (.sub (.lit 0) (.var 1))) (.sub (.lit 0) (.var 1)) (.var 1)) (.lit 1000000000))) (.mul (.rem (.ite (.lt (.var 0) (.sub (.lit 0) (.var 0))) (.sub (.lit 0) (.var 0)) (.var 0)) (.lit 1000000000)) (.quo (.ite (.lt (.var 1) (.sub (.lit 0) (.var 1))) (.sub (.lit 0) (.var 1)) (.var 1)) (.lit 1000000000)))) (.lit 1000000000))) (.quo (.add (.mul (.rem (.ite (.lt (.var 0) (.sub (.lit 0) (.var 0))) (.sub (.lit 0) (.var 0)) (.var 0)) (.lit 1000000000)) (.rem (.ite (.lt (.var 1) (.sub (.lit 0) (.var 1))) (.sub (.lit 0) (.var 1)) (.var 1)) (.lit 1000000000))) (.mul (.rem (.add (.mul (.quo (.ite (.lt (.var 0) (.sub (.lit 0) (.var 0))) (.sub (.lit 0) (.var 0)) (.var 0)) (.lit 1000000000)) (.rem (.ite (.lt (.var 1) (.sub (.lit 0) (.var 1))) (.sub (.lit 0) (.var 1)) (.var 1)) (.lit 1000000000))) (.mul (.rem (.ite (.lt (.var 0) (.sub (.lit 0) (.var 0))) (.sub (.lit 0) (.var 0)) (.var 0)) (.lit 1000000000)) (.quo (.ite (.lt (.var 1) (.sub (.lit 0) (.var 1))) (.sub (.lit 0) (.var 1)) (.var 1)) (.lit 1000000000)))) (.lit 1000000000)) (.lit 1000000000))) (.lit 1000000000000000000)))
def S6_mul : SE := (.sub (.sub (.lit 0) S5_mul) (.lit 1))
def S7_mul : SE := (.ite (.le (.lit 0) S2_mul) (.ite (.lt S2_mul (.lit 1000000000000000000)) (.ite (.le (.lit (-4000000000000000000)) S5_mul) (.le S5_mul (.lit 4000000000000000000)) (.blit false)) (.blit false)) (.blit false))
def S8_mul : SE := (.ite (.le (.lit 0) S4_mul) (.ite (.lt S4_mul (.lit 1000000000000000000)) (.ite (.le (.lit (-4000000000000000000)) S6_mul) (.le S6_mul (.lit 4000000000000000000)) (.blit false)) (.blit false)) (.blit false))
def R_mul : AV := (.tuple [(.agg [(.int (.ite S1_mul (.lit 0) (.ite S0_mul (.ite S7_mul (.ite S3_mul (.sub (.lit 0) S5_mul) (.ite S8_mul S6_mul (.lit 0))) (.lit 0)) S5_mul))), (.int (.ite S1_mul (.lit 0) (.ite S0_mul (.ite S7_mul (.ite S3_mul (.lit 0) (.ite S8_mul S4_mul (.lit 0))) (.lit 0)) S2_mul)))]), (.int (.ite S1_mul (.lit 2) (.ite S0_mul (.ite S7_mul (.ite S3_mul (.lit 0) (.ite S8_mul (.lit 0) (.lit 4))) (.lit 1)) (.lit 0))))])
theorem k_mul : acall ch4 20 false 29 [] (argsG [.i, .i] 0 0) (heapG [.i, .i] 0) = .leaf (R_mul, heapG [.i, .i] 0) := by kernel_rfl
set_option maxHeartbeats 4000000 in
set_option maxRecDepth 20000 in
theorem v_mul : ∀ l : List Int, l.length = lenSh [.i, .i] → Any l → valOf (E.at l) R_mul = some (tupleV (resV E 50 l [.g 2, .i] 0 0)) := by
  intro l hl hG
  have h0 : l.length = 2 := hl
  clear hl
  obtain ⟨a0, l1, rfl, h1⟩ := cut1 h0
  clear h0
  obtain ⟨a1, l2, rfl, h2⟩ := cut1 h1
  clear h1
  obtain rfl := cut0 h2
  clear h2
  simp only [R_mul, S0_mul, S1_mul, S2_mul, S3_mul, S4_mul, S5_mul, S6_mul, S7_mul, S8_mul, valOf, vals1, valInts, val1, tupleV, resV, valsI, den, bt1, bt2, bt3, bt4, Env.at, E, fb, fi, List.getD_cons_zero, List.getD_cons_succ, List.all_cons, List.all_nil, Bool.and_true, Bool.and_assoc, Option.map_some, List.all_append, Wh.fe, minI, maxI, wok]
  by_cases g : (1000000000000000000 < max a0 a1 ∨ min a0 a1 < -1000000000000000000)
  · have gb : (decide (1000000000000000000 < max a0 a1) || decide (min a0 a1 < -1000000000000000000)) = true := by simpa using g
    have gw : (decide (-1000000000000000000 ≤ a0) && (decide (a0 ≤ 1000000000000000000) && (decide (-1000000000000000000 ≤ a1) && decide (a1 ≤ 1000000000000000000)))) = false := by
      rw [Bool.eq_false_iff]; intro h; simp only [Bool.and_eq_true, decide_eq_true_eq] at h; omega
    simp [gb, gw]
  · have gb : (decide (1000000000000000000 < max a0 a1) || decide (min a0 a1 < -1000000000000000000)) = false := by simpa using g
    have gw : (decide (-1000000000000000000 ≤ a0) && (decide (a0 ≤ 1000000000000000000) && (decide (-1000000000000000000 ≤ a1) && decide (a1 ≤ 1000000000000000000)))) = true := by
      simp only [Bool.and_eq_true, decide_eq_true_eq]; omega
    have n0 : IntKind.i64.wrap (0 - a0) = -a0 := by rw [wr (by omega)]; omega
    have n1 : IntKind.i64.wrap (0 - a1) = -a1 := by rw [wr (by omega)]; omega
    simp only [gb, gw, n0, n1]
    have s0 : a0 < 0 ∨ 0 ≤ a0 := by omega
    have s1 : a1 < 0 ∨ 0 ≤ a1 := by omega
    have h := halves (x := max a0 (-a0)) (y := max a1 (-a1)) (by omega) (by omega)
    have hxy : (a0 < 0 ∧ 0 ≤ a1 → a0 * a1 = -(max a0 (-a0) * max a1 (-a1))) ∧ (0 ≤ a0 ∧ a1 < 0 → a0 * a1 = -(max a0 (-a0) * max a1 (-a1))) ∧ (a0 < 0 ∧ a1 < 0 → a0 * a1 = max a0 (-a0) * max a1 (-a1)) ∧ (0 ≤ a0 ∧ 0 ≤ a1 → a0 * a1 = max a0 (-a0) * max a1 (-a1)) := by
      refine ⟨fun h => ?_, fun h => ?_, fun h => ?_, fun h => ?_⟩
      · rw [show max a0 (-a0) = -a0 by omega, show max a1 (-a1) = a1 by omega]; grind
      · rw [show max a0 (-a0) = a0 by omega, show max a1 (-a1) = -a1 by omega]; grind
      · rw [show max a0 (-a0) = -a0 by omega, show max a1 (-a1) = -a1 by omega]; grind
      · rw [show max a0 (-a0) = a0 by omega, show max a1 (-a1) = a1 by omega]
    have bx : 0 ≤ max a0 (-a0) ∧ max a0 (-a0) ≤ 1000000000000000000 := by omega
    have by' : 0 ≤ max a1 (-a1) ∧ max a1 (-a1) ≤ 1000000000000000000 := by omega
    generalize max a0 (-a0) = X at *
    generalize max a1 (-a1) = Y at *
    rw [Int.tdiv_eq_ediv_of_nonneg bx.1, Int.tmod_eq_emod_of_nonneg bx.1, Int.tdiv_eq_ediv_of_nonneg by'.1, Int.tmod_eq_emod_of_nonneg by'.1]
    obtain ⟨h1, h2, h3, h4, h5, h6, h7, h8, e⟩ := h
    generalize X / 1000000000 = p at *
    generalize X % 1000000000 = q at *
    generalize Y / 1000000000 = r at *
    generalize Y % 1000000000 = s at *
    rw [wr (x := p) (by omega), wr (x := r) (by omega), wr (x := p * r) (by omega), wr (x := q * s) (by omega), wr (x := p * s) (by omega), wr (x := q * r) (by omega), wr (x := p * s + q * r) (by omega)]
    have hm : 0 ≤ p * s + q * r := by omega
    rw [Int.tdiv_eq_ediv_of_nonneg hm, Int.tmod_eq_emod_of_nonneg hm]
    have c1 : 0 ≤ (p * s + q * r) / 1000000000 ∧ (p * s + q * r) / 1000000000 ≤ 2000000000 := by omega
    have c2 : 0 ≤ (p * s + q * r) % 1000000000 ∧ (p * s + q * r) % 1000000000 ≤ 999999999 := by omega
    rw [wr (x := (p * s + q * r) / 1000000000) (by omega), wr (x := (p * s + q * r) % 1000000000 * 1000000000) (by omega), wr (x := q * s + (p * s + q * r) % 1000000000 * 1000000000) (by omega), wr (x := p * r + (p * s + q * r) / 1000000000) (by omega)]
    have hl : 0 ≤ q * s + (p * s + q * r) % 1000000000 * 1000000000 := by omega
    rw [Int.tdiv_eq_ediv_of_nonneg hl, Int.tmod_eq_emod_of_nonneg hl]
    have c3 : 0 ≤ (q * s + (p * s + q * r) % 1000000000 * 1000000000) / 1000000000000000000 ∧ (q * s + (p * s + q * r) % 1000000000 * 1000000000) / 1000000000000000000 ≤ 2 := by omega
    rw [wr (x := (q * s + (p * s + q * r) % 1000000000 * 1000000000) / 1000000000000000000) (by omega), wr (x := p * r + (p * s + q * r) / 1000000000 + (q * s + (p * s + q * r) % 1000000000 * 1000000000) / 1000000000000000000) (by omega)]
    have eH : p * r + (p * s + q * r) / 1000000000 + (q * s + (p * s + q * r) % 1000000000 * 1000000000) / 1000000000000000000 = X * Y / 1000000000000000000 := by omega
    have eL : (q * s + (p * s + q * r) % 1000000000 * 1000000000) % 1000000000000000000 = X * Y % 1000000000000000000 := by omega
    have t0 : 0 ≤ X * Y ∧ X * Y ≤ 1000000000000000000000000000000000000 := mul_nn (by decide) bx by'
    rw [eH, eL]
    clear eH eL e c1 c2 c3 hl hm h1 h2 h3 h4 h5 h6 h7 h8
    generalize X * Y = t at *
    have d1 : 0 ≤ t / 1000000000000000000 ∧ t / 1000000000000000000 ≤ 1000000000000000000 := by omega
    have d2 : 0 ≤ t % 1000000000000000000 ∧ t % 1000000000000000000 < 1000000000000000000 := by omega
    have w1 : IntKind.i64.wrap (0 - t / 1000000000000000000) = -(t / 1000000000000000000) := by rw [wr (by omega)]; omega
    have w2 : IntKind.i64.wrap (-(t / 1000000000000000000) - 1) = -(t / 1000000000000000000) - 1 := wr (by omega)
    have w3 : IntKind.i64.wrap (1000000000000000000 - t % 1000000000000000000) = 1000000000000000000 - t % 1000000000000000000 := wr (by omega)
    simp only [w1, w2, w3]
    have k7 : (decide (0 ≤ t % 1000000000000000000) && (decide (t % 1000000000000000000 < 1000000000000000000) && (decide (-4000000000000000000 ≤ t / 1000000000000000000) && decide (t / 1000000000000000000 ≤ 4000000000000000000)))) = true := by
      simp only [Bool.and_eq_true, decide_eq_true_eq]; omega
    rcases s0 with s0 | s0 <;> rcases s1 with s1 | s1
    · have := hxy.2.2.1 ⟨s0, s1⟩
      simp [s0, s1, this]
    · have hn := hxy.1 ⟨s0, s1⟩
      by_cases z : t % 1000000000000000000 = 0
      · simp [s0, show ¬ a1 < 0 by omega, hn, k7, z]
        omega
      · have k8 : (decide (0 ≤ 1000000000000000000 - t % 1000000000000000000) && (decide (1000000000000000000 - t % 1000000000000000000 < 1000000000000000000) && (decide (-4000000000000000000 ≤ -(t / 1000000000000000000) - 1) && decide (-(t / 1000000000000000000) - 1 ≤ 4000000000000000000)))) = true := by
          simp only [Bool.and_eq_true, decide_eq_true_eq]; omega
        simp [s0, show ¬ a1 < 0 by omega, hn, k7, k8, z]
        omega
    · have hn := hxy.2.1 ⟨s0, s1⟩
      by_cases z : t % 1000000000000000000 = 0
      · simp [s1, show ¬ a0 < 0 by omega, hn, k7, z]
        omega
      · have k8 : (decide (0 ≤ 1000000000000000000 - t % 1000000000000000000) && (decide (1000000000000000000 - t % 1000000000000000000 < 1000000000000000000) && (decide (-4000000000000000000 ≤ -(t / 1000000000000000000) - 1) && decide (-(t / 1000000000000000000) - 1 ≤ 4000000000000000000)))) = true := by
          simp only [Bool.and_eq_true, decide_eq_true_eq]; omega
        simp [s1, show ¬ a0 < 0 by omega, hn, k7, k8, z]
        omega
    · have := hxy.2.2.2 ⟨s0, s1⟩
      simp [show ¬ a0 < 0 by omega, show ¬ a1 < 0 by omega, this]

theorem c_mul (W : World) : Flat Try.prog E W Any 29 [.i, .i] fun l => tupleV (resV E 50 l [.g 2, .i] 0 0) := flat_val (ch4_ok W) k_mul v_mul

noncomputable def ch5 : Cx := ⟨ch4.ty, ch4.fn, [flatCon 29 [.i, .i] [.g 2, .i] 50 noChk] ++ ch4.con, ch4.inl, ch4.eqs⟩
theorem ch5_ok (W : World) : ∀ l, Any l → CxOk Try.prog (E.at l) W ch5 :=
  cx_more (ch4_ok W) (List.forall_mem_cons.2 ⟨flat_con' (c_mul W), (fun _ h => by cases h)⟩)
end Go.Proofs.Ytndnjjeildnhdaa.Sx
