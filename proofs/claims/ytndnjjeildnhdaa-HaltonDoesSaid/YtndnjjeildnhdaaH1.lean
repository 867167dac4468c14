/- Contracts, reckoned. -/
import Derived.Test.YtndnjjeildnhdaaDe
import Derived.KernelRfl
set_option linter.unusedVariables false
set_option linter.unusedSimpArgs false
namespace Go.Proofs.Ytndnjjeildnhdaa.Sx
open Go.RowKit

theorem sqb {x : Int} (h : -65536 ≤ x) (k : x ≤ 65536) : 0 ≤ x * x ∧ x * x ≤ 4294967296 := by
  have h1 : 0 ≤ (65536 - x) * (65536 + x) := Int.mul_nonneg (by omega) (by omega)
  have h2 : (65536 - x) * (65536 + x) = 4294967296 - x * x := by grind
  have h3 : 0 ≤ x * x := by
    by_cases hx : 0 ≤ x
    · exact Int.mul_nonneg hx hx
    · have := Int.mul_nonneg (show 0 ≤ -x by omega) (show 0 ≤ -x by omega); rwa [Int.neg_mul_neg] at this
  omega

def R_hins : AV := (.bool (.ite (.ite (.lt (.ite (.lt (.var 1) (.var 0)) (.var 1) (.var 0)) (.lit 0)) (.blit true) (.lt (.lit 65536) (.ite (.lt (.var 0) (.var 1)) (.var 1) (.var 0)))) (.blit false) (.le (.add (.mul (.sub (.mul (.lit 2) (.var 0)) (.lit 65536)) (.sub (.mul (.lit 2) (.var 0)) (.lit 65536))) (.mul (.sub (.mul (.lit 2) (.var 1)) (.lit 65536)) (.sub (.mul (.lit 2) (.var 1)) (.lit 65536)))) (.lit 4294967296))))
theorem k_hins : acall ch1 20 false 16 [] (argsG [.g 2] 0 0) (heapG [.g 2] 0) = .leaf (R_hins, heapG [.g 2] 0) := by kernel_rfl
set_option maxHeartbeats 4000000 in
set_option maxRecDepth 20000 in
theorem v_hins : ∀ l : List Int, l.length = lenSh [.g 2] → Any l → valOf (E.at l) R_hins = some (tupleV (resV E 71 l [.b] 0 0)) := by
  intro l hl hG
  have h0 : l.length = 2 := hl
  clear hl
  obtain ⟨a0, l1, rfl, h1⟩ := cut1 h0
  clear h0
  obtain ⟨a1, l2, rfl, h2⟩ := cut1 h1
  clear h1
  obtain rfl := cut0 h2
  clear h2
  simp only [R_hins, valOf, vals1, valInts, val1, tupleV, resV, valsI, den, bt1, bt2, bt3, bt4, Env.at, E, fb, fi, List.getD_cons_zero, List.getD_cons_succ, List.all_cons, List.all_nil, Bool.and_true, Bool.and_assoc, Option.map_some, List.all_append, hins]
  by_cases g : 0 ≤ a0 ∧ a0 ≤ 65536 ∧ 0 ≤ a1 ∧ a1 ≤ 65536
  · obtain ⟨g0, g1, g2, g3⟩ := g
    have w0 : IntKind.i64.wrap (2 * a0) = 2 * a0 := wr (by omega)
    have w1 : IntKind.i64.wrap (2 * a1) = 2 * a1 := wr (by omega)
    have w2 : IntKind.i64.wrap (2 * a0 - 65536) = 2 * a0 - 65536 := wr (by omega)
    have w3 : IntKind.i64.wrap (2 * a1 - 65536) = 2 * a1 - 65536 := wr (by omega)
    have s0 := sqb (x := 2 * a0 - 65536) (by omega) (by omega)
    have s1 := sqb (x := 2 * a1 - 65536) (by omega) (by omega)
    simp only [w0, w1, w2, w3]
    generalize (2 * a0 - 65536) * (2 * a0 - 65536) = p at *
    generalize (2 * a1 - 65536) * (2 * a1 - 65536) = q at *
    have w4 : IntKind.i64.wrap p = p := wr (by omega)
    have w5 : IntKind.i64.wrap q = q := wr (by omega)
    have w6 : IntKind.i64.wrap (p + q) = p + q := wr (by omega)
    simp only [w4, w5, w6]
    have d0 : decide (0 ≤ a0) = true := by simp; omega
    have d1 : decide (a0 ≤ 65536) = true := by simp; omega
    have d2 : decide (0 ≤ a1) = true := by simp; omega
    have d3 : decide (a1 ≤ 65536) = true := by simp; omega
    have f0 : decide (a0 < 0) = false := by simp; omega
    have f1 : decide (65536 < a0) = false := by simp; omega
    have f2 : decide (a1 < 0) = false := by simp; omega
    have f3 : decide (65536 < a1) = false := by simp; omega
    by_cases c1 : a1 < a0 <;> by_cases c2 : a0 < a1 <;> simp [c1, c2, d0, d1, d2, d3, f0, f1, f2, f3]
  · have hd : (decide (0 ≤ a0) && (decide (a0 ≤ 65536) && (decide (0 ≤ a1) && decide (a1 ≤ 65536)))) = false := by
      simp only [← Bool.not_eq_true, Bool.and_eq_true, decide_eq_true_eq]; omega
    have hd2 : ∀ X : Bool, (decide (0 ≤ a0) && (decide (a0 ≤ 65536) && (decide (0 ≤ a1) && (decide (a1 ≤ 65536) && X)))) = false := fun X => by
      have := congrArg (· && X) hd
      simpa only [Bool.and_assoc, Bool.false_and] using this
    simp only [hd2, hd, Bool.false_and]
    clear hd hd2
    by_cases c1 : a1 < a0 <;> by_cases c2 : a0 < a1 <;> simp [c1, c2] <;> intros <;> omega

theorem c_hins (W : World) : Flat Try.prog E W Any 16 [.g 2] fun l => tupleV (resV E 71 l [.b] 0 0) := flat_val (ch1_ok W) k_hins v_hins

def R_rhins : AV := (.bool (.ite (.ite (.lt (.var 0) (.lit 0)) (.blit true) (.ite (.lt (.lit 65536) (.var 0)) (.blit true) (.ite (.lt (.var 1) (.lit 0)) (.blit true) (.lt (.lit 65536) (.var 1))))) (.blit false) (.le (.add (.mul (.sub (.mul (.lit 2) (.var 0)) (.lit 65536)) (.sub (.mul (.lit 2) (.var 0)) (.lit 65536))) (.mul (.sub (.mul (.lit 2) (.var 1)) (.lit 65536)) (.sub (.mul (.lit 2) (.var 1)) (.lit 65536)))) (.lit 4294967296))))
theorem k_rhins : acall ch1 20 false 17 [] (argsG [.g 2] 0 0) (heapG [.g 2] 0) = .leaf (R_rhins, heapG [.g 2] 0) := by kernel_rfl
set_option maxHeartbeats 4000000 in
set_option maxRecDepth 20000 in
theorem v_rhins : ∀ l : List Int, l.length = lenSh [.g 2] → Any l → valOf (E.at l) R_rhins = some (tupleV (resV E 71 l [.b] 0 0)) := by
  intro l hl hG
  have h0 : l.length = 2 := hl
  clear hl
  obtain ⟨a0, l1, rfl, h1⟩ := cut1 h0
  clear h0
  obtain ⟨a1, l2, rfl, h2⟩ := cut1 h1
  clear h1
  obtain rfl := cut0 h2
  clear h2
  simp only [R_rhins, valOf, vals1, valInts, val1, tupleV, resV, valsI, den, bt1, bt2, bt3, bt4, Env.at, E, fb, fi, List.getD_cons_zero, List.getD_cons_succ, List.all_cons, List.all_nil, Bool.and_true, Bool.and_assoc, Option.map_some, List.all_append, hins]
  by_cases g : 0 ≤ a0 ∧ a0 ≤ 65536 ∧ 0 ≤ a1 ∧ a1 ≤ 65536
  · obtain ⟨g0, g1, g2, g3⟩ := g
    have w0 : IntKind.i64.wrap (2 * a0) = 2 * a0 := wr (by omega)
    have w1 : IntKind.i64.wrap (2 * a1) = 2 * a1 := wr (by omega)
    have w2 : IntKind.i64.wrap (2 * a0 - 65536) = 2 * a0 - 65536 := wr (by omega)
    have w3 : IntKind.i64.wrap (2 * a1 - 65536) = 2 * a1 - 65536 := wr (by omega)
    have s0 := sqb (x := 2 * a0 - 65536) (by omega) (by omega)
    have s1 := sqb (x := 2 * a1 - 65536) (by omega) (by omega)
    simp only [w0, w1, w2, w3]
    generalize (2 * a0 - 65536) * (2 * a0 - 65536) = p at *
    generalize (2 * a1 - 65536) * (2 * a1 - 65536) = q at *
    have w4 : IntKind.i64.wrap p = p := wr (by omega)
    have w5 : IntKind.i64.wrap q = q := wr (by omega)
    have w6 : IntKind.i64.wrap (p + q) = p + q := wr (by omega)
    simp only [w4, w5, w6]
    have d0 : decide (0 ≤ a0) = true := by simp; omega
    have d1 : decide (a0 ≤ 65536) = true := by simp; omega
    have d2 : decide (0 ≤ a1) = true := by simp; omega
    have d3 : decide (a1 ≤ 65536) = true := by simp; omega
    have f0 : decide (a0 < 0) = false := by simp; omega
    have f1 : decide (65536 < a0) = false := by simp; omega
    have f2 : decide (a1 < 0) = false := by simp; omega
    have f3 : decide (65536 < a1) = false := by simp; omega
    by_cases c1 : a1 < a0 <;> by_cases c2 : a0 < a1 <;> simp [c1, c2, d0, d1, d2, d3, f0, f1, f2, f3]
  · have hd : (decide (0 ≤ a0) && (decide (a0 ≤ 65536) && (decide (0 ≤ a1) && decide (a1 ≤ 65536)))) = false := by
      simp only [← Bool.not_eq_true, Bool.and_eq_true, decide_eq_true_eq]; omega
    have hd2 : ∀ X : Bool, (decide (0 ≤ a0) && (decide (a0 ≤ 65536) && (decide (0 ≤ a1) && (decide (a1 ≤ 65536) && X)))) = false := fun X => by
      have := congrArg (· && X) hd
      simpa only [Bool.and_assoc, Bool.false_and] using this
    simp only [hd2, hd, Bool.false_and]
    clear hd hd2
    (simp; intros; omega)

theorem c_rhins (W : World) : Flat Try.prog E W Any 17 [.g 2] fun l => tupleV (resV E 71 l [.b] 0 0) := flat_val (ch1_ok W) k_rhins v_rhins

noncomputable def ch2 : Cx := ⟨ch1.ty, ch1.fn, [flatCon 16 [.g 2] [.b] 71 noChk, flatCon 17 [.g 2] [.b] 71 noChk] ++ ch1.con, ch1.inl, ch1.eqs⟩
theorem ch2_ok (W : World) : ∀ l, Any l → CxOk Try.prog (E.at l) W ch2 :=
  cx_more (ch1_ok W) (List.forall_mem_cons.2 ⟨flat_con' (c_hins W), List.forall_mem_cons.2 ⟨flat_con' (c_rhins W), (fun _ h => by cases h)⟩⟩)
end Go.Proofs.Ytndnjjeildnhdaa.Sx
