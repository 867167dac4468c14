/- Contracts, reckoned. -/
import Derived.Test.YtdkeiopcdajkpaaWc
import Derived.Test.YtdkeiopcdajkpaaFp
import Derived.KernelRfl
set_option linter.unusedVariables false
set_option linter.unusedSimpArgs false
namespace Go.Proofs.Ytdkeiopcdajkpaa.Sx
open Go.RowKit

theorem minI (x y : Int) : (if decide (y < x) = true then y else x) = min x y := by simp only [decide_eq_true_eq]; omega
theorem maxI (x y : Int) : (if decide (x < y) = true then y else x) = max x y := by simp only [decide_eq_true_eq]; omega
theorem lf6 (a b : Int) (q : Bool) : (decide (-2048 ≤ a) && (decide (a ≤ 2048) && q)) = (lf a && q) := by rw [← Bool.and_assoc]; rfl
theorem fit6 (a b c d e f : Int) : (decide (min (min (min (min (min a b) c) d) e) f < -2048) || decide (2048 < max (max (max (max (max a b) c) d) e) f)) = !(lf a && (lf b && (lf c && (lf d && (lf e && lf f))))) := by
  rw [Bool.eq_iff_iff]; simp only [lf, Bool.or_eq_true, Bool.not_eq_true', Bool.and_eq_false_imp, Bool.and_eq_true, decide_eq_true_eq, decide_eq_false_iff_not]; omega
theorem dlt (a b : Int) : decide (a < b) = !decide (b ≤ a) := by rw [Bool.eq_iff_iff]; simp
theorem lamw (m : Int) (h : -12582912 ≤ m ∧ m ≤ 12582912) : IntKind.i64.wrap ((max m 0).tdiv 1024) = (max m 0).tdiv 1024 := by
  rw [Int.tdiv_eq_ediv_of_nonneg (by omega)]; exact wr (by omega)
theorem fitr (a b c d e f : Int) : (!decide (-2048 ≤ a) || (!decide (a ≤ 2048) || (!decide (-2048 ≤ b) || (!decide (b ≤ 2048) || (!decide (-2048 ≤ c) || !decide (c ≤ 2048))))) || (!decide (-2048 ≤ d) || (!decide (d ≤ 2048) || (!decide (-2048 ≤ e) || (!decide (e ≤ 2048) || (!decide (-2048 ≤ f) || !decide (f ≤ 2048))))))) = !(lf a && (lf b && (lf c && (lf d && (lf e && lf f))))) := by
  simp only [lf, Bool.not_and, Bool.or_assoc]
theorem lf_bd {x : Int} (h : lf x = true) : -2048 ≤ x ∧ x ≤ 2048 := by simpa [lf] using h
theorem lf_nr {x : Int} (h : lf x = true) : nr x = true := by have := lf_bd h; simp [nr]; omega
theorem lf_m {x y : Int} (h : lf x = true) (k : lf y = true) : -4194304 ≤ x * y ∧ x * y ≤ 4194304 := mul_bd (M := 2048) (N := 2048) _ (by decide) (lf_bd h) (lf_bd k)
theorem zero3 (a b c : Int) : ((a * a + b * b + c * c : Int) == 0) = (a == 0 && (b == 0 && c == 0)) := by
  rw [Bool.eq_iff_iff]
  simp only [beq_iff_eq, Bool.and_eq_true]
  constructor
  · intro h
    have ha := sq_pos (x := a); have hb := sq_pos (x := b); have hc := sq_pos (x := c)
    have na := (Int.le_total 0 a).elim (fun h => Int.mul_nonneg h h) (fun h => Int.mul_nonneg_of_nonpos_of_nonpos h h)
    have nb := (Int.le_total 0 b).elim (fun h => Int.mul_nonneg h h) (fun h => Int.mul_nonneg_of_nonpos_of_nonpos h h)
    have nc := (Int.le_total 0 c).elim (fun h => Int.mul_nonneg h h) (fun h => Int.mul_nonneg_of_nonpos_of_nonpos h h)
    refine ⟨?_, ?_, ?_⟩ <;> (apply Classical.byContradiction; intro hh)
    · have := ha hh; omega
    · have := hb hh; omega
    · have := hc hh; omega
  · rintro ⟨rfl, rfl, rfl⟩; rfl

def R_unit : AV := (.tuple [(.agg [(.int (.ite (.eq (.app 7 1 (.cons (.var 0) (.cons (.var 1) (.cons (.var 2) (.cons (.var 0) (.cons (.var 1) (.cons (.var 2) .nil))))))) (.lit 0)) (.ite (.eq (.app 7 0 (.cons (.var 0) (.cons (.var 1) (.cons (.var 2) (.cons (.var 0) (.cons (.var 1) (.cons (.var 2) .nil))))))) (.lit 0)) (.lit 0) (.app 30 0 (.cons (.mul (.lit 1048576) (.var 0)) (.cons (.app 31 0 (.cons (.mul (.lit 1048576) (.app 7 0 (.cons (.var 0) (.cons (.var 1) (.cons (.var 2) (.cons (.var 0) (.cons (.var 1) (.cons (.var 2) .nil)))))))) .nil)) .nil)))) (.lit 0))), (.int (.ite (.eq (.app 7 1 (.cons (.var 0) (.cons (.var 1) (.cons (.var 2) (.cons (.var 0) (.cons (.var 1) (.cons (.var 2) .nil))))))) (.lit 0)) (.ite (.eq (.app 7 0 (.cons (.var 0) (.cons (.var 1) (.cons (.var 2) (.cons (.var 0) (.cons (.var 1) (.cons (.var 2) .nil))))))) (.lit 0)) (.lit 0) (.app 30 0 (.cons (.mul (.lit 1048576) (.var 1)) (.cons (.app 31 0 (.cons (.mul (.lit 1048576) (.app 7 0 (.cons (.var 0) (.cons (.var 1) (.cons (.var 2) (.cons (.var 0) (.cons (.var 1) (.cons (.var 2) .nil)))))))) .nil)) .nil)))) (.lit 0))), (.int (.ite (.eq (.app 7 1 (.cons (.var 0) (.cons (.var 1) (.cons (.var 2) (.cons (.var 0) (.cons (.var 1) (.cons (.var 2) .nil))))))) (.lit 0)) (.ite (.eq (.app 7 0 (.cons (.var 0) (.cons (.var 1) (.cons (.var 2) (.cons (.var 0) (.cons (.var 1) (.cons (.var 2) .nil))))))) (.lit 0)) (.lit 0) (.app 30 0 (.cons (.mul (.lit 1048576) (.var 2)) (.cons (.app 31 0 (.cons (.mul (.lit 1048576) (.app 7 0 (.cons (.var 0) (.cons (.var 1) (.cons (.var 2) (.cons (.var 0) (.cons (.var 1) (.cons (.var 2) .nil)))))))) .nil)) .nil)))) (.lit 0)))]), (.int (.ite (.eq (.app 7 1 (.cons (.var 0) (.cons (.var 1) (.cons (.var 2) (.cons (.var 0) (.cons (.var 1) (.cons (.var 2) .nil))))))) (.lit 0)) (.ite (.eq (.app 7 0 (.cons (.var 0) (.cons (.var 1) (.cons (.var 2) (.cons (.var 0) (.cons (.var 1) (.cons (.var 2) .nil))))))) (.lit 0)) (.lit 3) (.app 31 1 (.cons (.mul (.lit 1048576) (.app 7 0 (.cons (.var 0) (.cons (.var 1) (.cons (.var 2) (.cons (.var 0) (.cons (.var 1) (.cons (.var 2) .nil)))))))) .nil))) (.app 7 1 (.cons (.var 0) (.cons (.var 1) (.cons (.var 2) (.cons (.var 0) (.cons (.var 1) (.cons (.var 2) .nil)))))))))])
theorem k_unit : acall cx6 20 false 13 [] (argsG [.g 3] 0 0) (heapG [.g 3] 0) = .leaf (R_unit, heapG [.g 3] 0) := by kernel_rfl
set_option maxHeartbeats 4000000 in
set_option maxRecDepth 20000 in
theorem v_unit : ∀ l : List Int, l.length = lenSh [.g 3] → AllI l → valOf (E.at l) R_unit = some (tupleV (resV E 40 l [.g 3, .i] 0 0)) := by
  intro l hl hG
  have h0 : l.length = 3 := hl
  clear hl
  obtain ⟨a0, l1, rfl, h1⟩ := cut1 h0
  clear h0
  obtain ⟨a1, l2, rfl, h2⟩ := cut1 h1
  clear h1
  obtain ⟨a2, l3, rfl, h3⟩ := cut1 h2
  clear h2
  obtain rfl := cut0 h3
  clear h3
  simp only [R_unit, valOf, vals1, valInts, val1, tupleV, resV, valsI, den, bt1, bt2, bt3, bt4, Env.at, E, fb, fi, List.getD_cons_zero, List.getD_cons_succ, List.all_cons, List.all_nil, Bool.and_true, nr', us', ss', nr2, us2, ss2, nr3, us3, ss3, Bool.and_assoc, Option.map_some, List.all_append, cmps, Wh.fe, uv, ue, uq, n2, z3, Bool.true_and]
  cases h0 : nr a0
  · simp
  cases h1 : nr a1
  · simp
  cases h2 : nr a2
  · simp
  have s0 := sq_bd1 (nr_bd h0); have s1 := sq_bd1 (nr_bd h1); have s2 := sq_bd1 (nr_bd h2)
  have b0 := nr_bd h0; have b1 := nr_bd h1; have b2 := nr_bd h2
  have e := zero3 a0 a1 a2
  cases hz : (a0 == 0 && (a1 == 0 && a2 == 0))
  · rw [hz] at e
    have g1 : ¬ 1048576 * (a0 * a0 + a1 * a1 + a2 * a2) < 0 := by omega
    have g2 : ¬ 9223372036854775807 < 1048576 * (a0 * a0 + a1 * a1 + a2 * a2) := by omega
    simp (disch := omega) [e, wr, g1, g2]
  · rw [hz] at e
    simp [e]

theorem c_unit (W : World) : Flat Try.prog E W AllI 13 [.g 3] fun l => tupleV (resV E 40 l [.g 3, .i] 0 0) := flat_val (cx6_ok W) k_unit v_unit

def R_runit : AV := (.tuple [(.agg [(.int (.ite (.eq (.app 7 1 (.cons (.var 0) (.cons (.var 1) (.cons (.var 2) (.cons (.var 0) (.cons (.var 1) (.cons (.var 2) .nil))))))) (.lit 0)) (.ite (.ite (.eq (.var 0) (.lit 0)) (.ite (.eq (.var 1) (.lit 0)) (.eq (.var 2) (.lit 0)) (.blit false)) (.blit false)) (.lit 0) (.app 30 0 (.cons (.mul (.lit 1048576) (.var 0)) (.cons (.app 31 0 (.cons (.mul (.lit 1048576) (.app 7 0 (.cons (.var 0) (.cons (.var 1) (.cons (.var 2) (.cons (.var 0) (.cons (.var 1) (.cons (.var 2) .nil)))))))) .nil)) .nil)))) (.lit 0))), (.int (.ite (.eq (.app 7 1 (.cons (.var 0) (.cons (.var 1) (.cons (.var 2) (.cons (.var 0) (.cons (.var 1) (.cons (.var 2) .nil))))))) (.lit 0)) (.ite (.ite (.eq (.var 0) (.lit 0)) (.ite (.eq (.var 1) (.lit 0)) (.eq (.var 2) (.lit 0)) (.blit false)) (.blit false)) (.lit 0) (.app 30 0 (.cons (.mul (.lit 1048576) (.var 1)) (.cons (.app 31 0 (.cons (.mul (.lit 1048576) (.app 7 0 (.cons (.var 0) (.cons (.var 1) (.cons (.var 2) (.cons (.var 0) (.cons (.var 1) (.cons (.var 2) .nil)))))))) .nil)) .nil)))) (.lit 0))), (.int (.ite (.eq (.app 7 1 (.cons (.var 0) (.cons (.var 1) (.cons (.var 2) (.cons (.var 0) (.cons (.var 1) (.cons (.var 2) .nil))))))) (.lit 0)) (.ite (.ite (.eq (.var 0) (.lit 0)) (.ite (.eq (.var 1) (.lit 0)) (.eq (.var 2) (.lit 0)) (.blit false)) (.blit false)) (.lit 0) (.app 30 0 (.cons (.mul (.lit 1048576) (.var 2)) (.cons (.app 31 0 (.cons (.mul (.lit 1048576) (.app 7 0 (.cons (.var 0) (.cons (.var 1) (.cons (.var 2) (.cons (.var 0) (.cons (.var 1) (.cons (.var 2) .nil)))))))) .nil)) .nil)))) (.lit 0)))]), (.int (.ite (.eq (.app 7 1 (.cons (.var 0) (.cons (.var 1) (.cons (.var 2) (.cons (.var 0) (.cons (.var 1) (.cons (.var 2) .nil))))))) (.lit 0)) (.ite (.ite (.eq (.var 0) (.lit 0)) (.ite (.eq (.var 1) (.lit 0)) (.eq (.var 2) (.lit 0)) (.blit false)) (.blit false)) (.lit 3) (.lit 0)) (.lit 5)))])
theorem k_runit : acall cx6 20 false 14 [] (argsG [.g 3] 0 0) (heapG [.g 3] 0) = .leaf (R_runit, heapG [.g 3] 0) := by kernel_rfl
set_option maxHeartbeats 4000000 in
set_option maxRecDepth 20000 in
theorem v_runit : ∀ l : List Int, l.length = lenSh [.g 3] → AllI l → valOf (E.at l) R_runit = some (tupleV (resV E 40 l [.g 3, .i] 0 0)) := by
  intro l hl hG
  have h0 : l.length = 3 := hl
  clear hl
  obtain ⟨a0, l1, rfl, h1⟩ := cut1 h0
  clear h0
  obtain ⟨a1, l2, rfl, h2⟩ := cut1 h1
  clear h1
  obtain ⟨a2, l3, rfl, h3⟩ := cut1 h2
  clear h2
  obtain rfl := cut0 h3
  clear h3
  simp only [R_runit, valOf, vals1, valInts, val1, tupleV, resV, valsI, den, bt1, bt2, bt3, bt4, Env.at, E, fb, fi, List.getD_cons_zero, List.getD_cons_succ, List.all_cons, List.all_nil, Bool.and_true, nr', us', ss', nr2, us2, ss2, nr3, us3, ss3, Bool.and_assoc, Option.map_some, List.all_append, cmps, Wh.fe, uv, ue, uq, n2, z3, Bool.true_and]
  cases h0 : nr a0
  · simp
  cases h1 : nr a1
  · simp
  cases h2 : nr a2
  · simp
  have s0 := sq_bd1 (nr_bd h0); have s1 := sq_bd1 (nr_bd h1); have s2 := sq_bd1 (nr_bd h2)
  have b0 := nr_bd h0; have b1 := nr_bd h1; have b2 := nr_bd h2
  have e := zero3 a0 a1 a2
  cases hz : (a0 == 0 && (a1 == 0 && a2 == 0))
  · rw [hz] at e
    have g1 : ¬ 1048576 * (a0 * a0 + a1 * a1 + a2 * a2) < 0 := by omega
    have g2 : ¬ 9223372036854775807 < 1048576 * (a0 * a0 + a1 * a1 + a2 * a2) := by omega
    simp (disch := omega) [e, wr, g1, g2]
  · rw [hz] at e
    simp [e]

theorem c_runit (W : World) : Flat Try.prog E W AllI 14 [.g 3] fun l => tupleV (resV E 40 l [.g 3, .i] 0 0) := flat_val (cx6_ok W) k_runit v_runit

def R_lambert : AV := (.tuple [(.int (.ite (.ite (.lt (.ite (.lt (.var 5) (.ite (.lt (.var 4) (.ite (.lt (.var 3) (.ite (.lt (.var 2) (.ite (.lt (.var 1) (.var 0)) (.var 1) (.var 0))) (.var 2) (.ite (.lt (.var 1) (.var 0)) (.var 1) (.var 0)))) (.var 3) (.ite (.lt (.var 2) (.ite (.lt (.var 1) (.var 0)) (.var 1) (.var 0))) (.var 2) (.ite (.lt (.var 1) (.var 0)) (.var 1) (.var 0))))) (.var 4) (.ite (.lt (.var 3) (.ite (.lt (.var 2) (.ite (.lt (.var 1) (.var 0)) (.var 1) (.var 0))) (.var 2) (.ite (.lt (.var 1) (.var 0)) (.var 1) (.var 0)))) (.var 3) (.ite (.lt (.var 2) (.ite (.lt (.var 1) (.var 0)) (.var 1) (.var 0))) (.var 2) (.ite (.lt (.var 1) (.var 0)) (.var 1) (.var 0)))))) (.var 5) (.ite (.lt (.var 4) (.ite (.lt (.var 3) (.ite (.lt (.var 2) (.ite (.lt (.var 1) (.var 0)) (.var 1) (.var 0))) (.var 2) (.ite (.lt (.var 1) (.var 0)) (.var 1) (.var 0)))) (.var 3) (.ite (.lt (.var 2) (.ite (.lt (.var 1) (.var 0)) (.var 1) (.var 0))) (.var 2) (.ite (.lt (.var 1) (.var 0)) (.var 1) (.var 0))))) (.var 4) (.ite (.lt (.var 3) (.ite (.lt (.var 2) (.ite (.lt (.var 1) (.var 0)) (.var 1) (.var 0))) (.var 2) (.ite (.lt (.var 1) (.var 0)) (.var 1) (.var 0)))) (.var 3) (.ite (.lt (.var 2) (.ite (.lt (.var 1) (.var 0)) (.var 1) (.var 0))) (.var 2) (.ite (.lt (.var 1) (.var 0)) (.var 1) (.var 0)))))) (.lit (-2048))) (.blit true) (.lt (.lit 2048) (.ite (.lt (.ite (.lt (.ite (.lt (.ite (.lt (.ite (.lt (.var 0) (.var 1)) (.var 1) (.var 0)) (.var 2)) (.var 2) (.ite (.lt (.var 0) (.var 1)) (.var 1) (.var 0))) (.var 3)) (.var 3) (.ite (.lt (.ite (.lt (.var 0) (.var 1)) (.var 1) (.var 0)) (.var 2)) (.var 2) (.ite (.lt (.var 0) (.var 1)) (.var 1) (.var 0)))) (.var 4)) (.var 4) (.ite (.lt (.ite (.lt (.ite (.lt (.var 0) (.var 1)) (.var 1) (.var 0)) (.var 2)) (.var 2) (.ite (.lt (.var 0) (.var 1)) (.var 1) (.var 0))) (.var 3)) (.var 3) (.ite (.lt (.ite (.lt (.var 0) (.var 1)) (.var 1) (.var 0)) (.var 2)) (.var 2) (.ite (.lt (.var 0) (.var 1)) (.var 1) (.var 0))))) (.var 5)) (.var 5) (.ite (.lt (.ite (.lt (.ite (.lt (.ite (.lt (.var 0) (.var 1)) (.var 1) (.var 0)) (.var 2)) (.var 2) (.ite (.lt (.var 0) (.var 1)) (.var 1) (.var 0))) (.var 3)) (.var 3) (.ite (.lt (.ite (.lt (.var 0) (.var 1)) (.var 1) (.var 0)) (.var 2)) (.var 2) (.ite (.lt (.var 0) (.var 1)) (.var 1) (.var 0)))) (.var 4)) (.var 4) (.ite (.lt (.ite (.lt (.ite (.lt (.var 0) (.var 1)) (.var 1) (.var 0)) (.var 2)) (.var 2) (.ite (.lt (.var 0) (.var 1)) (.var 1) (.var 0))) (.var 3)) (.var 3) (.ite (.lt (.ite (.lt (.var 0) (.var 1)) (.var 1) (.var 0)) (.var 2)) (.var 2) (.ite (.lt (.var 0) (.var 1)) (.var 1) (.var 0)))))))) (.lit 0) (.ite (.lt (.lit 1024) (.quo (.ite (.lt (.app 7 0 (.cons (.var 0) (.cons (.var 1) (.cons (.var 2) (.cons (.var 3) (.cons (.var 4) (.cons (.var 5) .nil))))))) (.lit 0)) (.lit 0) (.app 7 0 (.cons (.var 0) (.cons (.var 1) (.cons (.var 2) (.cons (.var 3) (.cons (.var 4) (.cons (.var 5) .nil)))))))) (.lit 1024))) (.lit 1024) (.quo (.ite (.lt (.app 7 0 (.cons (.var 0) (.cons (.var 1) (.cons (.var 2) (.cons (.var 3) (.cons (.var 4) (.cons (.var 5) .nil))))))) (.lit 0)) (.lit 0) (.app 7 0 (.cons (.var 0) (.cons (.var 1) (.cons (.var 2) (.cons (.var 3) (.cons (.var 4) (.cons (.var 5) .nil)))))))) (.lit 1024))))), (.int (.ite (.ite (.lt (.ite (.lt (.var 5) (.ite (.lt (.var 4) (.ite (.lt (.var 3) (.ite (.lt (.var 2) (.ite (.lt (.var 1) (.var 0)) (.var 1) (.var 0))) (.var 2) (.ite (.lt (.var 1) (.var 0)) (.var 1) (.var 0)))) (.var 3) (.ite (.lt (.var 2) (.ite (.lt (.var 1) (.var 0)) (.var 1) (.var 0))) (.var 2) (.ite (.lt (.var 1) (.var 0)) (.var 1) (.var 0))))) (.var 4) (.ite (.lt (.var 3) (.ite (.lt (.var 2) (.ite (.lt (.var 1) (.var 0)) (.var 1) (.var 0))) (.var 2) (.ite (.lt (.var 1) (.var 0)) (.var 1) (.var 0)))) (.var 3) (.ite (.lt (.var 2) (.ite (.lt (.var 1) (.var 0)) (.var 1) (.var 0))) (.var 2) (.ite (.lt (.var 1) (.var 0)) (.var 1) (.var 0)))))) (.var 5) (.ite (.lt (.var 4) (.ite (.lt (.var 3) (.ite (.lt (.var 2) (.ite (.lt (.var 1) (.var 0)) (.var 1) (.var 0))) (.var 2) (.ite (.lt (.var 1) (.var 0)) (.var 1) (.var 0)))) (.var 3) (.ite (.lt (.var 2) (.ite (.lt (.var 1) (.var 0)) (.var 1) (.var 0))) (.var 2) (.ite (.lt (.var 1) (.var 0)) (.var 1) (.var 0))))) (.var 4) (.ite (.lt (.var 3) (.ite (.lt (.var 2) (.ite (.lt (.var 1) (.var 0)) (.var 1) (.var 0))) (.var 2) (.ite (.lt (.var 1) (.var 0)) (.var 1) (.var 0)))) (.var 3) (.ite (.lt (.var 2) (.ite (.lt (.var 1) (.var 0)) (.var 1) (.var 0))) (.var 2) (.ite (.lt (.var 1) (.var 0)) (.var 1) (.var 0)))))) (.lit (-2048))) (.blit true) (.lt (.lit 2048) (.ite (.lt (.ite (.lt (.ite (.lt (.ite (.lt (.ite (.lt (.var 0) (.var 1)) (.var 1) (.var 0)) (.var 2)) (.var 2) (.ite (.lt (.var 0) (.var 1)) (.var 1) (.var 0))) (.var 3)) (.var 3) (.ite (.lt (.ite (.lt (.var 0) (.var 1)) (.var 1) (.var 0)) (.var 2)) (.var 2) (.ite (.lt (.var 0) (.var 1)) (.var 1) (.var 0)))) (.var 4)) (.var 4) (.ite (.lt (.ite (.lt (.ite (.lt (.var 0) (.var 1)) (.var 1) (.var 0)) (.var 2)) (.var 2) (.ite (.lt (.var 0) (.var 1)) (.var 1) (.var 0))) (.var 3)) (.var 3) (.ite (.lt (.ite (.lt (.var 0) (.var 1)) (.var 1) (.var 0)) (.var 2)) (.var 2) (.ite (.lt (.var 0) (.var 1)) (.var 1) (.var 0))))) (.var 5)) (.var 5) (.ite (.lt (.ite (.lt (.ite (.lt (.ite (.lt (.var 0) (.var 1)) (.var 1) (.var 0)) (.var 2)) (.var 2) (.ite (.lt (.var 0) (.var 1)) (.var 1) (.var 0))) (.var 3)) (.var 3) (.ite (.lt (.ite (.lt (.var 0) (.var 1)) (.var 1) (.var 0)) (.var 2)) (.var 2) (.ite (.lt (.var 0) (.var 1)) (.var 1) (.var 0)))) (.var 4)) (.var 4) (.ite (.lt (.ite (.lt (.ite (.lt (.var 0) (.var 1)) (.var 1) (.var 0)) (.var 2)) (.var 2) (.ite (.lt (.var 0) (.var 1)) (.var 1) (.var 0))) (.var 3)) (.var 3) (.ite (.lt (.ite (.lt (.var 0) (.var 1)) (.var 1) (.var 0)) (.var 2)) (.var 2) (.ite (.lt (.var 0) (.var 1)) (.var 1) (.var 0)))))))) (.lit 5) (.app 7 1 (.cons (.var 0) (.cons (.var 1) (.cons (.var 2) (.cons (.var 3) (.cons (.var 4) (.cons (.var 5) .nil)))))))))])
theorem k_lambert : acall cx6 20 false 19 [] (argsG [.g 3, .g 3] 0 0) (heapG [.g 3, .g 3] 0) = .leaf (R_lambert, heapG [.g 3, .g 3] 0) := by kernel_rfl
set_option maxHeartbeats 4000000 in
set_option maxRecDepth 20000 in
theorem v_lambert : ∀ l : List Int, l.length = lenSh [.g 3, .g 3] → AllI l → valOf (E.at l) R_lambert = some (tupleV (resV E 43 l [.i, .i] 0 0)) := by
  intro l hl hG
  have h0 : l.length = 6 := hl
  clear hl
  obtain ⟨a0, l1, rfl, h1⟩ := cut1 h0
  clear h0
  obtain ⟨a1, l2, rfl, h2⟩ := cut1 h1
  clear h1
  obtain ⟨a2, l3, rfl, h3⟩ := cut1 h2
  clear h2
  obtain ⟨a3, l4, rfl, h4⟩ := cut1 h3
  clear h3
  obtain ⟨a4, l5, rfl, h5⟩ := cut1 h4
  clear h4
  obtain ⟨a5, l6, rfl, h6⟩ := cut1 h5
  clear h5
  obtain rfl := cut0 h6
  clear h6
  simp only [R_lambert, valOf, vals1, valInts, val1, tupleV, resV, valsI, den, bt1, bt2, bt3, bt4, Env.at, E, fb, fi, List.getD_cons_zero, List.getD_cons_succ, List.all_cons, List.all_nil, Bool.and_true, nr', us', ss', nr2, us2, ss2, nr3, us3, ss3, Bool.and_assoc, Option.map_some, List.all_append, cmps, Wh.fe, lam, minI, maxI, fit6, lf6]
  cases hc : (lf a0 && (lf a1 && (lf a2 && (lf a3 && (lf a4 && lf a5)))))
  · simp
  simp only [Bool.and_eq_true] at hc
  obtain ⟨h0, h1, h2, h3, h4, h5⟩ := hc
  have g0 := lf_nr h0; have g1 := lf_nr h1; have g2 := lf_nr h2; have g3 := lf_nr h3; have g4 := lf_nr h4; have g5 := lf_nr h5
  have m0 := lf_m h0 h3; have m1 := lf_m h1 h4; have m2 := lf_m h2 h5
  simp [g0, g1, g2, g3, g4, g5]
  rw [lamw _ (by omega)]

theorem c_lambert (W : World) : Flat Try.prog E W AllI 19 [.g 3, .g 3] fun l => tupleV (resV E 43 l [.i, .i] 0 0) := flat_val (cx6_ok W) k_lambert v_lambert

def R_rlambert : AV := (.tuple [(.int (.ite (.ite (.ite (.le (.lit (-2048)) (.var 0)) (.ite (.le (.var 0) (.lit 2048)) (.ite (.le (.lit (-2048)) (.var 1)) (.ite (.le (.var 1) (.lit 2048)) (.ite (.le (.lit (-2048)) (.var 2)) (.le (.var 2) (.lit 2048)) (.blit false)) (.blit false)) (.blit false)) (.blit false)) (.blit false)) (.no (.ite (.le (.lit (-2048)) (.var 3)) (.ite (.le (.var 3) (.lit 2048)) (.ite (.le (.lit (-2048)) (.var 4)) (.ite (.le (.var 4) (.lit 2048)) (.ite (.le (.lit (-2048)) (.var 5)) (.le (.var 5) (.lit 2048)) (.blit false)) (.blit false)) (.blit false)) (.blit false)) (.blit false))) (.blit true)) (.lit 0) (.ite (.lt (.lit 1024) (.quo (.ite (.lt (.app 7 0 (.cons (.var 0) (.cons (.var 1) (.cons (.var 2) (.cons (.var 3) (.cons (.var 4) (.cons (.var 5) .nil))))))) (.lit 0)) (.lit 0) (.app 7 0 (.cons (.var 0) (.cons (.var 1) (.cons (.var 2) (.cons (.var 3) (.cons (.var 4) (.cons (.var 5) .nil)))))))) (.lit 1024))) (.lit 1024) (.quo (.ite (.lt (.app 7 0 (.cons (.var 0) (.cons (.var 1) (.cons (.var 2) (.cons (.var 3) (.cons (.var 4) (.cons (.var 5) .nil))))))) (.lit 0)) (.lit 0) (.app 7 0 (.cons (.var 0) (.cons (.var 1) (.cons (.var 2) (.cons (.var 3) (.cons (.var 4) (.cons (.var 5) .nil)))))))) (.lit 1024))))), (.int (.ite (.ite (.ite (.le (.lit (-2048)) (.var 0)) (.ite (.le (.var 0) (.lit 2048)) (.ite (.le (.lit (-2048)) (.var 1)) (.ite (.le (.var 1) (.lit 2048)) (.ite (.le (.lit (-2048)) (.var 2)) (.le (.var 2) (.lit 2048)) (.blit false)) (.blit false)) (.blit false)) (.blit false)) (.blit false)) (.no (.ite (.le (.lit (-2048)) (.var 3)) (.ite (.le (.var 3) (.lit 2048)) (.ite (.le (.lit (-2048)) (.var 4)) (.ite (.le (.var 4) (.lit 2048)) (.ite (.le (.lit (-2048)) (.var 5)) (.le (.var 5) (.lit 2048)) (.blit false)) (.blit false)) (.blit false)) (.blit false)) (.blit false))) (.blit true)) (.lit 5) (.lit 0)))])
theorem k_rlambert : acall cx6 20 false 20 [] (argsG [.g 3, .g 3] 0 0) (heapG [.g 3, .g 3] 0) = .leaf (R_rlambert, heapG [.g 3, .g 3] 0) := by kernel_rfl
set_option maxHeartbeats 4000000 in
set_option maxRecDepth 20000 in
theorem v_rlambert : ∀ l : List Int, l.length = lenSh [.g 3, .g 3] → AllI l → valOf (E.at l) R_rlambert = some (tupleV (resV E 43 l [.i, .i] 0 0)) := by
  intro l hl hG
  have h0 : l.length = 6 := hl
  clear hl
  obtain ⟨a0, l1, rfl, h1⟩ := cut1 h0
  clear h0
  obtain ⟨a1, l2, rfl, h2⟩ := cut1 h1
  clear h1
  obtain ⟨a2, l3, rfl, h3⟩ := cut1 h2
  clear h2
  obtain ⟨a3, l4, rfl, h4⟩ := cut1 h3
  clear h3
  obtain ⟨a4, l5, rfl, h5⟩ := cut1 h4
  clear h4
  obtain ⟨a5, l6, rfl, h6⟩ := cut1 h5
  clear h5
  obtain rfl := cut0 h6
  clear h6
  simp only [R_rlambert, valOf, vals1, valInts, val1, tupleV, resV, valsI, den, bt1, bt2, bt3, bt4, Env.at, E, fb, fi, List.getD_cons_zero, List.getD_cons_succ, List.all_cons, List.all_nil, Bool.and_true, nr', us', ss', nr2, us2, ss2, nr3, us3, ss3, Bool.and_assoc, Option.map_some, List.all_append, cmps, Wh.fe, lam, minI, maxI, lf6, Bool.not_and]
  simp only [fitr]
  cases hc : (lf a0 && (lf a1 && (lf a2 && (lf a3 && (lf a4 && lf a5)))))
  · simp
  simp only [Bool.and_eq_true] at hc
  obtain ⟨h0, h1, h2, h3, h4, h5⟩ := hc
  have g0 := lf_nr h0; have g1 := lf_nr h1; have g2 := lf_nr h2; have g3 := lf_nr h3; have g4 := lf_nr h4; have g5 := lf_nr h5
  have m0 := lf_m h0 h3; have m1 := lf_m h1 h4; have m2 := lf_m h2 h5
  simp [g0, g1, g2, g3, g4, g5]
  rw [lamw _ (by omega)]

theorem c_rlambert (W : World) : Flat Try.prog E W AllI 20 [.g 3, .g 3] fun l => tupleV (resV E 43 l [.i, .i] 0 0) := flat_val (cx6_ok W) k_rlambert v_rlambert

def R_right : AV := (.bool (.ite (.ite (.le (.lit 1) (.var 0)) (.ite (.le (.var 0) (.lit 3)) (.ite (.ite (.le (.lit 0) (.var 7)) (.le (.var 7) (.lit 255)) (.blit false)) (.ite (.ite (.le (.lit 0) (.var 8)) (.le (.var 8) (.lit 1024)) (.blit false)) (.app 2 0 (.cons (.var 1) (.cons (.var 2) (.cons (.var 3) (.cons (.var 4) (.cons (.var 5) (.cons (.var 6) .nil))))))) (.blit false)) (.blit false)) (.blit false)) (.blit false)) (.ite (.eq (.var 0) (.lit 2)) (.blit true) (.no (.ite (.eq (.var 4) (.lit 0)) (.ite (.eq (.var 5) (.lit 0)) (.eq (.var 6) (.lit 0)) (.blit false)) (.blit false)))) (.blit false)))
theorem k_right : acall cx6 20 false 55 [] (argsG [.g 9] 0 0) (heapG [.g 9] 0) = .leaf (R_right, heapG [.g 9] 0) := by kernel_rfl
set_option maxHeartbeats 4000000 in
set_option maxRecDepth 20000 in
theorem v_right : ∀ l : List Int, l.length = lenSh [.g 9] → AllI l → valOf (E.at l) R_right = some (tupleV (resV E 46 l [.b] 0 0)) := by
  intro l hl hG
  have h0 : l.length = 9 := hl
  clear hl
  obtain ⟨a0, l1, rfl, h1⟩ := cut1 h0
  clear h0
  obtain ⟨a1, l2, rfl, h2⟩ := cut1 h1
  clear h1
  obtain ⟨a2, l3, rfl, h3⟩ := cut1 h2
  clear h2
  obtain ⟨a3, l4, rfl, h4⟩ := cut1 h3
  clear h3
  obtain ⟨a4, l5, rfl, h5⟩ := cut1 h4
  clear h4
  obtain ⟨a5, l6, rfl, h6⟩ := cut1 h5
  clear h5
  obtain ⟨a6, l7, rfl, h7⟩ := cut1 h6
  clear h6
  obtain ⟨a7, l8, rfl, h8⟩ := cut1 h7
  clear h7
  obtain ⟨a8, l9, rfl, h9⟩ := cut1 h8
  clear h8
  obtain rfl := cut0 h9
  clear h9
  simp only [R_right, valOf, vals1, valInts, val1, tupleV, resV, valsI, den, bt1, bt2, bt3, bt4, Env.at, E, fb, fi, List.getD_cons_zero, List.getD_cons_succ, List.all_cons, List.all_nil, Bool.and_true, nr', us', ss', nr2, us2, ss2, nr3, us3, ss3, Bool.and_assoc, Option.map_some, List.all_append, cmps, Wh.fe, lr, z3, List.drop, List.take]

theorem c_right (W : World) : Flat Try.prog E W AllI 55 [.g 9] fun l => tupleV (resV E 46 l [.b] 0 0) := flat_val (cx6_ok W) k_right v_right

def R_rright : AV := (.bool (.ite (.ite (.lt (.var 0) (.lit 1)) (.blit true) (.ite (.lt (.lit 3) (.var 0)) (.blit true) (.ite (.lt (.var 7) (.lit 0)) (.blit true) (.ite (.lt (.lit 255) (.var 7)) (.blit true) (.ite (.lt (.var 8) (.lit 0)) (.blit true) (.ite (.lt (.lit 1024) (.var 8)) (.blit true) (.ite (.app 2 0 (.cons (.var 1) (.cons (.var 2) (.cons (.var 3) .nil)))) (.no (.app 2 0 (.cons (.var 4) (.cons (.var 5) (.cons (.var 6) .nil))))) (.blit true)))))))) (.blit false) (.ite (.eq (.var 0) (.lit 2)) (.blit true) (.no (.ite (.eq (.var 4) (.lit 0)) (.ite (.eq (.var 5) (.lit 0)) (.eq (.var 6) (.lit 0)) (.blit false)) (.blit false))))))
theorem k_rright : acall cx6 20 false 32 [] (argsG [.g 9] 0 0) (heapG [.g 9] 0) = .leaf (R_rright, heapG [.g 9] 0) := by kernel_rfl
set_option maxHeartbeats 4000000 in
set_option maxRecDepth 20000 in
theorem v_rright : ∀ l : List Int, l.length = lenSh [.g 9] → AllI l → valOf (E.at l) R_rright = some (tupleV (resV E 46 l [.b] 0 0)) := by
  intro l hl hG
  have h0 : l.length = 9 := hl
  clear hl
  obtain ⟨a0, l1, rfl, h1⟩ := cut1 h0
  clear h0
  obtain ⟨a1, l2, rfl, h2⟩ := cut1 h1
  clear h1
  obtain ⟨a2, l3, rfl, h3⟩ := cut1 h2
  clear h2
  obtain ⟨a3, l4, rfl, h4⟩ := cut1 h3
  clear h3
  obtain ⟨a4, l5, rfl, h5⟩ := cut1 h4
  clear h4
  obtain ⟨a5, l6, rfl, h6⟩ := cut1 h5
  clear h5
  obtain ⟨a6, l7, rfl, h7⟩ := cut1 h6
  clear h6
  obtain ⟨a7, l8, rfl, h8⟩ := cut1 h7
  clear h7
  obtain ⟨a8, l9, rfl, h9⟩ := cut1 h8
  clear h8
  obtain rfl := cut0 h9
  clear h9
  simp only [R_rright, valOf, vals1, valInts, val1, tupleV, resV, valsI, den, bt1, bt2, bt3, bt4, Env.at, E, fb, fi, List.getD_cons_zero, List.getD_cons_succ, List.all_cons, List.all_nil, Bool.and_true, nr', us', ss', nr2, us2, ss2, nr3, us3, ss3, Bool.and_assoc, Option.map_some, List.all_append, cmps, Wh.fe, lr, z3, List.drop, List.take]
  simp only [dlt, Bool.not_or, Bool.not_not, Bool.and_assoc]

theorem c_rright (W : World) : Flat Try.prog E W AllI 32 [.g 9] fun l => tupleV (resV E 46 l [.b] 0 0) := flat_val (cx6_ok W) k_rright v_rright

noncomputable def cm1 : Cx := ⟨cx6.ty, cx6.fn, [flatCon 13 [.g 3] [.g 3, .i] 40 (rangesOk okId), flatCon 14 [.g 3] [.g 3, .i] 40 (rangesOk okId), flatCon 19 [.g 3, .g 3] [.i, .i] 43 (rangesOk okId), flatCon 20 [.g 3, .g 3] [.i, .i] 43 (rangesOk okId), flatCon 55 [.g 9] [.b] 46 (rangesOk okId), flatCon 32 [.g 9] [.b] 46 (rangesOk okId)] ++ cx6.con, cx6.inl, cx6.eqs⟩
theorem cm1_ok (W : World) : ∀ l, AllI l → CxOk Try.prog (E.at l) W cm1 :=
  cx_more (cx6_ok W) (List.forall_mem_cons.2 ⟨flat_conI okId_I (c_unit W), List.forall_mem_cons.2 ⟨flat_conI okId_I (c_runit W), List.forall_mem_cons.2 ⟨flat_conI okId_I (c_lambert W), List.forall_mem_cons.2 ⟨flat_conI okId_I (c_rlambert W), List.forall_mem_cons.2 ⟨flat_conI okId_I (c_right W), List.forall_mem_cons.2 ⟨flat_conI okId_I (c_rright W), (fun _ h => by cases h)⟩⟩⟩⟩⟩⟩)
end Go.Proofs.Ytdkeiopcdajkpaa.Sx
