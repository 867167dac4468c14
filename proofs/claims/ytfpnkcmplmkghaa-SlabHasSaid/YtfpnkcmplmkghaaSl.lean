/- Boxes and ways: plain numbers. A way meets a box if some part of it, told by a fraction, lies within. -/
import Derived.Test.YtfpnkcmplmkghaaFw
set_option linter.unusedVariables false
set_option linter.unusedSimpArgs false
namespace Go.Proofs.Ytfpnkcmplmkghaa.Sx
open Go.RowKit

/-- Of two fractions the first one is no greater. -/
def Le (a b c d : Int) : Prop := a * d ≤ c * b
theorem Le_trans {a b c d e f : Int} (hd : 0 < d) (hb : 0 < b) (hf : 0 < f) (h : Le a b c d) (k : Le c d e f) : Le a b e f := by
  unfold Le at *
  have u := Int.mul_le_mul_of_nonneg_right h (show 0 ≤ f by omega); have v := Int.mul_le_mul_of_nonneg_right k (show 0 ≤ b by omega)
  have e1 : d * (a * f) = a * d * f := by grind
  have e2 : d * (e * b) = e * d * b := by grind
  have e3 : c * b * f = c * f * b := by grind
  exact Int.le_of_mul_le_mul_left (a := d) (by omega) (by omega)
theorem fr1_of {n d : Int} (hn : -1000000 ≤ n ∧ n ≤ 1000000) (hd : 1 ≤ d ∧ d ≤ 1000000) : fr1 n d = true := by simp [fr1]; omega
theorem lt_iff {a b c d : Int} (h : fr1 a b = true) (k : fr1 c d = true) : 0 < fcmp [a, b, c, d] ↔ c * b < a * d := by
  rw [fcmp_right h k]
  have := sgc_anti (a * d) (c * b)
  have := sgc_lt (x := c * b) (y := a * d)
  omega
theorem gt_iff {a b c d : Int} (h : fr1 a b = true) (k : fr1 c d = true) : fcmp [a, b, c, d] < 0 ↔ a * d < c * b := by
  rw [fcmp_right h k]; exact sgc_lt
/-- Numbers as they come here. -/
def Sm (x : Int) : Prop := -16384 ≤ x ∧ x ≤ 16384
def Fq (n d : Int) : Prop := (-100000 ≤ n ∧ n ≤ 100000) ∧ (1 ≤ d ∧ d ≤ 100000)
theorem Fq.right {n d : Int} (h : Fq n d) : fr1 n d = true := fr1_of (by have := h.1; omega) (by have := h.2; omega)
/-- What a part of the way, told by x/y, must be to lie between low and high. -/
def Lo (low high p q x y : Int) : Prop := (p < q → Le (low - p) (q - p) x y) ∧ (q < p → Le (p - high) (p - q) x y)
def Hi (low high p q x y : Int) : Prop := (p < q → Le x y (high - p) (q - p)) ∧ (q < p → Le x y (p - low) (p - q))
theorem clL_ok {low high p q n d : Int} (h1 : Sm low) (h2 : Sm high) (h3 : Sm p) (h4 : Sm q) (h : Fq n d) :
    Fq (clL low high p q n d).1 (clL low high p q n d).2 ∧ ∀ x y, 0 < y → (Le (clL low high p q n d).1 (clL low high p q n d).2 x y ↔ Le n d x y ∧ Lo low high p q x y) := by
  unfold Sm at *
  unfold clL Lo
  have hd := h.2
  by_cases a : p < q
  · rw [if_pos a]
    have f : Fq (low - p) (q - p) := ⟨by omega, by omega⟩
    have hf := f.2
    split
    · rename_i c
      rw [lt_iff f.right h.right] at c
      refine ⟨f, fun x y hy => ⟨fun k => ⟨Le_trans (c := low - p) (d := q - p) (by omega) (by omega) hy (show n * (q - p) ≤ (low - p) * d by omega) k, fun _ => k, fun b => by omega⟩, fun k => k.2.1 a⟩⟩
    · rename_i c
      rw [lt_iff f.right h.right] at c
      refine ⟨h, fun x y hy => ⟨fun k => ⟨k, fun _ => Le_trans (c := n) (d := d) (by omega) (by omega) hy (show (low - p) * d ≤ n * (q - p) by omega) k, fun b => by omega⟩, fun k => k.1⟩⟩
  · rw [if_neg a]
    by_cases b : q < p
    · rw [if_pos b]
      have f : Fq (p - high) (p - q) := ⟨by omega, by omega⟩
      have hf := f.2
      split
      · rename_i c
        rw [lt_iff f.right h.right] at c
        refine ⟨f, fun x y hy => ⟨fun k => ⟨Le_trans (c := p - high) (d := p - q) (by omega) (by omega) hy (show n * (p - q) ≤ (p - high) * d by omega) k, fun _ => by omega, fun _ => k⟩, fun k => k.2.2 b⟩⟩
      · rename_i c
        rw [lt_iff f.right h.right] at c
        refine ⟨h, fun x y hy => ⟨fun k => ⟨k, fun _ => by omega, fun _ => Le_trans (c := n) (d := d) (by omega) (by omega) hy (show (p - high) * d ≤ n * (p - q) by omega) k⟩, fun k => k.1⟩⟩
    · rw [if_neg b]
      exact ⟨h, fun x y hy => ⟨fun k => ⟨k, fun _ => by omega, fun _ => by omega⟩, fun k => k.1⟩⟩
theorem clU_ok {low high p q n d : Int} (h1 : Sm low) (h2 : Sm high) (h3 : Sm p) (h4 : Sm q) (h : Fq n d) :
    Fq (clU low high p q n d).1 (clU low high p q n d).2 ∧ ∀ x y, 0 < y → (Le x y (clU low high p q n d).1 (clU low high p q n d).2 ↔ Le x y n d ∧ Hi low high p q x y) := by
  unfold Sm at *
  unfold clU Hi
  have hd := h.2
  by_cases a : p < q
  · rw [if_pos a]
    have f : Fq (high - p) (q - p) := ⟨by omega, by omega⟩
    have hf := f.2
    split
    · rename_i c
      rw [gt_iff f.right h.right] at c
      refine ⟨f, fun x y hy => ⟨fun k => ⟨Le_trans (c := high - p) (d := q - p) (by omega) hy (by omega) k (show (high - p) * d ≤ n * (q - p) by omega), fun _ => k, fun b => by omega⟩, fun k => k.2.1 a⟩⟩
    · rename_i c
      rw [gt_iff f.right h.right] at c
      refine ⟨h, fun x y hy => ⟨fun k => ⟨k, fun _ => Le_trans (c := n) (d := d) (by omega) hy (by omega) k (show n * (q - p) ≤ (high - p) * d by omega), fun b => by omega⟩, fun k => k.1⟩⟩
  · rw [if_neg a]
    by_cases b : q < p
    · rw [if_pos b]
      have f : Fq (p - low) (p - q) := ⟨by omega, by omega⟩
      have hf := f.2
      split
      · rename_i c
        rw [gt_iff f.right h.right] at c
        refine ⟨f, fun x y hy => ⟨fun k => ⟨Le_trans (c := p - low) (d := p - q) (by omega) hy (by omega) k (show (p - low) * d ≤ n * (p - q) by omega), fun _ => by omega, fun _ => k⟩, fun k => k.2.2 b⟩⟩
      · rename_i c
        rw [gt_iff f.right h.right] at c
        refine ⟨h, fun x y hy => ⟨fun k => ⟨k, fun _ => by omega, fun _ => Le_trans (c := n) (d := d) (by omega) hy (by omega) k (show n * (p - q) ≤ (p - low) * d by omega)⟩, fun k => k.1⟩⟩
    · rw [if_neg b]
      exact ⟨h, fun x y hy => ⟨fun k => ⟨k, fun _ => by omega, fun _ => by omega⟩, fun k => k.1⟩⟩
/-- At x/y of the way from p to q it lies between low and high. -/
def At (low high p q x y : Int) : Prop := low * y ≤ p * y + (q - p) * x ∧ p * y + (q - p) * x ≤ high * y
theorem at_iff {low high p q x y : Int} (hy : 0 < y) : At low high p q x y ↔ Lo low high p q x y ∧ Hi low high p q x y ∧ outA low high p q = false := by
  unfold At Lo Hi Le outA
  rcases Int.lt_trichotomy p q with h | h | h
  · have hb : (p == q) = false := by simp; omega
    simp only [hb, Bool.false_and, and_true, h, true_imp_iff, show ¬ q < p by omega, false_imp_iff]
    have e1 : (low - p) * y = low * y - p * y := by grind
    have e2 : (high - p) * y = high * y - p * y := by grind
    have e3 : x * (q - p) = (q - p) * x := by grind
    omega
  · subst h
    have e : (p - p) * x = 0 := by simp
    simp only [Int.lt_irrefl, false_imp_iff, true_and, e, beq_self_eq_true, Bool.true_and, Bool.or_eq_false_iff, decide_eq_false_iff_not, Int.not_lt]
    constructor
    · rintro ⟨a, b⟩
      exact ⟨Int.le_of_mul_le_mul_right (by omega) hy, Int.le_of_mul_le_mul_right (by omega) hy⟩
    · rintro ⟨a, b⟩
      have u := Int.mul_le_mul_of_nonneg_right a (show 0 ≤ y by omega); have v := Int.mul_le_mul_of_nonneg_right b (show 0 ≤ y by omega)
      omega
  · have hb : (p == q) = false := by simp; omega
    simp only [hb, Bool.false_and, and_true, h, true_imp_iff, show ¬ p < q by omega, false_imp_iff, true_and]
    have e1 : (p - low) * y = p * y - low * y := by grind
    have e2 : (p - high) * y = p * y - high * y := by grind
    have e3 : x * (p - q) = -((q - p) * x) := by grind
    omega
/-- THE MEANING: some part of the way lies within. -/
theorem meet_iff {p0 p1 p2 q0 q1 q2 l0 l1 l2 h0 h1 h2 : Int} (sp0 : Sm p0) (sp1 : Sm p1) (sp2 : Sm p2) (sq0 : Sm q0) (sq1 : Sm q1) (sq2 : Sm q2) (sl0 : Sm l0) (sl1 : Sm l1) (sl2 : Sm l2) (sh0 : Sm h0) (sh1 : Sm h1) (sh2 : Sm h2) :
    meetB [p0, p1, p2, q0, q1, q2, l0, l1, l2, h0, h1, h2] = true ↔ ∃ x y, 0 < y ∧ 0 ≤ x ∧ x ≤ y ∧ At l0 h0 p0 q0 x y ∧ At l1 h1 p1 q1 x y ∧ At l2 h2 p2 q2 x y := by
  have L1 := clL_ok (n := 0) (d := 1) sl0 sh0 sp0 sq0 ⟨by decide, by decide⟩
  have U1 := clU_ok (n := 1) (d := 1) sl0 sh0 sp0 sq0 ⟨by decide, by decide⟩
  have L2 := clL_ok sl1 sh1 sp1 sq1 L1.1
  have U2 := clU_ok sl1 sh1 sp1 sq1 U1.1
  have L3 := clL_ok sl2 sh2 sp2 sq2 L2.1
  have U3 := clU_ok sl2 sh2 sp2 sq2 U2.1
  have hm : meetB [p0, p1, p2, q0, q1, q2, l0, l1, l2, h0, h1, h2] = true ↔ outA l0 h0 p0 q0 = false ∧ outA l1 h1 p1 q1 = false ∧ outA l2 h2 p2 q2 = false ∧ fcmp [(mL3 [p0, p1, p2, q0, q1, q2, l0, l1, l2, h0, h1, h2]).1, (mL3 [p0, p1, p2, q0, q1, q2, l0, l1, l2, h0, h1, h2]).2, (mU3 [p0, p1, p2, q0, q1, q2, l0, l1, l2, h0, h1, h2]).1, (mU3 [p0, p1, p2, q0, q1, q2, l0, l1, l2, h0, h1, h2]).2] ≤ 0 := by
    simp [meetB]
  rw [hm]
  have eL : mL3 [p0, p1, p2, q0, q1, q2, l0, l1, l2, h0, h1, h2] = clL l2 h2 p2 q2 (clL l1 h1 p1 q1 (clL l0 h0 p0 q0 0 1).1 (clL l0 h0 p0 q0 0 1).2).1 (clL l1 h1 p1 q1 (clL l0 h0 p0 q0 0 1).1 (clL l0 h0 p0 q0 0 1).2).2 := rfl
  have eU : mU3 [p0, p1, p2, q0, q1, q2, l0, l1, l2, h0, h1, h2] = clU l2 h2 p2 q2 (clU l1 h1 p1 q1 (clU l0 h0 p0 q0 1 1).1 (clU l0 h0 p0 q0 1 1).2).1 (clU l1 h1 p1 q1 (clU l0 h0 p0 q0 1 1).1 (clU l0 h0 p0 q0 1 1).2).2 := rfl
  rw [eL, eU, fcmp_right L3.1.right U3.1.right, sgc_le]
  have hLy := L3.1.2
  have hUy := U3.1.2
  constructor
  · rintro ⟨o0, o1, o2, hle⟩
    refine ⟨(clL l2 h2 p2 q2 (clL l1 h1 p1 q1 (clL l0 h0 p0 q0 0 1).1 (clL l0 h0 p0 q0 0 1).2).1 (clL l1 h1 p1 q1 (clL l0 h0 p0 q0 0 1).1 (clL l0 h0 p0 q0 0 1).2).2).1, (clL l2 h2 p2 q2 (clL l1 h1 p1 q1 (clL l0 h0 p0 q0 0 1).1 (clL l0 h0 p0 q0 0 1).2).1 (clL l1 h1 p1 q1 (clL l0 h0 p0 q0 0 1).1 (clL l0 h0 p0 q0 0 1).2).2).2, by omega, ?_⟩
    have hself := (L3.2 _ _ (show 0 < (clL l2 h2 p2 q2 (clL l1 h1 p1 q1 (clL l0 h0 p0 q0 0 1).1 (clL l0 h0 p0 q0 0 1).2).1 (clL l1 h1 p1 q1 (clL l0 h0 p0 q0 0 1).1 (clL l0 h0 p0 q0 0 1).2).2).2 by omega)).1 (Int.le_refl _)
    have b2 := (L2.2 _ _ (by omega)).1 hself.1
    have b1 := (L1.2 _ _ (by omega)).1 b2.1
    have t3 := (U3.2 _ _ (by omega)).1 hle
    have t2 := (U2.2 _ _ (by omega)).1 t3.1
    have t1 := (U1.2 _ _ (by omega)).1 t2.1
    have z0 := b1.1; have z1 := t1.1
    unfold Le at z0 z1
    refine ⟨by omega, by omega, (at_iff (by omega)).2 ⟨b1.2, t1.2, o0⟩, (at_iff (by omega)).2 ⟨b2.2, t2.2, o1⟩, (at_iff (by omega)).2 ⟨hself.2, t3.2, o2⟩⟩
  · rintro ⟨x, y, hy, hx0, hx1, a0, a1, a2⟩
    obtain ⟨c0, d0, o0⟩ := (at_iff hy).1 a0
    obtain ⟨c1, d1, o1⟩ := (at_iff hy).1 a1
    obtain ⟨c2, d2, o2⟩ := (at_iff hy).1 a2
    refine ⟨o0, o1, o2, ?_⟩
    have k1 := (L1.2 x y hy).2 ⟨by unfold Le; omega, c0⟩
    have k2 := (L2.2 x y hy).2 ⟨k1, c1⟩
    have k3 := (L3.2 x y hy).2 ⟨k2, c2⟩
    have m1 := (U1.2 x y hy).2 ⟨by unfold Le; omega, d0⟩
    have m2 := (U2.2 x y hy).2 ⟨m1, d1⟩
    have m3 := (U3.2 x y hy).2 ⟨m2, d2⟩
    exact Le_trans hy (by omega) (by omega) k3 m3
end Go.Proofs.Ytfpnkcmplmkghaa.Sx
