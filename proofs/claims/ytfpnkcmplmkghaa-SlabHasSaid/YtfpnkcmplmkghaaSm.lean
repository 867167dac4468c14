/- The laws of chapter 13: plain numbers. -/
import Derived.Test.YtfpnkcmplmkghaaSl
import Derived.Test.YtfpnkcmplmkghaaHp
set_option linter.unusedVariables false
set_option linter.unusedSimpArgs false
namespace Go.Proofs.Ytfpnkcmplmkghaa.Sx
open Go.RowKit

theorem at_mid {low high p d : Int} (h : low ≤ p ∧ p ≤ high) : At low high (p - d) (p + d) 1 2 ∧ At low high (p + 3 * d) (p - d) 3 4 := by
  unfold At; omega
theorem at_swap {low high p q x y : Int} (h : At low high p q x y) : At low high q p (y - x) y := by
  unfold At at *
  have e : q * y + (p - q) * (y - x) = p * y + (q - p) * x := by grind
  rw [e]; exact h
theorem at_end {low high p q : Int} (h : low ≤ p ∧ p ≤ high) : At low high p q 0 1 ∧ At low high q p 1 1 := by
  unfold At; omega
theorem at_more {low high low' high' p q x y : Int} (hy : 0 < y) (h1 : low' ≤ low) (h2 : high ≤ high') (h : At low high p q x y) : At low' high' p q x y := by
  unfold At at *
  have u := Int.mul_le_mul_of_nonneg_right h1 (show 0 ≤ y by omega); have v := Int.mul_le_mul_of_nonneg_right h2 (show 0 ≤ y by omega)
  omega
theorem at_low {low high p q x y : Int} (hy : 0 < y) (h0 : 0 ≤ x) (h1 : x ≤ y) (h : At low high p q x y) : ¬ (p < low ∧ q < low) := by
  rintro ⟨a, b⟩
  unfold At at h
  have u := Int.mul_nonneg (show 0 ≤ low - p - 1 by omega) (show 0 ≤ y - x by omega)
  have v := Int.mul_nonneg (show 0 ≤ low - q - 1 by omega) h0
  have e : low * y - (p * y + (q - p) * x) = (low - p - 1) * (y - x) + (low - q - 1) * x + y := by grind
  omega
theorem at_high {low high p q x y : Int} (hy : 0 < y) (h0 : 0 ≤ x) (h1 : x ≤ y) (h : At low high p q x y) : ¬ (high < p ∧ high < q) := by
  rintro ⟨a, b⟩
  unfold At at h
  have u := Int.mul_nonneg (show 0 ≤ p - high - 1 by omega) (show 0 ≤ y - x by omega)
  have v := Int.mul_nonneg (show 0 ≤ q - high - 1 by omega) h0
  have e : (p * y + (q - p) * x) - high * y = (p - high - 1) * (y - x) + (q - high - 1) * x + y := by grind
  omega
theorem at_wt {p q r α β t0 t1 t2 a b low high : Int} (hp : 0 ≤ p) (hq : 0 ≤ q) (hr : 0 ≤ r) (s : p + q + r = α + β) (e : p * t0 + q * t1 + r * t2 = β * a + α * b) (h0 : low ≤ t0 ∧ t0 ≤ high) (h1 : low ≤ t1 ∧ t1 ≤ high) (h2 : low ≤ t2 ∧ t2 ≤ high) :
    At low high a b α (α + β) := by
  unfold At
  have e2 : a * (α + β) + (b - a) * α = β * a + α * b := by grind
  rw [e2, ← e]
  have f0 := Int.mul_le_mul_of_nonneg_left h0.1 hp; have f1 := Int.mul_le_mul_of_nonneg_left h1.1 hq; have f2 := Int.mul_le_mul_of_nonneg_left h2.1 hr
  have g0 := Int.mul_le_mul_of_nonneg_left h0.2 hp; have g1 := Int.mul_le_mul_of_nonneg_left h1.2 hq; have g2 := Int.mul_le_mul_of_nonneg_left h2.2 hr
  have el : low * (α + β) = p * low + q * low + r * low := by rw [← s]; grind
  have eh : high * (α + β) = p * high + q * high + r * high := by rw [← s]; grind
  omega
/-- A right box. -/
structure Bx (l0 l1 l2 h0 h1 h2 : Int) : Prop where
  sl0 : Sm l0
  sl1 : Sm l1
  sl2 : Sm l2
  sh0 : Sm h0
  sh1 : Sm h1
  sh2 : Sm h2
  le0 : l0 ≤ h0
  le1 : l1 ≤ h1
  le2 : l2 ≤ h2
theorem sm_iff {x : Int} : ss x = true ↔ Sm x := by simp [ss, Sm]
theorem sis_iff {l0 l1 l2 h0 h1 h2 : Int} : sis [l0, l1, l2, h0, h1, h2] = true ↔ Bx l0 l1 l2 h0 h1 h2 := by
  have e : sis [l0, l1, l2, h0, h1, h2] = true ↔ ((Sm l0 ∧ Sm l1 ∧ Sm l2 ∧ Sm h0 ∧ Sm h1 ∧ Sm h2) ∧ l0 ≤ h0 ∧ l1 ≤ h1 ∧ l2 ≤ h2) := by
    simp only [sis, List.take_succ_cons, List.take_zero, List.all_cons, List.all_nil, Bool.and_true, Bool.and_eq_true, sm_iff, List.getD_cons_zero, List.getD_cons_succ, decide_eq_true_eq]
  rw [e]
  exact ⟨fun ⟨⟨a, b, c, d, e, f⟩, g, h, i⟩ => ⟨a, b, c, d, e, f, g, h, i⟩, fun ⟨a, b, c, d, e, f, g, h, i⟩ => ⟨⟨a, b, c, d, e, f⟩, g, h, i⟩⟩
theorem meet_swap {p0 p1 p2 q0 q1 q2 l0 l1 l2 h0 h1 h2 : Int} (sp0 : Sm p0) (sp1 : Sm p1) (sp2 : Sm p2) (sq0 : Sm q0) (sq1 : Sm q1) (sq2 : Sm q2) (b : Bx l0 l1 l2 h0 h1 h2) :
    meetB [q0, q1, q2, p0, p1, p2, l0, l1, l2, h0, h1, h2] = meetB [p0, p1, p2, q0, q1, q2, l0, l1, l2, h0, h1, h2] := by
  rw [Bool.eq_iff_iff, meet_iff sq0 sq1 sq2 sp0 sp1 sp2 b.sl0 b.sl1 b.sl2 b.sh0 b.sh1 b.sh2, meet_iff sp0 sp1 sp2 sq0 sq1 sq2 b.sl0 b.sl1 b.sl2 b.sh0 b.sh1 b.sh2]
  constructor <;> (rintro ⟨x, y, hy, h0, h1, a0, a1, a2⟩; exact ⟨y - x, y, hy, by omega, by omega, at_swap a0, at_swap a1, at_swap a2⟩)
end Go.Proofs.Ytfpnkcmplmkghaa.Sx
