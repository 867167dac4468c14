/- Parts of the proof of TopPoint. No condition of their own. -/
import Derived.Test.YtlfoglklibhbnaaGreatTpA
import Derived.Test.YtlfoglklibhbnaaGreatTpI
import Derived.Test.YtlfoglklibhbnaaGreatTpZ
set_option linter.unusedVariables false
set_option linter.unusedSimpArgs false
namespace Go.Proofs.YtlfoglklibhbnaaGreat.Geo
theorem pn {a b : Int} (h : 0 ≤ a) (k : b ≤ 0) : a * b ≤ 0 := Int.mul_nonpos_of_nonneg_of_nonpos h k
theorem np {a b : Int} (h : a ≤ 0) (k : 0 ≤ b) : a * b ≤ 0 := by rw [Int.mul_comm]; exact pn k h
end Go.Proofs.YtlfoglklibhbnaaGreat.Geo
namespace Go.Proofs.YtlfoglklibhbnaaGreat.Geo
open Sx
def crp (o p q : P2) : Int := (p.x - o.x) * (q.y - o.y) - (p.y - o.y) * (q.x - o.x)
theorem crp_cyc (o p q : P2) : crp o p q = crp p q o := by unfold crp; grind
def ab (t : List Int) : Int := if 0 < areaV t then areaV t else - areaV t
def cz (t : List Int) (i : Nat) (x y : Int) : Int := areaV [t.getD (2 * i) 0, t.getD (2 * i + 1) 0, t.getD ((2 * i + 2) % 6) 0, t.getD ((2 * i + 3) % 6) 0, x, y]
def ev (t : List Int) (i : Nat) (x y : Int) : Int := if 0 < areaV t then cz t i x y else - cz t i x y
theorem ab_pos {t : List Int} (h : areaV t ≠ 0) : 0 < ab t := by unfold ab; split <;> omega
theorem cz_aff (a b c d x y : Int) : areaV [a, b, c, d, x, y] = (b - d) * x + (c - a) * y + ((d - b) * a - (c - a) * b) := by
 show crp ⟨a, b⟩ ⟨c, d⟩ ⟨x, y⟩ = _
 simp only [crp]; grind
theorem ev_aff (t : List Int) (i : Nat) : ∃ α β γ : Int, ∀ x y, ev t i x y = α * x + β * y + γ := by
 unfold ev
 by_cases h : 0 < areaV t
 ·simp only [if_pos h]
  exact ⟨_, _, _, fun x y => cz_aff _ _ _ _ x y⟩
 ·simp only [if_neg h]
  refine ⟨-(t.getD (2 * i + 1) 0 - t.getD ((2 * i + 3) % 6) 0), -(t.getD ((2 * i + 2) % 6) 0 - t.getD (2 * i) 0), -((t.getD ((2 * i + 3) % 6) 0 - t.getD (2 * i + 1) 0) * t.getD (2 * i) 0 - (t.getD ((2 * i + 2) % 6) 0 - t.getD (2 * i) 0) * t.getD (2 * i + 1) 0), fun x y => ?_⟩
  unfold cz
  rw [cz_aff]
  grind
theorem sq_lt {α β γ x y s u v : Int} (h00 : α * x + β * y + γ < 0) (h10 : α * (x + s) + β * y + γ < 0) (h11 : α * (x + s) + β * (y + s) + γ < 0) (h01 : α * x + β * (y + s) + γ < 0)
  (hu : 0 ≤ u) (hu2 : u ≤ s) (hv : 0 ≤ v) (hv2 : v ≤ s) : α * (x + u) + β * (y + v) + γ < 0 := by
 simp only [Int.mul_add] at *
 have a1 : 0 ≤ α → α * u ≤ α * s := fun h => Int.mul_le_mul_of_nonneg_left hu2 h
 have a2 : α ≤ 0 → α * u ≤ 0 := fun h => np h hu
 have b1 : 0 ≤ β → β * v ≤ β * s := fun h => Int.mul_le_mul_of_nonneg_left hv2 h
 have b2 : β ≤ 0 → β * v ≤ 0 := fun h => np h hv
 rcases Int.le_total 0 α with c | c <;> rcases Int.le_total 0 β with d | d
 ·have := a1 c; have := b1 d; omega
 ·have := a1 c; have := b2 d; omega
 ·have := a2 c; have := b1 d; omega
 ·have := a2 c; have := b2 d; omega
end Go.Proofs.YtlfoglklibhbnaaGreat.Geo
namespace Go.Proofs.YtlfoglklibhbnaaGreat.Sx
section
variable (a0 a1 a2 a3 a4 a5 b0 b1 b2 b3 b4 b5 x y c : Int)
theorem sgn_neg' (n : Int) : sgn (-n) = - sgn n := by unfold sgn; (repeat' split) <;> omega
end
end Go.Proofs.YtlfoglklibhbnaaGreat.Sx
namespace Go.Proofs.YtlfoglklibhbnaaGreat.Sx
open Geo
theorem sgn1 (v : Int) : sgn v = 1 ↔ 0 < v := by unfold sgn; (repeat' split) <;> omega
theorem sgnlt0 (v : Int) : sgn v < 0 ↔ v < 0 := by unfold sgn; (repeat' split) <;> omega
section
variable {a0 a1 a2 a3 a4 a5 b0 b1 b2 b3 b4 b5 x y : Int}
theorem rgt_iff : rgt [a0, a1, a2, a3, a4, a5] = true ↔ ((us a0 = true ∧ us a1 = true ∧ us a2 = true ∧ us a3 = true ∧ us a4 = true ∧ us a5 = true) ∧ areaV [a0, a1, a2, a3, a4, a5] ≠ 0) := by
 unfold rgt
 simp [and_assoc]
theorem edq_ev (h : rgt [a0, a1, a2, a3, a4, a5] = true) (hx : us x = true) (hy : us y = true) (i : Nat) (hi : i < 3) : edq [a0, a1, a2, a3, a4, a5] i x y = sgn (Geo.ev [a0, a1, a2, a3, a4, a5] i x y) := by
 obtain ⟨⟨h0, h1, h2, h3, h4, h5⟩, hA⟩ := rgt_iff.1 h
 have e1 : sdq [a0, a1, a2, a3, a4, a5] = sgn (areaV [a0, a1, a2, a3, a4, a5]) := by unfold sdq; simp [h0, h1, h2, h3, h4, h5]
 have e2 : edq [a0, a1, a2, a3, a4, a5] i x y = sgn (areaV [a0, a1, a2, a3, a4, a5]) * sgn (cz [a0, a1, a2, a3, a4, a5] i x y) := by
  have hi3 : i = 0 ∨ i = 1 ∨ i = 2 := by omega
  unfold edq
  rw [e1]
  congr 1
  rcases hi3 with rfl | rfl | rfl
  ·show sdq [a0, a1, a2, a3, x, y] = sgn (areaV [a0, a1, a2, a3, x, y]); unfold sdq; simp [h0, h1, h2, h3, hx, hy]
  ·show sdq [a2, a3, a4, a5, x, y] = sgn (areaV [a2, a3, a4, a5, x, y]); unfold sdq; simp [h2, h3, h4, h5, hx, hy]
  ·show sdq [a4, a5, a0, a1, x, y] = sgn (areaV [a4, a5, a0, a1, x, y]); unfold sdq; simp [h0, h1, h4, h5, hx, hy]
 rw [e2]
 unfold Geo.ev
 by_cases hp : 0 < areaV [a0, a1, a2, a3, a4, a5]
 ·rw [if_pos hp, (sgn1 _).2 hp, Int.one_mul]
 ·rw [if_neg hp, sgn_neg', show sgn (areaV [a0, a1, a2, a3, a4, a5]) = -1 by unfold sgn; rw [if_pos (by omega)], Int.neg_mul, Int.one_mul]
theorem out0 (h : rgt [a0, a1, a2, a3, a4, a5] = true) (hb : rgt [b0, b1, b2, b3, b4, b5] = true) (i : Nat) (hi : i < 3) :
  outE [a0, a1, a2, a3, a4, a5] i 0 (ptsOf [b0, b1, b2, b3, b4, b5]) = true ↔ (Geo.ev [a0, a1, a2, a3, a4, a5] i b0 b1 < 0 ∧ Geo.ev [a0, a1, a2, a3, a4, a5] i b2 b3 < 0 ∧ Geo.ev [a0, a1, a2, a3, a4, a5] i b4 b5 < 0) := by
 obtain ⟨⟨h0, h1, h2, h3, h4, h5⟩, _⟩ := rgt_iff.1 hb
 simp only [outE, ptsOf, List.all_cons, List.all_nil, Bool.and_true, Bool.and_eq_true, decide_eq_true_eq, edq_ev h h0 h1 i hi, edq_ev h h2 h3 i hi, edq_ev h h4 h5 i hi, sgnlt0]
theorem apB_iff {t : List Int} {c : Int} {l : List Int} : apB t c l = true ↔ ∃ i, i < 3 ∧ outE t i c (ptsOf l) = true := by
 unfold apB
 simp only [Bool.or_eq_true]
 constructor
 ·rintro (h | h | h)
  ·exact ⟨0, by omega, h⟩
  ·exact ⟨1, by omega, h⟩
  ·exact ⟨2, by omega, h⟩
 ·rintro ⟨i, hi, h⟩
  have hi3 : i = 0 ∨ i = 1 ∨ i = 2 := by omega
  rcases hi3 with rfl | rfl | rfl
  ·exact .inl h
  ·exact .inr (.inl h)
  ·exact .inr (.inr h)
end
section
variable {a0 a1 a2 a3 a4 a5 b0 b1 b2 b3 b4 b5 x y : Int}
theorem cz_c (t : List Int) (i : Nat) (x y : Int) (h : Geo.cz t i x y = 0) : Geo.ev t i x y = 0 := by unfold Geo.ev; split <;> omega
theorem cz_o (t : List Int) (i : Nat) (x y : Int) (h : Geo.cz t i x y = areaV t) : Geo.ev t i x y = ab t := by unfold Geo.ev ab; split <;> omega
theorem crp_1 (o p : P2) : crp o p o = 0 := by unfold crp; grind
theorem crp_2 (o p : P2) : crp o p p = 0 := by unfold crp; grind
theorem ev00 : Geo.ev [a0, a1, a2, a3, a4, a5] 0 a0 a1 = 0 := cz_c _ _ _ _ (crp_1 ⟨a0, a1⟩ ⟨a2, a3⟩)
theorem ev01 : Geo.ev [a0, a1, a2, a3, a4, a5] 0 a2 a3 = 0 := cz_c _ _ _ _ (crp_2 ⟨a0, a1⟩ ⟨a2, a3⟩)
theorem ev02 : Geo.ev [a0, a1, a2, a3, a4, a5] 0 a4 a5 = ab [a0, a1, a2, a3, a4, a5] := cz_o _ _ _ _ rfl
theorem ev11 : Geo.ev [a0, a1, a2, a3, a4, a5] 1 a2 a3 = 0 := cz_c _ _ _ _ (crp_1 ⟨a2, a3⟩ ⟨a4, a5⟩)
theorem ev12 : Geo.ev [a0, a1, a2, a3, a4, a5] 1 a4 a5 = 0 := cz_c _ _ _ _ (crp_2 ⟨a2, a3⟩ ⟨a4, a5⟩)
theorem ev10 : Geo.ev [a0, a1, a2, a3, a4, a5] 1 a0 a1 = ab [a0, a1, a2, a3, a4, a5] := cz_o _ _ _ _ (crp_cyc ⟨a0, a1⟩ ⟨a2, a3⟩ ⟨a4, a5⟩).symm
theorem ev22 : Geo.ev [a0, a1, a2, a3, a4, a5] 2 a4 a5 = 0 := cz_c _ _ _ _ (crp_1 ⟨a4, a5⟩ ⟨a0, a1⟩)
theorem ev20 : Geo.ev [a0, a1, a2, a3, a4, a5] 2 a0 a1 = 0 := cz_c _ _ _ _ (crp_2 ⟨a4, a5⟩ ⟨a0, a1⟩)
theorem ev21 : Geo.ev [a0, a1, a2, a3, a4, a5] 2 a2 a3 = ab [a0, a1, a2, a3, a4, a5] := cz_o _ _ _ _ (crp_cyc ⟨a4, a5⟩ ⟨a0, a1⟩ ⟨a2, a3⟩)
end
section
variable {a0 a1 a2 a3 a4 a5 x y c : Int}
theorem sqg_b (h : sqg [x, y, c] = true) : 1 ≤ c ∧ c ≤ 4096 ∧ us x = true ∧ us y = true ∧ us (x + c) = true ∧ us (y + c) = true := by
 unfold sqg at h
 simp only [List.getD_cons_zero, List.getD_cons_succ, Bool.and_eq_true, decide_eq_true_eq] at h
 exact h
theorem sq_out (h : rgt [a0, a1, a2, a3, a4, a5] = true) (hg : sqg [x, y, c] = true) (ha : apB [a0, a1, a2, a3, a4, a5] 0 (sqC [x, y, c, a0, a1, a2, a3, a4, a5]) = true) :
  ∃ i, i < 3 ∧ Geo.ev [a0, a1, a2, a3, a4, a5] i x y < 0 ∧ Geo.ev [a0, a1, a2, a3, a4, a5] i (x + c) y < 0 ∧ Geo.ev [a0, a1, a2, a3, a4, a5] i (x + c) (y + c) < 0 ∧ Geo.ev [a0, a1, a2, a3, a4, a5] i x (y + c) < 0 := by
 obtain ⟨i, hi, ho⟩ := apB_iff.1 ha
 obtain ⟨_, _, ux, uy, vx, vy⟩ := sqg_b hg
 have h1 : (decide (edq [a0, a1, a2, a3, a4, a5] i x y < 0) && (decide (edq [a0, a1, a2, a3, a4, a5] i (x + c) y < 0) && (decide (edq [a0, a1, a2, a3, a4, a5] i (x + c) (y + c) < 0) && (decide (edq [a0, a1, a2, a3, a4, a5] i x (y + c) < 0) && true)))) = true := ho
 simp only [Bool.and_eq_true, decide_eq_true_eq, edq_ev h ux uy i hi, edq_ev h vx uy i hi, edq_ev h vx vy i hi, edq_ev h ux vy i hi, sgnlt0] at h1
 exact ⟨i, hi, h1.1, h1.2.1, h1.2.2.1, h1.2.2.2.1⟩
end
end Go.Proofs.YtlfoglklibhbnaaGreat.Sx
