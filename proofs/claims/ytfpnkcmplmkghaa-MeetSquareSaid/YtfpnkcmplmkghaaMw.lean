/- Plain geometry of triangles: sides, points inside, squares; what chapter 10's laws say. Nothing of the program. -/
import Derived.Test.YtfpnkcmplmkghaaMq
import Derived.Test.YtfpnkcmplmkghaaMu
set_option linter.unusedVariables false
namespace Go.Proofs.Ytfpnkcmplmkghaa.Geo
open Sx

def crp (o p q : P2) : Int := (p.x - o.x) * (q.y - o.y) - (p.y - o.y) * (q.x - o.x)
theorem crp_cyc (o p q : P2) : crp o p q = crp p q o := by unfold crp; grind
theorem crp_sw (o p q : P2) : crp o p q = - crp p o q := by unfold crp; grind
theorem k1 (P R U : P2) : crp R P U = cr (U.x - P.x) (U.y - P.y) (R.x - P.x) (R.y - P.y) := by unfold crp cr; grind
theorem k2 (P R U V : P2) : crp R P V = cr (U.x - P.x) (U.y - P.y) (R.x - P.x) (R.y - P.y) - cr (R.x - P.x) (R.y - P.y) (V.x - U.x) (V.y - U.y) := by unfold crp cr; grind
theorem k3 (P Q U : P2) : crp P Q U = - cr (U.x - P.x) (U.y - P.y) (Q.x - P.x) (Q.y - P.y) := by unfold crp cr; grind
theorem k4 (P Q U V : P2) : crp P Q V = cr (Q.x - P.x) (Q.y - P.y) (V.x - U.x) (V.y - U.y) - cr (U.x - P.x) (U.y - P.y) (Q.x - P.x) (Q.y - P.y) := by unfold crp cr; grind
theorem k5 (P U W : P2) : crp W U P = - cr (U.x - P.x) (U.y - P.y) (W.x - U.x) (W.y - U.y) := by unfold crp cr; grind
theorem k6 (P Q U W : P2) : crp W U Q = cr (Q.x - P.x) (Q.y - P.y) (W.x - U.x) (W.y - U.y) - cr (U.x - P.x) (U.y - P.y) (W.x - U.x) (W.y - U.y) := by unfold crp cr; grind
theorem k7 (P U V : P2) : crp U V P = cr (U.x - P.x) (U.y - P.y) (V.x - U.x) (V.y - U.y) := by unfold crp cr; grind
theorem k8 (P Q U V : P2) : crp U V Q = cr (U.x - P.x) (U.y - P.y) (V.x - U.x) (V.y - U.y) - cr (Q.x - P.x) (Q.y - P.y) (V.x - U.x) (V.y - U.y) := by unfold crp cr; grind

theorem satP (P Q R U V W : P2) (hA : 0 < crp P Q R) (hB : 0 < crp U V W) (hq : Q.x ≤ P.x) (hr : R.x ≤ P.x) (hv : U.x ≤ V.x) (hw : U.x ≤ W.x) (hs : P.x < U.x)
    (e1 : 0 ≤ crp P Q U ∨ 0 ≤ crp P Q V ∨ 0 ≤ crp P Q W) (e3 : 0 ≤ crp R P U ∨ 0 ≤ crp R P V ∨ 0 ≤ crp R P W) (f1 : 0 ≤ crp U V P ∨ 0 ≤ crp U V Q ∨ 0 ≤ crp U V R) (f3 : 0 ≤ crp W U P ∨ 0 ≤ crp W U Q ∨ 0 ≤ crp W U R) : False := by
  rw [k3 P Q U, k4 P Q U V, k4 P Q U W] at e1
  rw [k1 P R U, k2 P R U V, k2 P R U W] at e3
  rw [k7 P U V, k8 P Q U V, k8 P R U V] at f1
  rw [k5 P U W, k6 P Q U W, k6 P R U W] at f3
  refine sat0 (R.x - P.x) (R.y - P.y) (Q.x - P.x) (Q.y - P.y) (W.x - U.x) (W.y - U.y) (V.x - U.x) (V.y - U.y) (U.x - P.x) (U.y - P.y) (by omega) (by omega) (by omega) (by omega) hA hB (by omega) ?_ ?_ ?_ ?_
  · omega
  · omega
  · omega
  · omega

/-- No edge parts two triangles (turned one way): then none lies wholly left of the other one. -/
theorem sat1 (P Q R U V W : P2) (hA : 0 < crp P Q R) (hB : 0 < crp U V W)
    (e1 : 0 ≤ crp P Q U ∨ 0 ≤ crp P Q V ∨ 0 ≤ crp P Q W) (e2 : 0 ≤ crp Q R U ∨ 0 ≤ crp Q R V ∨ 0 ≤ crp Q R W) (e3 : 0 ≤ crp R P U ∨ 0 ≤ crp R P V ∨ 0 ≤ crp R P W)
    (f1 : 0 ≤ crp U V P ∨ 0 ≤ crp U V Q ∨ 0 ≤ crp U V R) (f2 : 0 ≤ crp V W P ∨ 0 ≤ crp V W Q ∨ 0 ≤ crp V W R) (f3 : 0 ≤ crp W U P ∨ 0 ≤ crp W U Q ∨ 0 ≤ crp W U R) :
    ¬ (max (max P.x Q.x) R.x < min (min U.x V.x) W.x) := by
  intro h
  have hA2 : 0 < crp Q R P := by rw [← crp_cyc P Q R]; exact hA
  have hA3 : 0 < crp R P Q := by rw [← crp_cyc Q R P]; exact hA2
  have hB2 : 0 < crp V W U := by rw [← crp_cyc U V W]; exact hB
  have hB3 : 0 < crp W U V := by rw [← crp_cyc V W U]; exact hB2
  have r3 : ∀ {a b c : Prop}, a ∨ b ∨ c → b ∨ c ∨ a := fun h => by rcases h with h | h | h <;> simp [h]
  have s3 : ∀ {a b c : Prop}, a ∨ b ∨ c → c ∨ a ∨ b := fun h => by rcases h with h | h | h <;> simp [h]
  have ca : (Q.x ≤ P.x ∧ R.x ≤ P.x) ∨ (R.x ≤ Q.x ∧ P.x ≤ Q.x) ∨ (P.x ≤ R.x ∧ Q.x ≤ R.x) := by omega
  have cb : (U.x ≤ V.x ∧ U.x ≤ W.x) ∨ (V.x ≤ W.x ∧ V.x ≤ U.x) ∨ (W.x ≤ U.x ∧ W.x ≤ V.x) := by omega
  rcases ca with ⟨a1, a2⟩ | ⟨a1, a2⟩ | ⟨a1, a2⟩ <;> rcases cb with ⟨b1, b2⟩ | ⟨b1, b2⟩ | ⟨b1, b2⟩
  · exact satP P Q R U V W hA hB a1 a2 b1 b2 (by omega) e1 e3 f1 f3
  · exact satP P Q R V W U hA hB2 a1 a2 b1 b2 (by omega) (r3 e1) (r3 e3) f2 f1
  · exact satP P Q R W U V hA hB3 a1 a2 b1 b2 (by omega) (s3 e1) (s3 e3) f3 f2
  · exact satP Q R P U V W hA2 hB a1 a2 b1 b2 (by omega) e2 e1 (r3 f1) (r3 f3)
  · exact satP Q R P V W U hA2 hB2 a1 a2 b1 b2 (by omega) (r3 e2) (r3 e1) (r3 f2) (r3 f1)
  · exact satP Q R P W U V hA2 hB3 a1 a2 b1 b2 (by omega) (s3 e2) (s3 e1) (r3 f3) (r3 f2)
  · exact satP R P Q U V W hA3 hB a1 a2 b1 b2 (by omega) e3 e2 (s3 f1) (s3 f3)
  · exact satP R P Q V W U hA3 hB2 a1 a2 b1 b2 (by omega) (r3 e3) (r3 e2) (s3 f2) (s3 f1)
  · exact satP R P Q W U V hA3 hB3 a1 a2 b1 b2 (by omega) (s3 e3) (s3 e2) (s3 f3) (s3 f2)

/- A triangle of six numbers: which side of an edge, and how far. -/
def ab (t : List Int) : Int := if 0 < areaV t then areaV t else - areaV t
def cz (t : List Int) (i : Nat) (x y : Int) : Int := areaV [t.getD (2 * i) 0, t.getD (2 * i + 1) 0, t.getD ((2 * i + 2) % 6) 0, t.getD ((2 * i + 3) % 6) 0, x, y]
def ev (t : List Int) (i : Nat) (x y : Int) : Int := if 0 < areaV t then cz t i x y else - cz t i x y
theorem areaV6 (a b c d e f : Int) : areaV [a, b, c, d, e, f] = crp ⟨a, b⟩ ⟨c, d⟩ ⟨e, f⟩ := rfl
theorem ab_pos {t : List Int} (h : areaV t ≠ 0) : 0 < ab t := by unfold ab; split <;> omega
section
variable (t0 t1 t2 t3 t4 t5 x y : Int)
theorem ev_sum : ev [t0, t1, t2, t3, t4, t5] 0 x y + ev [t0, t1, t2, t3, t4, t5] 1 x y + ev [t0, t1, t2, t3, t4, t5] 2 x y = ab [t0, t1, t2, t3, t4, t5] := by
  have h : cz [t0, t1, t2, t3, t4, t5] 0 x y + cz [t0, t1, t2, t3, t4, t5] 1 x y + cz [t0, t1, t2, t3, t4, t5] 2 x y = areaV [t0, t1, t2, t3, t4, t5] := by
    show crp ⟨t0, t1⟩ ⟨t2, t3⟩ ⟨x, y⟩ + crp ⟨t2, t3⟩ ⟨t4, t5⟩ ⟨x, y⟩ + crp ⟨t4, t5⟩ ⟨t0, t1⟩ ⟨x, y⟩ = crp ⟨t0, t1⟩ ⟨t2, t3⟩ ⟨t4, t5⟩
    simp only [crp]; grind
  unfold ev ab; split <;> omega
theorem ev_x : ev [t0, t1, t2, t3, t4, t5] 0 x y * t4 + ev [t0, t1, t2, t3, t4, t5] 1 x y * t0 + ev [t0, t1, t2, t3, t4, t5] 2 x y * t2 = ab [t0, t1, t2, t3, t4, t5] * x := by
  have h : cz [t0, t1, t2, t3, t4, t5] 0 x y * t4 + cz [t0, t1, t2, t3, t4, t5] 1 x y * t0 + cz [t0, t1, t2, t3, t4, t5] 2 x y * t2 = areaV [t0, t1, t2, t3, t4, t5] * x := by
    show crp ⟨t0, t1⟩ ⟨t2, t3⟩ ⟨x, y⟩ * t4 + crp ⟨t2, t3⟩ ⟨t4, t5⟩ ⟨x, y⟩ * t0 + crp ⟨t4, t5⟩ ⟨t0, t1⟩ ⟨x, y⟩ * t2 = crp ⟨t0, t1⟩ ⟨t2, t3⟩ ⟨t4, t5⟩ * x
    simp only [crp]; grind
  unfold ev ab; split
  · exact h
  · simp only [Int.neg_mul]; omega
theorem ev_y : ev [t0, t1, t2, t3, t4, t5] 0 x y * t5 + ev [t0, t1, t2, t3, t4, t5] 1 x y * t1 + ev [t0, t1, t2, t3, t4, t5] 2 x y * t3 = ab [t0, t1, t2, t3, t4, t5] * y := by
  have h : cz [t0, t1, t2, t3, t4, t5] 0 x y * t5 + cz [t0, t1, t2, t3, t4, t5] 1 x y * t1 + cz [t0, t1, t2, t3, t4, t5] 2 x y * t3 = areaV [t0, t1, t2, t3, t4, t5] * y := by
    show crp ⟨t0, t1⟩ ⟨t2, t3⟩ ⟨x, y⟩ * t5 + crp ⟨t2, t3⟩ ⟨t4, t5⟩ ⟨x, y⟩ * t1 + crp ⟨t4, t5⟩ ⟨t0, t1⟩ ⟨x, y⟩ * t3 = crp ⟨t0, t1⟩ ⟨t2, t3⟩ ⟨t4, t5⟩ * y
    simp only [crp]; grind
  unfold ev ab; split
  · exact h
  · simp only [Int.neg_mul]; omega
end
theorem cz_aff (a b c d x y : Int) : areaV [a, b, c, d, x, y] = (b - d) * x + (c - a) * y + ((d - b) * a - (c - a) * b) := by
  show crp ⟨a, b⟩ ⟨c, d⟩ ⟨x, y⟩ = _
  simp only [crp]; grind
theorem ev_aff (t : List Int) (i : Nat) : ∃ α β γ : Int, ∀ x y, ev t i x y = α * x + β * y + γ := by
  unfold ev
  by_cases h : 0 < areaV t
  · simp only [if_pos h]
    exact ⟨_, _, _, fun x y => cz_aff _ _ _ _ x y⟩
  · simp only [if_neg h]
    refine ⟨-(t.getD (2 * i + 1) 0 - t.getD ((2 * i + 3) % 6) 0), -(t.getD ((2 * i + 2) % 6) 0 - t.getD (2 * i) 0), -((t.getD ((2 * i + 3) % 6) 0 - t.getD (2 * i + 1) 0) * t.getD (2 * i) 0 - (t.getD ((2 * i + 2) % 6) 0 - t.getD (2 * i) 0) * t.getD (2 * i + 1) 0), fun x y => ?_⟩
    unfold cz
    rw [cz_aff]
    grind
theorem combo (e0 e1 e2 D X0 X1 X2 Y0 Y1 Y2 px py α β γ : Int) (h0 : e0 + e1 + e2 = D) (hx : e0 * X2 + e1 * X0 + e2 * X1 = D * px) (hy : e0 * Y2 + e1 * Y0 + e2 * Y1 = D * py) :
    e0 * (α * X2 + β * Y2 + γ) + e1 * (α * X0 + β * Y0 + γ) + e2 * (α * X1 + β * Y1 + γ) = D * (α * px + β * py + γ) := by
  have h : e0 * (α * X2 + β * Y2 + γ) + e1 * (α * X0 + β * Y0 + γ) + e2 * (α * X1 + β * Y1 + γ) = α * (e0 * X2 + e1 * X0 + e2 * X1) + β * (e0 * Y2 + e1 * Y0 + e2 * Y1) + γ * (e0 + e1 + e2) := by grind
  rw [h, hx, hy, h0]; grind
/-- What an edge's side says of a point, it says of the corners, weighed. -/
theorem weigh (a : List Int) (i : Nat) (b0 b1 b2 b3 b4 b5 x y : Int) :
    ev [b0, b1, b2, b3, b4, b5] 0 x y * ev a i b4 b5 + ev [b0, b1, b2, b3, b4, b5] 1 x y * ev a i b0 b1 + ev [b0, b1, b2, b3, b4, b5] 2 x y * ev a i b2 b3 = ab [b0, b1, b2, b3, b4, b5] * ev a i x y := by
  obtain ⟨α, β, γ, h⟩ := ev_aff a i
  rw [h, h, h, h]
  exact combo _ _ _ _ _ _ _ _ _ _ _ _ _ _ _ (ev_sum ..) (ev_x ..) (ev_y ..)
theorem in_le {e0 e1 e2 g0 g1 g2 D g : Int} (h : e0 * g0 + e1 * g1 + e2 * g2 = D * g) (hD : 0 < D) (p0 : 0 ≤ e0) (p1 : 0 ≤ e1) (p2 : 0 ≤ e2) (q0 : g0 ≤ 0) (q1 : g1 ≤ 0) (q2 : g2 ≤ 0) : g ≤ 0 := by
  have := pn p0 q0; have := pn p1 q1; have := pn p2 q2
  exact ge_of (a := D) (by omega) hD
theorem in_lt {e0 e1 e2 g0 g1 g2 D g : Int} (h : e0 * g0 + e1 * g1 + e2 * g2 = D * g) (hs : e0 + e1 + e2 = D) (hD : 0 < D) (p0 : 0 ≤ e0) (p1 : 0 ≤ e1) (p2 : 0 ≤ e2) (q0 : g0 < 0) (q1 : g1 < 0) (q2 : g2 < 0) : g < 0 := by
  have a0 := pn p0 (show g0 ≤ 0 by omega); have a1 := pn p1 (show g1 ≤ 0 by omega); have a2 := pn p2 (show g2 ≤ 0 by omega)
  have hlt : e0 * g0 + e1 * g1 + e2 * g2 < 0 := by
    have hc : 0 < e0 ∨ 0 < e1 ∨ 0 < e2 := by omega
    rcases hc with c | c | c
    · have := pp c (show 0 < -g0 by omega); rw [Int.mul_neg] at this; omega
    · have := pp c (show 0 < -g1 by omega); rw [Int.mul_neg] at this; omega
    · have := pp c (show 0 < -g2 by omega); rw [Int.mul_neg] at this; omega
  apply Classical.byContradiction; intro hn
  have := nn (show 0 ≤ D by omega) (show 0 ≤ g by omega)
  omega
/-- What lies below 0 at a square's corners lies below 0 in it. -/
theorem sq_lt {α β γ x y s u v : Int} (h00 : α * x + β * y + γ < 0) (h10 : α * (x + s) + β * y + γ < 0) (h11 : α * (x + s) + β * (y + s) + γ < 0) (h01 : α * x + β * (y + s) + γ < 0)
    (hu : 0 ≤ u) (hu2 : u ≤ s) (hv : 0 ≤ v) (hv2 : v ≤ s) : α * (x + u) + β * (y + v) + γ < 0 := by
  simp only [Int.mul_add] at *
  have a1 : 0 ≤ α → α * u ≤ α * s := fun h => Int.mul_le_mul_of_nonneg_left hu2 h
  have a2 : α ≤ 0 → α * u ≤ 0 := fun h => np h hu
  have b1 : 0 ≤ β → β * v ≤ β * s := fun h => Int.mul_le_mul_of_nonneg_left hv2 h
  have b2 : β ≤ 0 → β * v ≤ 0 := fun h => np h hv
  rcases Int.le_total 0 α with c | c <;> rcases Int.le_total 0 β with d | d
  · have := a1 c; have := b1 d; omega
  · have := a1 c; have := b2 d; omega
  · have := a2 c; have := b1 d; omega
  · have := a2 c; have := b2 d; omega
theorem sq_ev (t : List Int) (i : Nat) {x y s u v : Int} (h00 : ev t i x y < 0) (h10 : ev t i (x + s) y < 0) (h11 : ev t i (x + s) (y + s) < 0) (h01 : ev t i x (y + s) < 0)
    (hu : 0 ≤ u) (hu2 : u ≤ s) (hv : 0 ≤ v) (hv2 : v ≤ s) : ev t i (x + u) (y + v) < 0 := by
  obtain ⟨α, β, γ, h⟩ := ev_aff t i
  rw [h] at h00 h10 h11 h01 ⊢
  exact sq_lt h00 h10 h11 h01 hu hu2 hv hv2
end Go.Proofs.Ytfpnkcmplmkghaa.Geo
