/- What a way that hits a triangle tells: weights. Plain numbers. -/
import Derived.Test.YtfpnkcmplmkghaaMu
set_option linter.unusedVariables false
namespace Go.Proofs.Ytfpnkcmplmkghaa.Sx
open Go.RowKit

theorem vol_sum (a0 a1 a2 a3 a4 a5 a6 a7 a8 a9 a10 a11 a12 a13 a14 : Int) : volV [a0, a1, a2, a3, a4, a5, a6, a7, a8, a9, a10, a11] + volV [a0, a1, a2, a3, a4, a5, a9, a10, a11, a12, a13, a14] + volV [a0, a1, a2, a3, a4, a5, a12, a13, a14, a6, a7, a8] = volV [a6, a7, a8, a9, a10, a11, a12, a13, a14, a3, a4, a5] - volV [a6, a7, a8, a9, a10, a11, a12, a13, a14, a0, a1, a2] := by
    simp only [nx, ny, nz, volV, cr2, List.getD_cons_zero, List.getD_cons_succ]
    grind

theorem vol_at0 (a0 a1 a2 a3 a4 a5 a6 a7 a8 a9 a10 a11 a12 a13 a14 : Int) : volV [a0, a1, a2, a3, a4, a5, a9, a10, a11, a12, a13, a14] * a6 + volV [a0, a1, a2, a3, a4, a5, a12, a13, a14, a6, a7, a8] * a9 + volV [a0, a1, a2, a3, a4, a5, a6, a7, a8, a9, a10, a11] * a12 = volV [a6, a7, a8, a9, a10, a11, a12, a13, a14, a3, a4, a5] * a0 - volV [a6, a7, a8, a9, a10, a11, a12, a13, a14, a0, a1, a2] * a3 := by
    simp only [nx, ny, nz, volV, cr2, List.getD_cons_zero, List.getD_cons_succ]
    grind

theorem vol_at1 (a0 a1 a2 a3 a4 a5 a6 a7 a8 a9 a10 a11 a12 a13 a14 : Int) : volV [a0, a1, a2, a3, a4, a5, a9, a10, a11, a12, a13, a14] * a7 + volV [a0, a1, a2, a3, a4, a5, a12, a13, a14, a6, a7, a8] * a10 + volV [a0, a1, a2, a3, a4, a5, a6, a7, a8, a9, a10, a11] * a13 = volV [a6, a7, a8, a9, a10, a11, a12, a13, a14, a3, a4, a5] * a1 - volV [a6, a7, a8, a9, a10, a11, a12, a13, a14, a0, a1, a2] * a4 := by
    simp only [nx, ny, nz, volV, cr2, List.getD_cons_zero, List.getD_cons_succ]
    grind

theorem vol_at2 (a0 a1 a2 a3 a4 a5 a6 a7 a8 a9 a10 a11 a12 a13 a14 : Int) : volV [a0, a1, a2, a3, a4, a5, a9, a10, a11, a12, a13, a14] * a8 + volV [a0, a1, a2, a3, a4, a5, a12, a13, a14, a6, a7, a8] * a11 + volV [a0, a1, a2, a3, a4, a5, a6, a7, a8, a9, a10, a11] * a14 = volV [a6, a7, a8, a9, a10, a11, a12, a13, a14, a3, a4, a5] * a2 - volV [a6, a7, a8, a9, a10, a11, a12, a13, a14, a0, a1, a2] * a5 := by
    simp only [nx, ny, nz, volV, cr2, List.getD_cons_zero, List.getD_cons_succ]
    grind

/-- Weights: a point of the triangle that lies on the way. -/
structure Wt (a0 a1 a2 b0 b1 b2 t0 t1 t2 t3 t4 t5 t6 t7 t8 p q r α β : Int) : Prop where
  hp : 0 ≤ p
  hq : 0 ≤ q
  hr : 0 ≤ r
  ha : 0 < α
  hb : 0 < β
  sum : p + q + r = α + β
  e0 : p * t0 + q * t3 + r * t6 = β * a0 + α * b0
  e1 : p * t1 + q * t4 + r * t7 = β * a1 + α * b1
  e2 : p * t2 + q * t5 + r * t8 = β * a2 + α * b2
theorem hit_wt {a0 a1 a2 a3 a4 a5 a6 a7 a8 a9 a10 a11 a12 a13 a14 : Int} (h : hitB (volV [a6, a7, a8, a9, a10, a11, a12, a13, a14, a0, a1, a2]) (volV [a6, a7, a8, a9, a10, a11, a12, a13, a14, a3, a4, a5]) (volV [a0, a1, a2, a3, a4, a5, a6, a7, a8, a9, a10, a11]) (volV [a0, a1, a2, a3, a4, a5, a9, a10, a11, a12, a13, a14]) (volV [a0, a1, a2, a3, a4, a5, a12, a13, a14, a6, a7, a8]) = true) : (sgn (volV [a6, a7, a8, a9, a10, a11, a12, a13, a14, a0, a1, a2]) * sgn (volV [a6, a7, a8, a9, a10, a11, a12, a13, a14, a3, a4, a5]) = -1) ∧ ∃ p q r α β, Wt a0 a1 a2 a3 a4 a5 a6 a7 a8 a9 a10 a11 a12 a13 a14 p q r α β := by
  have s := vol_sum a0 a1 a2 a3 a4 a5 a6 a7 a8 a9 a10 a11 a12 a13 a14
  have e0 := vol_at0 a0 a1 a2 a3 a4 a5 a6 a7 a8 a9 a10 a11 a12 a13 a14
  have e1 := vol_at1 a0 a1 a2 a3 a4 a5 a6 a7 a8 a9 a10 a11 a12 a13 a14
  have e2 := vol_at2 a0 a1 a2 a3 a4 a5 a6 a7 a8 a9 a10 a11 a12 a13 a14
  generalize volV [a6, a7, a8, a9, a10, a11, a12, a13, a14, a0, a1, a2] = A at *
  generalize volV [a6, a7, a8, a9, a10, a11, a12, a13, a14, a3, a4, a5] = B at *
  generalize volV [a0, a1, a2, a3, a4, a5, a6, a7, a8, a9, a10, a11] = x at *
  generalize volV [a0, a1, a2, a3, a4, a5, a9, a10, a11, a12, a13, a14] = y at *
  generalize volV [a0, a1, a2, a3, a4, a5, a12, a13, a14, a6, a7, a8] = z at *
  have h' : ((A < 0 ∧ 0 < B) ∨ (0 < A ∧ B < 0)) ∧ ((0 ≤ x ∧ 0 ≤ y ∧ 0 ≤ z) ∨ (x ≤ 0 ∧ y ≤ 0 ∧ z ≤ 0)) := by
    simpa [hitB, and_assoc] using h
  obtain ⟨hs, hv⟩ := h'
  rcases hs with ⟨hA, hB⟩ | ⟨hA, hB⟩
  · refine ⟨by simp [sgn, hA, hB, show ¬ B < 0 by omega], y, z, x, -A, B, by omega, by omega, by omega, by omega, by omega, by omega, ?_, ?_, ?_⟩ <;> grind
  · refine ⟨by simp [sgn, hA, hB, show ¬ A < 0 by omega], -y, -z, -x, A, -B, by omega, by omega, by omega, by omega, by omega, by omega, ?_, ?_, ?_⟩ <;> grind

theorem sep {p q r α β a b t0 t1 t2 : Int} (hp : 0 ≤ p) (hq : 0 ≤ q) (hr : 0 ≤ r) (ha : 0 < α) (hb : 0 < β) (s : p + q + r = α + β) (e : p * t0 + q * t1 + r * t2 = β * a + α * b) (m M : Int)
    (h0 : m ≤ t0 ∧ t0 ≤ M) (h1 : m ≤ t1 ∧ t1 ≤ M) (h2 : m ≤ t2 ∧ t2 ≤ M) : ¬ (a < m ∧ b < m) ∧ ¬ (M < a ∧ M < b) := by
  have f0 := Int.mul_le_mul_of_nonneg_left h0.1 hp; have f1 := Int.mul_le_mul_of_nonneg_left h1.1 hq; have f2 := Int.mul_le_mul_of_nonneg_left h2.1 hr
  have g0 := Int.mul_le_mul_of_nonneg_left h0.2 hp; have g1 := Int.mul_le_mul_of_nonneg_left h1.2 hq; have g2 := Int.mul_le_mul_of_nonneg_left h2.2 hr
  have em : p * m + q * m + r * m = β * m + α * m := by have : (p + q + r) * m = (α + β) * m := by rw [s]
                                                        grind
  have eM : p * M + q * M + r * M = β * M + α * M := by have : (p + q + r) * M = (α + β) * M := by rw [s]
                                                        grind
  constructor
  · rintro ⟨ka, kb⟩
    have u := Int.mul_lt_mul_of_pos_left ka hb; have v := Int.mul_lt_mul_of_pos_left kb ha
    omega
  · rintro ⟨ka, kb⟩
    have u := Int.mul_lt_mul_of_pos_left ka hb; have v := Int.mul_lt_mul_of_pos_left kb ha
    omega
theorem sep' {p q r α β a b t0 t1 t2 : Int} (hp : 0 ≤ p) (hq : 0 ≤ q) (hr : 0 ≤ r) (ha : 0 < α) (hb : 0 < β) (s : p + q + r = α + β) (e : p * t0 + q * t1 + r * t2 = β * a + α * b) :
    ¬ max a b < min (min t0 t1) t2 ∧ ¬ max (max t0 t1) t2 < min a b := by
  have h := sep hp hq hr ha hb s e (min (min t0 t1) t2) (max (max t0 t1) t2) (by omega) (by omega) (by omega)
  omega

def dt (a b c d e f g h i : Int) : Int := a * (e * i - f * h) + b * (f * g - d * i) + c * (d * h - e * g)
theorem th_A (s0 s1 s2 s3 s4 s5 s6 s7 s8 p0 p1 p2 d0 d1 d2 : Int) : volV [s0, s1, s2, s3, s4, s5, s6, s7, s8, p0 - d0, p1 - d1, p2 - d2] = -(dt d0 d1 d2 (s0 - p0) (s1 - p1) (s2 - p2) (s3 - p0) (s4 - p1) (s5 - p2) + dt d0 d1 d2 (s3 - p0) (s4 - p1) (s5 - p2) (s6 - p0) (s7 - p1) (s8 - p2) + dt d0 d1 d2 (s6 - p0) (s7 - p1) (s8 - p2) (s0 - p0) (s1 - p1) (s2 - p2)) - dt (s0 - p0) (s1 - p1) (s2 - p2) (s3 - p0) (s4 - p1) (s5 - p2) (s6 - p0) (s7 - p1) (s8 - p2) := by
  simp only [nx, ny, nz, volV, dt, cr2, List.getD_cons_zero, List.getD_cons_succ]
  grind

theorem th_B (s0 s1 s2 s3 s4 s5 s6 s7 s8 p0 p1 p2 d0 d1 d2 : Int) : volV [s0, s1, s2, s3, s4, s5, s6, s7, s8, p0 + d0, p1 + d1, p2 + d2] = (dt d0 d1 d2 (s0 - p0) (s1 - p1) (s2 - p2) (s3 - p0) (s4 - p1) (s5 - p2) + dt d0 d1 d2 (s3 - p0) (s4 - p1) (s5 - p2) (s6 - p0) (s7 - p1) (s8 - p2) + dt d0 d1 d2 (s6 - p0) (s7 - p1) (s8 - p2) (s0 - p0) (s1 - p1) (s2 - p2)) - dt (s0 - p0) (s1 - p1) (s2 - p2) (s3 - p0) (s4 - p1) (s5 - p2) (s6 - p0) (s7 - p1) (s8 - p2) := by
  simp only [nx, ny, nz, volV, dt, cr2, List.getD_cons_zero, List.getD_cons_succ]
  grind

theorem th_C (s0 s1 s2 s3 s4 s5 s6 s7 s8 p0 p1 p2 d0 d1 d2 : Int) : volV [s0, s1, s2, s3, s4, s5, s6, s7, s8, p0 + 3 * d0, p1 + 3 * d1, p2 + 3 * d2] = 3 * (dt d0 d1 d2 (s0 - p0) (s1 - p1) (s2 - p2) (s3 - p0) (s4 - p1) (s5 - p2) + dt d0 d1 d2 (s3 - p0) (s4 - p1) (s5 - p2) (s6 - p0) (s7 - p1) (s8 - p2) + dt d0 d1 d2 (s6 - p0) (s7 - p1) (s8 - p2) (s0 - p0) (s1 - p1) (s2 - p2)) - dt (s0 - p0) (s1 - p1) (s2 - p2) (s3 - p0) (s4 - p1) (s5 - p2) (s6 - p0) (s7 - p1) (s8 - p2) := by
  simp only [nx, ny, nz, volV, dt, cr2, List.getD_cons_zero, List.getD_cons_succ]
  grind

theorem th_r0 (s0 s1 s2 s3 s4 s5 s6 s7 s8 p0 p1 p2 d0 d1 d2 : Int) : volV [p0 - d0, p1 - d1, p2 - d2, p0 + d0, p1 + d1, p2 + d2, s0, s1, s2, s3, s4, s5] = 2 * dt d0 d1 d2 (s0 - p0) (s1 - p1) (s2 - p2) (s3 - p0) (s4 - p1) (s5 - p2) := by
  simp only [nx, ny, nz, volV, dt, cr2, List.getD_cons_zero, List.getD_cons_succ]
  grind

theorem th_q0 (s0 s1 s2 s3 s4 s5 s6 s7 s8 p0 p1 p2 d0 d1 d2 : Int) : volV [p0 - d0, p1 - d1, p2 - d2, p0 + 3 * d0, p1 + 3 * d1, p2 + 3 * d2, s0, s1, s2, s3, s4, s5] = 4 * dt d0 d1 d2 (s0 - p0) (s1 - p1) (s2 - p2) (s3 - p0) (s4 - p1) (s5 - p2) := by
  simp only [nx, ny, nz, volV, dt, cr2, List.getD_cons_zero, List.getD_cons_succ]
  grind

theorem th_r1 (s0 s1 s2 s3 s4 s5 s6 s7 s8 p0 p1 p2 d0 d1 d2 : Int) : volV [p0 - d0, p1 - d1, p2 - d2, p0 + d0, p1 + d1, p2 + d2, s3, s4, s5, s6, s7, s8] = 2 * dt d0 d1 d2 (s3 - p0) (s4 - p1) (s5 - p2) (s6 - p0) (s7 - p1) (s8 - p2) := by
  simp only [nx, ny, nz, volV, dt, cr2, List.getD_cons_zero, List.getD_cons_succ]
  grind

theorem th_q1 (s0 s1 s2 s3 s4 s5 s6 s7 s8 p0 p1 p2 d0 d1 d2 : Int) : volV [p0 - d0, p1 - d1, p2 - d2, p0 + 3 * d0, p1 + 3 * d1, p2 + 3 * d2, s3, s4, s5, s6, s7, s8] = 4 * dt d0 d1 d2 (s3 - p0) (s4 - p1) (s5 - p2) (s6 - p0) (s7 - p1) (s8 - p2) := by
  simp only [nx, ny, nz, volV, dt, cr2, List.getD_cons_zero, List.getD_cons_succ]
  grind

theorem th_r2 (s0 s1 s2 s3 s4 s5 s6 s7 s8 p0 p1 p2 d0 d1 d2 : Int) : volV [p0 - d0, p1 - d1, p2 - d2, p0 + d0, p1 + d1, p2 + d2, s6, s7, s8, s0, s1, s2] = 2 * dt d0 d1 d2 (s6 - p0) (s7 - p1) (s8 - p2) (s0 - p0) (s1 - p1) (s2 - p2) := by
  simp only [nx, ny, nz, volV, dt, cr2, List.getD_cons_zero, List.getD_cons_succ]
  grind

theorem th_q2 (s0 s1 s2 s3 s4 s5 s6 s7 s8 p0 p1 p2 d0 d1 d2 : Int) : volV [p0 - d0, p1 - d1, p2 - d2, p0 + 3 * d0, p1 + 3 * d1, p2 + 3 * d2, s6, s7, s8, s0, s1, s2] = 4 * dt d0 d1 d2 (s6 - p0) (s7 - p1) (s8 - p2) (s0 - p0) (s1 - p1) (s2 - p2) := by
  simp only [nx, ny, nz, volV, dt, cr2, List.getD_cons_zero, List.getD_cons_succ]
  grind

theorem dt_rel {u v w d0 d1 d2 x0 x1 x2 y0 y1 y2 z0 z1 z2 : Int} (h0 : u * x0 + v * y0 + w * z0 = 0) (h1 : u * x1 + v * y1 + w * z1 = 0) (h2 : u * x2 + v * y2 + w * z2 = 0) :
    u * dt d0 d1 d2 x0 x1 x2 y0 y1 y2 = w * dt d0 d1 d2 y0 y1 y2 z0 z1 z2 ∧ v * dt d0 d1 d2 y0 y1 y2 z0 z1 z2 = u * dt d0 d1 d2 z0 z1 z2 x0 x1 x2 ∧ w * dt d0 d1 d2 z0 z1 z2 x0 x1 x2 = v * dt d0 d1 d2 x0 x1 x2 y0 y1 y2 ∧
    u * dt x0 x1 x2 y0 y1 y2 z0 z1 z2 = 0 ∧ v * dt x0 x1 x2 y0 y1 y2 z0 z1 z2 = 0 ∧ w * dt x0 x1 x2 y0 y1 y2 z0 z1 z2 = 0 := by
  have m : ∀ c, (u * x0 + v * y0 + w * z0) * c = 0 := fun c => by rw [h0]; simp
  have n : ∀ c, (u * x1 + v * y1 + w * z1) * c = 0 := fun c => by rw [h1]; simp
  have o : ∀ c, (u * x2 + v * y2 + w * z2) * c = 0 := fun c => by rw [h2]; simp
  unfold dt
  refine ⟨?_, ?_, ?_, ?_, ?_, ?_⟩
  · have a := m (y1 * d2 - y2 * d1); have b := n (y2 * d0 - y0 * d2); have c := o (y0 * d1 - y1 * d0); grind
  · have a := m (z1 * d2 - z2 * d1); have b := n (z2 * d0 - z0 * d2); have c := o (z0 * d1 - z1 * d0); grind
  · have a := m (x1 * d2 - x2 * d1); have b := n (x2 * d0 - x0 * d2); have c := o (x0 * d1 - x1 * d0); grind
  · have a := m (y1 * z2 - y2 * z1); have b := n (y2 * z0 - y0 * z2); have c := o (y0 * z1 - y1 * z0); grind
  · have a := m (z1 * x2 - z2 * x1); have b := n (z2 * x0 - z0 * x2); have c := o (z0 * x1 - z1 * x0); grind
  · have a := m (x1 * y2 - x2 * y1); have b := n (x2 * y0 - x0 * y2); have c := o (x0 * y1 - x1 * y0); grind
/-- A way through a point told by weights. -/
theorem through {u v w A B C x y z x' y' z' D0 D1 D2 De : Int} (hu : 0 ≤ u) (hv : 0 ≤ v) (hw : 0 ≤ w) (h8 : u + v + w = 8)
    (hA : A = -(D0 + D1 + D2) - De) (hB : B = (D0 + D1 + D2) - De) (hC : C = 3 * (D0 + D1 + D2) - De) (hx : x = 2 * D0) (hy : y = 2 * D1) (hz : z = 2 * D2) (hx' : x' = 4 * D0) (hy' : y' = 4 * D1) (hz' : z' = 4 * D2)
    (k : u * D0 = w * D1 ∧ v * D1 = u * D2 ∧ w * D2 = v * D0 ∧ u * De = 0 ∧ v * De = 0 ∧ w * De = 0) : hitB A B x y z = !(A == 0) ∧ hitB A C x' y' z' = !(A == 0) := by
  obtain ⟨k0, k1, k2, k3, k4, k5⟩ := k
  have z8 : 8 * De = 0 := by rw [← h8]; grind
  have z0 : De = 0 := by omega
  have w1 : 8 * D1 = u * (D0 + D1 + D2) := by rw [← h8]; grind
  have w2 : 8 * D2 = v * (D0 + D1 + D2) := by rw [← h8]; grind
  have w0 : 8 * D0 = w * (D0 + D1 + D2) := by rw [← h8]; grind
  subst z0
  generalize hS : D0 + D1 + D2 = S at *
  have key : (S = 0 ∧ D0 = 0 ∧ D1 = 0 ∧ D2 = 0) ∨ (0 < S ∧ 0 ≤ D0 ∧ 0 ≤ D1 ∧ 0 ≤ D2) ∨ (S < 0 ∧ D0 ≤ 0 ∧ D1 ≤ 0 ∧ D2 ≤ 0) := by
    rcases Int.lt_trichotomy S 0 with h | h | h
    · have := Int.mul_nonneg hu (show 0 ≤ -S by omega); have := Int.mul_nonneg hv (show 0 ≤ -S by omega); have := Int.mul_nonneg hw (show 0 ≤ -S by omega)
      rw [Int.mul_neg] at *
      right; right; omega
    · subst h; simp only [Int.mul_zero] at w0 w1 w2; left; omega
    · have := Int.mul_nonneg hu (Int.le_of_lt h); have := Int.mul_nonneg hv (Int.le_of_lt h); have := Int.mul_nonneg hw (Int.le_of_lt h)
      right; left; omega
  clear w0 w1 w2 k0 k1 k2 k3 k4 k5
  subst hA hB hC hx hy hz hx' hy' hz'
  unfold hitB
  constructor <;> (rw [Bool.eq_iff_iff]; simp only [Bool.and_eq_true, Bool.or_eq_true, decide_eq_true_eq, Bool.not_eq_true', beq_eq_false_iff_ne]; omega)
end Go.Proofs.Ytfpnkcmplmkghaa.Sx
