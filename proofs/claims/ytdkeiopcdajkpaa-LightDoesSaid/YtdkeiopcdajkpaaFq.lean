/- The laws of chapters 24 and 25: plain numbers. -/
import Derived.Test.YtdkeiopcdajkpaaFp
set_option linter.unusedVariables false
namespace Go.Proofs.Ytdkeiopcdajkpaa.Sx
open Go.RowKit

theorem lt_of_mul {r a b : Int} (hr : 0 ≤ r) (h : r * a < r * b) : a < b := Int.lt_of_mul_lt_mul_left h hr
/-- A part whose way is no longer than another one's is at most one longer. -/
theorem unit_le {p q r : Int} (hr : 0 < r) (h : (p ≤ q ∧ -p ≤ q) ∨ (p ≤ -q ∧ -p ≤ -q)) :
    (1048576 * p).fdiv r ≤ max ((1048576 * q).fdiv r) (-((1048576 * q).fdiv r)) + 1 ∧ -((1048576 * p).fdiv r) ≤ max ((1048576 * q).fdiv r) (-((1048576 * q).fdiv r)) + 1 := by
  have hp := fdiv_bds (1048576 * p) hr
  have hq := fdiv_bds (1048576 * q) hr
  generalize (1048576 * p).fdiv r = P at *
  generalize (1048576 * q).fdiv r = Q at *
  have e1 : r * (P + 1) = r * P + r := by grind
  have e2 : r * (Q + 1) = r * Q + r := by grind
  rcases h with h | h
  · have h1 : P < Q + 1 := lt_of_mul (Int.le_of_lt hr) (by omega)
    have e3 : r * (-P) = -(r * P) := by grind
    have e4 : r * (Q + 2) = r * Q + 2 * r := by grind
    have h2 : -P < Q + 2 := lt_of_mul (Int.le_of_lt hr) (by omega)
    omega
  · have e3 : r * (-Q + 1) = -(r * Q) + r := by grind
    have h1 : P < -Q + 1 := lt_of_mul (Int.le_of_lt hr) (by omega)
    have h2 : Q < P + 1 := lt_of_mul (Int.le_of_lt hr) (by omega)
    omega
theorem unit_big {q n r : Int} (h : Wh.Root (1048576 * n) r) (hn : 1 ≤ n) (hq : q * q ≤ n) (h3 : n ≤ 3 * (q * q)) :
    340000 ≤ Wh.fq (1048576 * q) r * Wh.fq (1048576 * q) r := by
  have hr : 1024 ≤ r := by have := root_ge (v := 1) h (by omega); omega
  rw [fq_pos (by omega)]
  obtain ⟨h0, h1, h2⟩ := h
  have hs : (584 * r) * (584 * r) = 341056 * (r * r) := by grind
  have ht : (1048576 * q) * (1048576 * q) = 1099511627776 * (q * q) := by grind
  have hk : (1048576 * -q) * (1048576 * -q) = 1099511627776 * (q * q) := by grind
  rcases Int.le_total 0 q with hc | hc
  · have h5 : 584 * r ≤ 1048576 * q := sqle (by omega) (by omega)
    have h6 := le_fdiv_of (a := 1048576 * q) (b := r) (q := 584) (by omega) (by omega)
    have := Wh.sq_mono (by decide) h6; omega
  · have h5 : 584 * r ≤ 1048576 * -q := sqle (by omega) (by omega)
    have h6 := fdiv_lt_of (a := 1048576 * q) (b := r) (q := -584) (by omega) (by omega)
    have := Wh.sq_mono (a := 584) (b := -((1048576 * q).fdiv r)) (by decide) (by omega)
    rw [Int.neg_mul_neg] at this; omega
theorem sq_le_of {a b : Int} (h : a ≤ b) (h2 : -a ≤ b) : a * a ≤ b * b := by
  rcases Int.le_total 0 a with hc | hc
  · exact Wh.sq_mono hc h
  · have := Wh.sq_mono (a := -a) (by omega) h2
    rw [Int.neg_mul_neg] at this; exact this
/-- The axis is a part that is farthest from 0. -/
theorem axis_max {x y z : Int} (hx : -1048576 ≤ x ∧ x ≤ 1048576) (hy : -1048576 ≤ y ∧ y ≤ 1048576) (hz : -1048576 ≤ z ∧ z ≤ 1048576) :
    (axis x y z = 0 ∧ low x ≤ low y ∧ low x ≤ low z) ∨ (axis x y z = 1 ∧ low y ≤ low x ∧ low y ≤ low z) ∨ (axis x y z = 2 ∧ low z ≤ low x ∧ low z ≤ low y) := by
  unfold axis; (repeat' split) <;> omega
theorem low_eq {x : Int} (hx : -1048576 ≤ x ∧ x ≤ 1048576) : low x = if 0 < x then -x else x := by
  unfold low; split
  · rw [wr (by omega)]; omega
  · rfl
/-- Of two parts: the second one is no nearer to 0. -/
def Far (p q : Int) : Prop := (p ≤ q ∧ -p ≤ q) ∨ (p ≤ -q ∧ -p ≤ -q)
theorem far_of {p q : Int} (hp : -1048576 ≤ p ∧ p ≤ 1048576) (hq : -1048576 ≤ q ∧ q ≤ 1048576) (h : low q ≤ low p) : Far p q := by
  rw [low_eq hp, low_eq hq] at h
  unfold Far
  split at h <;> split at h <;> omega
theorem far_sq {p q : Int} (h : Far p q) : p * p ≤ q * q := by
  rcases h with h | h
  · exact sq_le_of h.1 h.2
  · have := sq_le_of h.1 h.2
    rwa [Int.neg_mul_neg] at this
/-- What FrameUnit asks of the axis and another part. -/
theorem unit_rest {p q n r : Int} (h : Wh.Root (1048576 * n) r) (hn : 1 ≤ n) (hq : q * q ≤ n) (hf : Far p q) :
    Wh.fq (1048576 * p) r * Wh.fq (1048576 * p) r ≤ (max (Wh.fq (1048576 * q) r) (-Wh.fq (1048576 * q) r) + 1) * (max (Wh.fq (1048576 * q) r) (-Wh.fq (1048576 * q) r) + 1) := by
  have hr : 1024 ≤ r := by have := root_ge (v := 1) h (by omega); omega
  rw [fq_pos (by omega), fq_pos (by omega)]
  have := unit_le (p := p) (q := q) (r := r) (by omega) hf
  exact sq_le_of this.1 this.2
theorem un_parts {a b c r : Int} (h : Un a b c r) : a * a ≤ a * a + b * b + c * c ∧ b * b ≤ a * a + b * b + c * c ∧ c * c ≤ a * a + b * b + c * c := by
  have s0 := sq_bd1 h.b0; have s1 := sq_bd1 h.b1; have s2 := sq_bd1 h.b2
  omega
/-- A unit is not 0. -/
theorem uu_nz {a b c : Int} (h : ue [a, b, c] = 0) : ¬ (uv 0 [a, b, c] = 0 ∧ uv 1 [a, b, c] = 0 ∧ uv 2 [a, b, c] = 0) := by
  obtain ⟨u, he⟩ := ue_ok h
  have hp := un_parts u
  have hn := u.n
  obtain ⟨h0, h1, h2, hpos, -⟩ := u
  rintro ⟨z0, z1, z2⟩
  simp only [uv, he, if_true, uq, List.getD_cons_zero, List.getD_cons_succ] at z0 z1 z2
  rcases axis_max h0 h1 h2 with ⟨-, k1, k2⟩ | ⟨-, k1, k2⟩ | ⟨-, k1, k2⟩
  · have f1 := far_sq (far_of h1 h0 k1); have f2 := far_sq (far_of h2 h0 k2)
    have := unit_big (q := a) hn hpos (by omega) (by omega)
    rw [z0] at this; omega
  · have f1 := far_sq (far_of h0 h1 k1); have f2 := far_sq (far_of h2 h1 k2)
    have := unit_big (q := b) hn hpos (by omega) (by omega)
    rw [z1] at this; omega
  · have f1 := far_sq (far_of h0 h2 k1); have f2 := far_sq (far_of h1 h2 k2)
    have := unit_big (q := c) hn hpos (by omega) (by omega)
    rw [z2] at this; omega
/-- Three numbers near, not all 0, have a unit. -/
theorem ue_zero {a b c : Int} (h0 : -1048576 ≤ a ∧ a ≤ 1048576) (h1 : -1048576 ≤ b ∧ b ≤ 1048576) (h2 : -1048576 ≤ c ∧ c ≤ 1048576) (hz : ¬ (a = 0 ∧ b = 0 ∧ c = 0)) : ue [a, b, c] = 0 := by
  have n0 : nr a = true := by simp [nr]; omega
  have n1 : nr b = true := by simp [nr]; omega
  have n2 : nr c = true := by simp [nr]; omega
  have z : z3 [a, b, c] = false := by simp [z3]; omega
  simp [ue, n0, n1, n2, z]
/-- The cross of a unit with an axis has a unit. -/
theorem tc_ue {a b c : Int} (h : ue [a, b, c] = 0) : ue (tc (uu [a, b, c])) = 0 := by
  have nz := uu_nz h
  have u0 := uv_bd a b c 0 (by decide); have u1 := uv_bd a b c 1 (by decide); have u2 := uv_bd a b c 2 (by decide)
  unfold uu tc
  simp only [List.getD_cons_zero, List.getD_cons_succ]
  generalize uv 0 [a, b, c] = x at *
  generalize uv 1 [a, b, c] = y at *
  generalize uv 2 [a, b, c] = z at *
  have l0 := low_eq (x := x) (by omega)
  have l1 := low_eq (x := y) (by omega)
  have l2 := low_eq (x := z) (by omega)
  rcases axis_max (x := x) (y := y) (z := z) (by omega) (by omega) (by omega) with ⟨ha, k1, k2⟩ | ⟨ha, k1, k2⟩ | ⟨ha, k1, k2⟩
  · rw [if_neg (by omega), if_pos ha]
    exact ue_zero (by omega) (by omega) (by omega) (by split at l0 <;> split at l1 <;> split at l2 <;> omega)
  · rw [if_neg (by omega), if_neg (by omega)]
    exact ue_zero (by omega) (by omega) (by omega) (by split at l0 <;> split at l1 <;> split at l2 <;> omega)
  · rw [if_pos ha]
    exact ue_zero (by omega) (by omega) (by omega) (by split at l0 <;> split at l1 <;> split at l2 <;> omega)
theorem te_ue (a b c : Int) : te [a, b, c] = ue [a, b, c] := by
  unfold te
  split
  · rename_i h; rw [tc_ue h, h]
  · rfl
/-- The cross stands square to the unit. -/
theorem tc_dot (x y z : Int) : ∃ p q s, tc [x, y, z] = [p, q, s] ∧ p * x + q * y + s * z = 0 := by
  unfold tc
  simp only [List.getD_cons_zero, List.getD_cons_succ]
  (repeat' split)
  · exact ⟨_, _, _, rfl, by grind⟩
  · exact ⟨_, _, _, rfl, by grind⟩
  · exact ⟨_, _, _, rfl, by grind⟩
/-- Three parts rounded down, against three of at most 1024: square but for the rest. -/
theorem sq_rest {r x0 x1 x2 y0 y1 y2 P0 P1 P2 : Int} (hr : 0 < r) (h0 : r * P0 ≤ x0 ∧ x0 < r * (P0 + 1)) (h1 : r * P1 ≤ x1 ∧ x1 < r * (P1 + 1)) (h2 : r * P2 ≤ x2 ∧ x2 < r * (P2 + 1))
    (b0 : -1024 ≤ y0 ∧ y0 ≤ 1024) (b1 : -1024 ≤ y1 ∧ y1 ≤ 1024) (b2 : -1024 ≤ y2 ∧ y2 ≤ 1024) (D : Int) (hd : x0 * y0 + x1 * y1 + x2 * y2 = D) :
    D - 3072 * r ≤ r * (P0 * y0 + P1 * y1 + P2 * y2) ∧ r * (P0 * y0 + P1 * y1 + P2 * y2) ≤ D + 3072 * r := by
  have e0 : r * (P0 + 1) = r * P0 + r := by grind
  have e1 : r * (P1 + 1) = r * P1 + r := by grind
  have e2 : r * (P2 + 1) = r * P2 + r := by grind
  have key : ∀ {d y : Int}, 0 ≤ d → d < r → -1024 ≤ y ∧ y ≤ 1024 → -(1024 * r) ≤ d * y ∧ d * y ≤ 1024 * r := by
    intro d y hd0 hd1 hy
    have k1 := Int.mul_le_mul_of_nonneg_left hy.2 hd0
    have k2 := Int.mul_le_mul_of_nonneg_left hy.1 hd0
    omega
  have k0 := key (d := x0 - r * P0) (by omega) (by omega) b0
  have k1 := key (d := x1 - r * P1) (by omega) (by omega) b1
  have k2 := key (d := x2 - r * P2) (by omega) (by omega) b2
  have e : r * (P0 * y0 + P1 * y1 + P2 * y2) = D - ((x0 - r * P0) * y0 + (x1 - r * P1) * y1 + (x2 - r * P2) * y2) := by grind
  omega
/-- What is known of a unit's parts. -/
theorem uv_bds {a b c : Int} (h : ue [a, b, c] = 0) : ∃ r, 0 < r ∧ (r * uv 0 [a, b, c] ≤ 1048576 * a ∧ 1048576 * a < r * (uv 0 [a, b, c] + 1)) ∧ (r * uv 1 [a, b, c] ≤ 1048576 * b ∧ 1048576 * b < r * (uv 1 [a, b, c] + 1)) ∧ (r * uv 2 [a, b, c] ≤ 1048576 * c ∧ 1048576 * c < r * (uv 2 [a, b, c] + 1)) := by
  obtain ⟨u, he⟩ := ue_ok h
  have hn := u.n
  obtain ⟨h0, h1, h2, hpos, -⟩ := u
  have hr : 1024 ≤ Wh.sqC (1048576 * n2 [a, b, c]) := by have := root_ge (v := 1) hn (by omega); omega
  refine ⟨Wh.sqC (1048576 * n2 [a, b, c]), by omega, ?_⟩
  simp only [uv, he, if_true, uq, List.getD_cons_zero, List.getD_cons_succ]
  rw [fq_pos (by omega), fq_pos (by omega), fq_pos (by omega)]
  exact ⟨fdiv_bds _ (by omega), fdiv_bds _ (by omega), fdiv_bds _ (by omega)⟩
/-- A unit along an axis. -/
theorem sqC_1024 {n : Int} (h : 1 ≤ n ∧ n ≤ 1048576) : Wh.sqC (1048576 * (n * n)) = 1024 * n := by
  have s := sq_bd1 (x := n) (by omega)
  rw [← Wh.rt_sqC (by omega) (by omega)]
  refine Wh.rt_eq ⟨by omega, ?_, ?_⟩
  · have : 1024 * n * (1024 * n) = 1048576 * (n * n) := by grind
    omega
  · have : (1024 * n + 1) * (1024 * n + 1) = 1048576 * (n * n) + 2048 * n + 1 := by grind
    omega
theorem fq_along {n : Int} (h : 1 ≤ n ∧ n ≤ 1048576) : Wh.fq (1048576 * n) (1024 * n) = 1024 := by
  rw [fq_pos (by omega)]
  have h1 := le_fdiv_of (a := 1048576 * n) (b := 1024 * n) (q := 1024) (by omega) (by omega)
  have h2 := fdiv_lt_of (a := 1048576 * n) (b := 1024 * n) (q := 1024) (by omega) (by omega)
  omega
theorem fq_zero {n : Int} (h : 0 < n) : Wh.fq 0 n = 0 := by rw [fq_pos h]; simp
theorem fq_1024_mul (x : Int) : Wh.fq (x * 1024) 1024 = x := by
  rw [fq_pos (by decide)]; exact Int.mul_fdiv_cancel x (by decide)
theorem sqC_square : Wh.sqC 1048576 = 1024 := by
  have := sqC_1024 (n := 1) (by decide); simpa using this
end Go.Proofs.Ytdkeiopcdajkpaa.Sx
