/- The frame of a way: what stands square, plain numbers. -/
import Derived.Test.YtdkeiopcdajkpaaFq
import Derived.Test.YtdkeiopcdajkpaaM3
set_option linter.unusedVariables false
namespace Go.Proofs.Ytdkeiopcdajkpaa.Sx
open Go.RowKit

theorem abs_of_mul {r x m : Int} (hr : 0 < r) (h : -(m * r) ≤ r * x ∧ r * x ≤ m * r) : -m ≤ x ∧ x ≤ m := by
  constructor
  · have : r * -m ≤ r * x := by have : r * -m = -(m * r) := by grind
                                omega
    exact Int.le_of_mul_le_mul_left this hr
  · have : r * x ≤ r * m := by have : r * m = m * r := by grind
                               omega
    exact Int.le_of_mul_le_mul_left this hr
structure Fr (u0 u1 u2 t0 t1 t2 b0 b1 b2 : Int) : Prop where
  hu0 : -1024 ≤ u0 ∧ u0 ≤ 1024
  hu1 : -1024 ≤ u1 ∧ u1 ≤ 1024
  hu2 : -1024 ≤ u2 ∧ u2 ≤ 1024
  ht0 : -1024 ≤ t0 ∧ t0 ≤ 1024
  ht1 : -1024 ≤ t1 ∧ t1 ≤ 1024
  ht2 : -1024 ≤ t2 ∧ t2 ≤ 1024
  hb0 : -2048 ≤ b0 ∧ b0 ≤ 2048
  hb1 : -2048 ≤ b1 ∧ b1 ≤ 2048
  hb2 : -2048 ≤ b2 ∧ b2 ≤ 2048
  ut : -3072 ≤ u0 * t0 + u1 * t1 + u2 * t2 ∧ u0 * t0 + u1 * t1 + u2 * t2 ≤ 3072
  ub : -3072 ≤ u0 * b0 + u1 * b1 + u2 * b2 ∧ u0 * b0 + u1 * b1 + u2 * b2 ≤ 3072
  tb : -3072 ≤ t0 * b0 + t1 * b1 + t2 * b2 ∧ t0 * b0 + t1 * b1 + t2 * b2 ≤ 3072
theorem frame_of {a b c : Int} (h : te [a, b, c] = 0) : ∃ u0 u1 u2 t0 t1 t2 b0 b1 b2, fv 0 [a, b, c] = u0 ∧ fv 1 [a, b, c] = u1 ∧ fv 2 [a, b, c] = u2 ∧ fv 3 [a, b, c] = t0 ∧ fv 4 [a, b, c] = t1 ∧ fv 5 [a, b, c] = t2 ∧ fv 6 [a, b, c] = b0 ∧ fv 7 [a, b, c] = b1 ∧ fv 8 [a, b, c] = b2 ∧ Fr u0 u1 u2 t0 t1 t2 b0 b1 b2 := by
  have hu : ue [a, b, c] = 0 := by rw [← te_ue]; exact h
  have hc := tc_ue hu
  have bu := fun k hk => uv_bd a b c k hk
  have bv := fun k hk => fv_bd a b c k hk
  have v0 : fv 0 [a, b, c] = uv 0 [a, b, c] := by simp [fv, h]
  have v1 : fv 1 [a, b, c] = uv 1 [a, b, c] := by simp [fv, h]
  have v2 : fv 2 [a, b, c] = uv 2 [a, b, c] := by simp [fv, h]
  obtain ⟨p, q, s, ht, hd⟩ := tc_dot (uv 0 [a, b, c]) (uv 1 [a, b, c]) (uv 2 [a, b, c])
  have ht' : tc (uu [a, b, c]) = [p, q, s] := ht
  rw [ht'] at hc
  have v3 : fv 3 [a, b, c] = uv 0 [p, q, s] := by simp [fv, h, tu, ht, uu]
  have v4 : fv 4 [a, b, c] = uv 1 [p, q, s] := by simp [fv, h, tu, ht, uu]
  have v5 : fv 5 [a, b, c] = uv 2 [p, q, s] := by simp [fv, h, tu, ht, uu]
  have v6 : fv 6 [a, b, c] = Wh.fq (cr2 (uv 1 [a, b, c]) (uv 2 [a, b, c]) (uv 1 [p, q, s]) (uv 2 [p, q, s])) 1024 := by simp [fv, h, tb, tu, ht, uu]
  have v7 : fv 7 [a, b, c] = Wh.fq (cr2 (uv 2 [a, b, c]) (uv 0 [a, b, c]) (uv 2 [p, q, s]) (uv 0 [p, q, s])) 1024 := by simp [fv, h, tb, tu, ht, uu]
  have v8 : fv 8 [a, b, c] = Wh.fq (cr2 (uv 0 [a, b, c]) (uv 1 [a, b, c]) (uv 0 [p, q, s]) (uv 1 [p, q, s])) 1024 := by simp [fv, h, tb, tu, ht, uu]
  have bt := fun k hk => uv_bd p q s k hk
  refine ⟨_, _, _, _, _, _, _, _, _, v0, v1, v2, v3, v4, v5, v6, v7, v8, ?_⟩
  have g6 := bv 6 (by decide); have g7 := bv 7 (by decide); have g8 := bv 8 (by decide)
  rw [v6] at g6; rw [v7] at g7; rw [v8] at g8
  obtain ⟨r, hr, k0, k1, k2⟩ := uv_bds hc
  have f0 := bu 0 (by decide); have f1 := bu 1 (by decide); have f2 := bu 2 (by decide)
  have e0 := bt 0 (by decide); have e1 := bt 1 (by decide); have e2 := bt 2 (by decide)
  generalize uv 0 [a, b, c] = x at *
  generalize uv 1 [a, b, c] = y at *
  generalize uv 2 [a, b, c] = z at *
  generalize uv 0 [p, q, s] = t0 at *
  generalize uv 1 [p, q, s] = t1 at *
  generalize uv 2 [p, q, s] = t2 at *
  refine ⟨f0, f1, f2, e0, e1, e2, g6, g7, g8, ?_, ?_, ?_⟩
  · have := sq_rest hr k0 k1 k2 f0 f1 f2 0 (by have : 1048576 * p * x + 1048576 * q * y + 1048576 * s * z = 1048576 * (p * x + q * y + s * z) := by grind
                                               omega)
    have := abs_of_mul (r := r) (x := t0 * x + t1 * y + t2 * z) (m := 3072) hr (by omega)
    have e : x * t0 + y * t1 + z * t2 = t0 * x + t1 * y + t2 * z := by grind
    omega
  · rw [fq_pos (by decide), fq_pos (by decide), fq_pos (by decide)]
    have m0 := fdiv_bds (cr2 y z t1 t2) (b := 1024) (by decide)
    have m1 := fdiv_bds (cr2 z x t2 t0) (b := 1024) (by decide)
    have m2 := fdiv_bds (cr2 x y t0 t1) (b := 1024) (by decide)
    have := sq_rest (by decide) m0 m1 m2 f0 f1 f2 0 (by unfold cr2; grind)
    generalize (cr2 y z t1 t2).fdiv 1024 = b0 at *
    generalize (cr2 z x t2 t0).fdiv 1024 = b1 at *
    generalize (cr2 x y t0 t1).fdiv 1024 = b2 at *
    have e : x * b0 + y * b1 + z * b2 = b0 * x + b1 * y + b2 * z := by grind
    omega
  · rw [fq_pos (by decide), fq_pos (by decide), fq_pos (by decide)]
    have m0 := fdiv_bds (cr2 y z t1 t2) (b := 1024) (by decide)
    have m1 := fdiv_bds (cr2 z x t2 t0) (b := 1024) (by decide)
    have m2 := fdiv_bds (cr2 x y t0 t1) (b := 1024) (by decide)
    have := sq_rest (by decide) m0 m1 m2 e0 e1 e2 0 (by unfold cr2; grind)
    generalize (cr2 y z t1 t2).fdiv 1024 = b0 at *
    generalize (cr2 z x t2 t0).fdiv 1024 = b1 at *
    generalize (cr2 x y t0 t1).fdiv 1024 = b2 at *
    have e : t0 * b0 + t1 * b1 + t2 * b2 = b0 * t0 + b1 * t1 + b2 * t2 := by grind
    omega
theorem dz_bd {x y : Int} (hx : -1024 ≤ x ∧ x ≤ 1024) (hy : -1024 ≤ y ∧ y ≤ 1024) (a b c : Int) : 0 ≤ dz [a, b, c, x, y] ∧ dz [a, b, c, x, y] ≤ 1024 := by
  have q3 := mul_bd (M := 1024) (N := 1024) 1048576 (by decide) hx hx; have q4 := mul_bd (M := 1024) (N := 1024) 1048576 (by decide) hy hy
  have p3 := sq_bd1 (x := x) (by omega); have p4 := sq_bd1 (x := y) (by omega)
  exact sq_disc (m := max (1048576 - x * x - y * y) 0) (by omega) (by omega)
/-- A direction on the half ball: bounds, and it looks to the way's side, or along. -/
theorem dir_of {u0 u1 u2 t0 t1 t2 b0 b1 b2 x y z : Int} (f : Fr u0 u1 u2 t0 t1 t2 b0 b1 b2) (hx : -1024 ≤ x ∧ x ≤ 1024) (hy : -1024 ≤ y ∧ y ≤ 1024) (hz : 0 ≤ z ∧ z ≤ 1024) :
    ∃ p0 p1 p2, Wh.fq (t0 * x + b0 * y + u0 * z) 1024 = p0 ∧ Wh.fq (t1 * x + b1 * y + u1 * z) 1024 = p1 ∧ Wh.fq (t2 * x + b2 * y + u2 * z) 1024 = p2 ∧
      (-8192 ≤ p0 ∧ p0 ≤ 8192) ∧ (-8192 ≤ p1 ∧ p1 ≤ 8192) ∧ (-8192 ≤ p2 ∧ p2 ≤ 8192) ∧ -20000 ≤ p0 * u0 + p1 * u1 + p2 * u2 := by
  refine ⟨_, _, _, rfl, rfl, rfl, ?_⟩
  obtain ⟨f0, f1, f2, e0, e1, e2, g0, g1, g2, ut, ub, tb⟩ := f
  have key : ∀ {t b u : Int}, (-1024 ≤ t ∧ t ≤ 1024) → (-2048 ≤ b ∧ b ≤ 2048) → (-1024 ≤ u ∧ u ≤ 1024) → -8192 ≤ Wh.fq (t * x + b * y + u * z) 1024 ∧ Wh.fq (t * x + b * y + u * z) 1024 ≤ 8192 := by
    intro t b u ht hb hu
    have h1 := mul_bd (M := 1024) (N := 1024) 1048576 (by decide) ht hx
    have h2 := mul_bd (M := 2048) (N := 1024) 2097152 (by decide) hb hy
    have h3 := mul_bd (M := 1024) (N := 1024) 1048576 (by decide) hu (show -1024 ≤ z ∧ z ≤ 1024 by omega)
    rw [fq_pos (by decide)]
    exact ⟨le_fdiv_of (by decide) (by omega), fdiv_lt_of (by decide) (by omega)⟩
  refine ⟨key e0 g0 f0, key e1 g1 f1, key e2 g2 f2, ?_⟩
  rw [fq_pos (by decide), fq_pos (by decide), fq_pos (by decide)]
  have m0 := fdiv_bds (t0 * x + b0 * y + u0 * z) (b := 1024) (by decide)
  have m1 := fdiv_bds (t1 * x + b1 * y + u1 * z) (b := 1024) (by decide)
  have m2 := fdiv_bds (t2 * x + b2 * y + u2 * z) (b := 1024) (by decide)
  have := sq_rest (by decide) m0 m1 m2 f0 f1 f2 (x * (u0 * t0 + u1 * t1 + u2 * t2) + y * (u0 * b0 + u1 * b1 + u2 * b2) + z * (u0 * u0 + u1 * u1 + u2 * u2)) (by grind)
  generalize (t0 * x + b0 * y + u0 * z).fdiv 1024 = p0 at *
  generalize (t1 * x + b1 * y + u1 * z).fdiv 1024 = p1 at *
  generalize (t2 * x + b2 * y + u2 * z).fdiv 1024 = p2 at *
  have h1 := mul_bd (M := 1024) (N := 3072) 3145728 (by decide) hx ut
  have h2 := mul_bd (M := 1024) (N := 3072) 3145728 (by decide) hy ub
  have s0 := sq_bd1 (x := u0) (by omega); have s1 := sq_bd1 (x := u1) (by omega); have s2 := sq_bd1 (x := u2) (by omega)
  have h3 := Int.mul_nonneg hz.1 (show 0 ≤ u0 * u0 + u1 * u1 + u2 * u2 by omega)
  omega
/-- A way of 0 by 0 on a disc goes straight on. -/
theorem dir_on (a b c : Int) : de [a, b, c, 0, 0] = ue [a, b, c] ∧ ∀ k, k < 3 → dv k [a, b, c, 0, 0] = uv k [a, b, c] := by
  have h1 : de [a, b, c, 0, 0] = te [a, b, c] := by
    unfold de
    simp only [List.take_succ_cons, List.take_zero, List.drop_succ_cons, List.drop_zero, show List.all [0, 0] kk = true from by decide, if_true]
    split
    · rename_i h; exact h.symm
    · rfl
  refine ⟨by rw [h1, te_ue], fun k hk => ?_⟩
  unfold dv
  rw [h1]
  split
  · rename_i h
    have hz : dz [a, b, c, 0, 0] = 1024 := by show Wh.sqC (max (1048576 - 0 * 0 - 0 * 0) 0) = 1024; exact sqC_square
    have hk' : fv k [a, b, c] = uv k [a, b, c] := by
      unfold fv; rw [if_pos h]
      match k, hk with
      | 0, _ => rfl
      | 1, _ => rfl
      | 2, _ => rfl
    simp only [List.take_succ_cons, List.take_zero, List.getD_cons_zero, List.getD_cons_succ, hz, hk', Int.mul_zero, Int.zero_add]
    exact fq_1024_mul _
  · rename_i h
    unfold uv
    rw [if_neg (by rw [← te_ue]; exact h)]
/-- The unit of a way along an axis. -/
theorem un_along {n : Int} (h : 1 ≤ n ∧ n ≤ 1048576) :
    (ue [n, 0, 0] = 0 ∧ uv 0 [n, 0, 0] = 1024 ∧ uv 1 [n, 0, 0] = 0 ∧ uv 2 [n, 0, 0] = 0) ∧ (ue [0, n, 0] = 0 ∧ uv 0 [0, n, 0] = 0 ∧ uv 1 [0, n, 0] = 1024 ∧ uv 2 [0, n, 0] = 0) ∧ (ue [0, 0, n] = 0 ∧ uv 0 [0, 0, n] = 0 ∧ uv 1 [0, 0, n] = 0 ∧ uv 2 [0, 0, n] = 1024) := by
  have a := ue_zero (a := n) (b := 0) (c := 0) (by omega) (by omega) (by omega) (by omega)
  have b := ue_zero (a := 0) (b := n) (c := 0) (by omega) (by omega) (by omega) (by omega)
  have c := ue_zero (a := 0) (b := 0) (c := n) (by omega) (by omega) (by omega) (by omega)
  have g := sqC_1024 h
  have x : n2 [n, 0, 0] = n * n := by simp [n2]
  have y : n2 [0, n, 0] = n * n := by simp [n2]
  have z : n2 [0, 0, n] = n * n := by simp [n2]
  have o := fq_along h
  have p := fq_zero (n := 1024 * n) (by omega)
  simp [uv, uq, a, b, c, x, y, z, g, o, p]
end Go.Proofs.Ytdkeiopcdajkpaa.Sx
