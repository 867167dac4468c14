/- The walk of RasterPoint. -/
import Derived.Test.YtfkgjpdipdllhaaWom
set_option linter.unusedVariables false
set_option linter.unusedSimpArgs false
namespace Go.Proofs.Ytfkgjpdipdllhaa
open Go.RowKit
namespace Mt
open Ro Sx
/-- A point of a triangle lies in what its corners lie in. -/
theorem in_box {px py t0 t1 t2 t3 t4 t5 A B : Int} (h : rgt [t0, t1, t2, t3, t4, t5] = true) (ux : us px = true) (uy : us py = true) (hv : inV [px, py, t0, t1, t2, t3, t4, t5] ≠ 0)
    (h0 : 0 ≤ t0 ∧ t0 < A) (h2 : 0 ≤ t2 ∧ t2 < A) (h4 : 0 ≤ t4 ∧ t4 < A) (h1 : 0 ≤ t1 ∧ t1 < B) (h3 : 0 ≤ t3 ∧ t3 < B) (h5 : 0 ≤ t5 ∧ t5 < B) : 0 ≤ px ∧ px < A ∧ 0 ≤ py ∧ py < B := by
  have p0 := inV_1 h ux uy hv 0 (by omega); have p1 := inV_1 h ux uy hv 1 (by omega); have p2 := inV_1 h ux uy hv 2 (by omega)
  have hD := Geo.ab_pos (rgt_iff.1 h).2
  have hs := Geo.ev_sum t0 t1 t2 t3 t4 t5 px py
  have ex := Geo.ev_x t0 t1 t2 t3 t4 t5 px py
  have ey := Geo.ev_y t0 t1 t2 t3 t4 t5 px py
  generalize Geo.ev [t0, t1, t2, t3, t4, t5] 0 px py = e0 at *
  generalize Geo.ev [t0, t1, t2, t3, t4, t5] 1 px py = e1 at *
  generalize Geo.ev [t0, t1, t2, t3, t4, t5] 2 px py = e2 at *
  generalize Geo.ab [t0, t1, t2, t3, t4, t5] = D at *
  have lo : ∀ {a b c p : Int}, e0 * c + e1 * a + e2 * b = D * p → 0 ≤ a → 0 ≤ b → 0 ≤ c → 0 ≤ p := by
    intro a b c p he ha hb hc
    have : -p ≤ 0 := Geo.in_le (e0 := e0) (e1 := e1) (e2 := e2) (g0 := -c) (g1 := -a) (g2 := -b) (D := D) (by simp only [Int.mul_neg]; omega) hD p0 p1 p2 (by omega) (by omega) (by omega)
    omega
  have hi : ∀ {a b c p K : Int}, e0 * c + e1 * a + e2 * b = D * p → a < K → b < K → c < K → p < K := by
    intro a b c p K he ha hb hc
    have h1 : e0 * (c - K) + e1 * (a - K) + e2 * (b - K) = D * (p - K) := by
      have : e0 * (c - K) + e1 * (a - K) + e2 * (b - K) = (e0 * c + e1 * a + e2 * b) - (e0 + e1 + e2) * K := by grind
      rw [this, he, hs, Int.mul_sub]
    have := Geo.in_lt h1 hs hD p0 p1 p2 (by omega) (by omega) (by omega)
    omega
  exact ⟨lo ex h0.1 h2.1 h4.1, hi ex h0.2 h2.2 h4.2, lo ey h1.1 h3.1 h5.1, hi ey h1.2 h3.2 h5.2⟩
theorem odd_box {W H x y : Int} (h : oddB W H x y = false) : 0 ≤ x ∧ x < 16 * W ∧ 0 ≤ y ∧ y < 16 * H := by
  unfold oddB at h
  simp at h; omega
/-- The texel of a point of a triangle. -/
theorem texel_has {wn hn : Nat} {px py t0 t1 t2 t3 t4 t5 : Int} (hw : wn ≤ 256) (hh : hn ≤ 256) (hb : badT wn hn [t0, t1, t2, t3, t4, t5] = false) (e0 : Sx.fi 57 0 [px, py, t0, t1, t2, t3, t4, t5] ≠ 0) :
    ∃ x y : Nat, x < wn ∧ y < hn ∧ fi 67 0 [px, py] = x ∧ fi 67 1 [px, py] = y ∧ fi 67 2 [px, py] = 0 ∧ cov [t0, t1, t2, t3, t4, t5] (x : Int) (y : Int) = true := by
  have hr := badT_rgt hb
  rw [bad_iff] at hb
  simp only [Bool.or_eq_false_iff] at hb
  obtain ⟨⟨o1, o2, o3⟩, _⟩ := hb
  have q1 := odd_box o1; have q2 := odd_box o2; have q3 := odd_box o3
  rw [F570] at e0
  by_cases hu : (us px && us py && rgt [t0, t1, t2, t3, t4, t5]) = true
  · rw [if_pos hu] at e0
    simp only [Bool.and_eq_true] at hu
    obtain ⟨⟨ux, uy⟩, _⟩ := hu
    have hbx := in_box hr ux uy e0 (A := 16 * wn) (B := 16 * hn) (by omega) (by omega) (by omega) (by omega) (by omega) (by omega)
    obtain ⟨x, ex⟩ : ∃ x : Nat, px / 16 = x := ⟨(px / 16).toNat, by omega⟩
    obtain ⟨y, ey⟩ : ∃ y : Nat, py / 16 = y := ⟨(py / 16).toNat, by omega⟩
    have ht : Sx.tok [px, py] = true := by simp [Sx.tok]; omega
    refine ⟨x, y, by omega, by omega, ?_, ?_, ?_, ?_⟩
    · have : fi 67 0 [px, py] = if Sx.tok [px, py] = true then px / 16 else 0 := rfl
      rw [this, if_pos ht, ex]
    · have : fi 67 1 [px, py] = if Sx.tok [px, py] = true then py / 16 else 0 := rfl
      rw [this, if_pos ht, ey]
    · have : fi 67 2 [px, py] = if Sx.tok [px, py] = true then 0 else 5 := rfl
      rw [this, if_pos ht]
    · have hc : cvr [(x : Int), (y : Int), t0, t1, t2, t3, t4, t5] = true := cvr_iff.2 ⟨by omega, by omega, by omega, by omega⟩
      have hg : sqg [16 * (x : Int), 16 * (y : Int), 16] = true := by
        unfold sqg us
        simp; omega
      have hs := sq_has hr hg ux uy e0 (by omega) (by omega) (by omega) (by omega)
      unfold cov
      rw [hc, hr]
      exact hs
  · rw [if_neg hu] at e0; exact absurd rfl e0
theorem owner_of {zs : List (List Int)} {x y : Int} {i n : Nat} (hi : i < n) (h : cov (zs.getD i []) x y = true) : 0 ≤ owN zs x y n ∧ owN zs x y n ≤ i := by
  have hb := owN_bd zs x y n
  apply Classical.byContradiction
  intro hc
  have := owN_none (zs := zs) (x := x) (y := y) n hi (by omega)
  rw [this] at h; cases h
theorem point_early (W H px py : Int) (a : Option Addr) (len cap : Nat) (w : World) (h : ¬ (len ≤ 8 ∧ 1 ≤ W ∧ W ≤ 12 ∧ 1 ≤ H ∧ H ≤ 12)) :
    Calls Try.prog 7 #[.int .i64 W, .int .i64 H, .slice a len cap, .agg #[.int .i64 px, .int .i64 py]] w fun e w' => e = .returned (.bool true) ∧ Gr w w' := by
  have hd : (decide ((8 : Int) < (len : Int)) = true ∧ decide (8 < len) = true) ∨ ((decide ((8 : Int) < (len : Int)) = false ∧ decide (8 < len) = false) ∧ decide (W < 1) = true) ∨ ((decide ((8 : Int) < (len : Int)) = false ∧ decide (8 < len) = false) ∧ decide (W < 1) = false ∧ decide (12 < W) = true)
      ∨ ((decide ((8 : Int) < (len : Int)) = false ∧ decide (8 < len) = false) ∧ decide (W < 1) = false ∧ decide (12 < W) = false ∧ decide (H < 1) = true) ∨ ((decide ((8 : Int) < (len : Int)) = false ∧ decide (8 < len) = false) ∧ decide (W < 1) = false ∧ decide (12 < W) = false ∧ decide (H < 1) = false ∧ decide (12 < H) = true) := by
    simp; omega
  have HO := Lib.hid owned_any
  clear h
  rcases hd with ⟨d1, d1'⟩ | ⟨⟨d1, d1'⟩, d2⟩ | ⟨⟨d1, d1'⟩, d2, d3⟩ | ⟨⟨d1, d1'⟩, d2, d3, d4⟩ | ⟨⟨d1, d1'⟩, d2, d3, d4, d5⟩
  all_goals
    go_enter Try.func7, Try.ntmps7
    go_wp2_with fail
    refine (HO.out _).mono ?_
    rintro e w1 ⟨rfl, hg⟩
    have HG := Lib.hid (((Gr.refl w).alloc _).trans hg)
    clear hg
    go_wp2_with fail
    go_ret
    exact ⟨rfl, HG.out⟩
end Mt
end Go.Proofs.Ytfkgjpdipdllhaa
