/- The walk of RasterOwner. -/
import Derived.Test.YtfkgjpdipdllhaaOem
set_option linter.unusedVariables false
set_option linter.unusedSimpArgs false
namespace Go.Proofs.Ytfkgjpdipdllhaa
open Go.RowKit
namespace Mt
open Ro
theorem owN_cov {zs : List (List Int)} {x y : Int} : ∀ n : Nat, owN zs x y n ≠ -1 → ∃ i : Nat, i < n ∧ owN zs x y n = i ∧ cov (zs.getD i []) x y = true
  | 0, h => absurd rfl h
  | n + 1, h => by
    by_cases hc : owN zs x y n = -1 ∧ cov (zs.getD n []) x y = true
    · exact ⟨n, by omega, by simp only [owN]; rw [if_pos hc], hc.2⟩
    · have e : owN zs x y (n + 1) = owN zs x y n := by simp only [owN]; rw [if_neg hc]
      rw [e] at h ⊢
      obtain ⟨i, h1, h2, h3⟩ := owN_cov n h
      exact ⟨i, by omega, h2, h3⟩
theorem owN_none {zs : List (List Int)} {x y : Int} {i : Nat} : ∀ n : Nat, i < n → (owN zs x y n = -1 ∨ (i : Int) < owN zs x y n) → cov (zs.getD i []) x y = false
  | n + 1, hi, h => by
    by_cases hc : owN zs x y n = -1 ∧ cov (zs.getD n []) x y = true
    · have e : owN zs x y (n + 1) = n := by simp only [owN]; rw [if_pos hc]
      rw [e] at h
      have : i ≠ n := by omega
      exact owN_none n (by omega) (.inl hc.1)
    · have e : owN zs x y (n + 1) = owN zs x y n := by simp only [owN]; rw [if_neg hc]
      rw [e] at h
      by_cases ei : i = n
      · subst ei
        have hb := owN_bd zs x y i
        have h1 : owN zs x y i = -1 := by omega
        cases hcv : cov (zs.getD i []) x y
        · rfl
        · exact absurd ⟨h1, hcv⟩ hc
      · exact owN_none n (by omega) h
theorem fi66_ok {x y t0 t1 t2 t3 t4 t5 : Int} (hx : 0 ≤ x ∧ x ≤ 255) (hy : 0 ≤ y ∧ y ≤ 255) (hr : Sx.rgt [t0, t1, t2, t3, t4, t5] = true) : Sx.fi 66 0 [x, y, t0, t1, t2, t3, t4, t5] = 0 := by
  have h1 : Sx.cvr [x, y, t0, t1, t2, t3, t4, t5] = true := Sx.cvr_iff.2 ⟨hx.1, hx.2, hy.1, hy.2⟩
  have e : Sx.fi 66 0 [x, y, t0, t1, t2, t3, t4, t5] = if Sx.cvr [x, y, t0, t1, t2, t3, t4, t5] = true then (if Sx.rgt [t0, t1, t2, t3, t4, t5] = true then 0 else 1) else 5 := rfl
  rw [e, h1, hr]; rfl
theorem badT_rgt {W H t0 t1 t2 t3 t4 t5 : Int} (h : badT W H [t0, t1, t2, t3, t4, t5] = false) : Sx.rgt [t0, t1, t2, t3, t4, t5] = true := by
  rw [bad_iff] at h
  simp only [Bool.or_eq_false_iff, Bool.not_eq_false'] at h
  exact h.2
theorem owE_zero {W H : Int} {zs : List (List Int)} (h : owE W H zs = 0) : sizB W H = true ∧ ∀ j, j < zs.length → badT W H (zs.getD j []) = false := by
  unfold owE at h
  by_cases hc : sizB W H = true ∧ zs.any (badT W H) = false
  · refine ⟨hc.1, fun j hj => ?_⟩
    have := hc.2
    rw [List.any_eq_false] at this
    have h2 := this (zs.getD j []) (by rw [List.getD_eq_getElem?_getD, List.getElem?_eq_getElem hj]; exact List.getElem_mem _)
    simpa using h2
  · rw [if_neg hc] at h; cases h
theorem owE_01 (W H : Int) (zs : List (List Int)) : owE W H zs = 0 ∨ (owE W H zs = 1 ∧ owL W H zs = []) := by
  by_cases hc : sizB W H = true ∧ zs.any (badT W H) = false
  · left; unfold owE; rw [if_pos hc]
  · right
    have e : owE W H zs = 1 := by unfold owE; rw [if_neg hc]
    exact ⟨e, by unfold owL; rw [if_neg (by omega)]⟩
theorem owL_at {wn hn : Nat} {zs : List (List Int)} (h : owE wn hn zs = 0) : owL wn hn zs = outL zs wn hn zs.length := by
  unfold owL; rw [if_pos h, Int.toNat_natCast, Int.toNat_natCast]
theorem row_gw {W : World} {p : Addr} {v : Value} (h : W.cell? p = some v) : ∀ x : GW W, x.val.cell? p = some v := fun x => (x.gr.cell (lt_of_cell h)).trans h
theorem tdiv_nat (a b : Nat) : ((a : Int)).tdiv (b : Int) = ((a / b : Nat) : Int) := by
  rw [Int.tdiv_eq_ediv_of_nonneg (by omega)]; rfl
theorem tmod_nat (a b : Nat) : ((a : Int)).tmod (b : Int) = ((a % b : Nat) : Int) := by
  rw [Int.tmod_eq_emod_of_nonneg (by omega)]; rfl
set_option maxHeartbeats 8000000 in
set_option maxRecDepth 100000 in
theorem owner_early (W H : Int) (a : Option Addr) (len cap : Nat) (w : World) (h : ¬ (len ≤ 8 ∧ 1 ≤ W ∧ W ≤ 8 ∧ 1 ≤ H ∧ H ≤ 8)) :
    Calls Try.prog 4 #[.int .i64 W, .int .i64 H, .slice a len cap] w fun e w' => e = .returned (.bool true) ∧ Gr w w' := by
  have hd : (decide ((8 : Int) < (len : Int)) = true ∧ decide (8 < len) = true) ∨ ((decide ((8 : Int) < (len : Int)) = false ∧ decide (8 < len) = false) ∧ decide (W < 1) = true) ∨ ((decide ((8 : Int) < (len : Int)) = false ∧ decide (8 < len) = false) ∧ decide (W < 1) = false ∧ decide (8 < W) = true)
      ∨ ((decide ((8 : Int) < (len : Int)) = false ∧ decide (8 < len) = false) ∧ decide (W < 1) = false ∧ decide (8 < W) = false ∧ decide (H < 1) = true) ∨ ((decide ((8 : Int) < (len : Int)) = false ∧ decide (8 < len) = false) ∧ decide (W < 1) = false ∧ decide (8 < W) = false ∧ decide (H < 1) = false ∧ decide (8 < H) = true) := by
    simp; omega
  have HO := Lib.hid owned_any
  clear h
  rcases hd with ⟨d1, d1'⟩ | ⟨⟨d1, d1'⟩, d2⟩ | ⟨⟨d1, d1'⟩, d2, d3⟩ | ⟨⟨d1, d1'⟩, d2, d3, d4⟩ | ⟨⟨d1, d1'⟩, d2, d3, d4, d5⟩
  all_goals
    go_enter Try.func4, Try.ntmps4
    go_wp2_with fail
    refine (HO.out _).mono ?_
    rintro e w1 ⟨rfl, hg⟩
    have HG := Lib.hid hg
    clear hg
    go_wp2_with fail
    go_ret
    exact ⟨rfl, HG.out⟩
end Mt
end Go.Proofs.Ytfkgjpdipdllhaa
