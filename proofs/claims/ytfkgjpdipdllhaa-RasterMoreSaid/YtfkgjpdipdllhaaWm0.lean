/- RasterMore, plain: one more triangle behind all others. -/
import Derived.Test.YtfkgjpdipdllhaaWom
set_option linter.unusedVariables false
set_option linter.unusedSimpArgs false
namespace Go.Proofs.Ytfkgjpdipdllhaa
open Go.RowKit
namespace Mt
open Ro
theorem getD_app {zs : List (List Int)} {t : List Int} {n : Nat} (h : n < zs.length) : (zs ++ [t]).getD n [] = zs.getD n [] := by
  rw [List.getD_eq_getElem?_getD, List.getD_eq_getElem?_getD, List.getElem?_append_left h]
theorem getD_last (zs : List (List Int)) (t : List Int) : (zs ++ [t]).getD zs.length [] = t := by
  rw [List.getD_eq_getElem?_getD, List.getElem?_append_right (Nat.le_refl _)]; simp
theorem owN_app {zs : List (List Int)} {t : List Int} {x y : Int} : ∀ n : Nat, n ≤ zs.length → owN (zs ++ [t]) x y n = owN zs x y n
  | 0, _ => rfl
  | n + 1, h => by
    simp only [owN]
    rw [owN_app n (by omega), getD_app (by omega)]
theorem owN_more (zs : List (List Int)) (t : List Int) (x y : Int) : owN (zs ++ [t]) x y (zs.length + 1) = if owN zs x y zs.length = -1 ∧ cov t x y = true then (zs.length : Int) else owN zs x y zs.length := by
  simp only [owN]
  rw [owN_app _ (Nat.le_refl _), getD_last]
theorem owE_more {W H : Int} {zs : List (List Int)} (t : List Int) (h : owE W H zs = 1) : owE W H (zs ++ [t]) = 1 ∧ owL W H (zs ++ [t]) = [] := by
  rcases owE_01 W H (zs ++ [t]) with h0 | h1
  · obtain ⟨k1, k2⟩ := owE_zero h0
    have : owE W H zs = 0 := by
      refine (owE_ok k1 (fun j hj => ?_)).1
      have := k2 j (by simp; omega)
      rwa [getD_app hj] at this
    omega
  · exact h1
theorem cntK_pos {zs : List Int} {v : Int} : ∀ n : Nat, 0 < cntK zs v n → ∃ j, j < n ∧ zs.getD j 0 = v
  | n + 1, h => by
    simp only [cntK] at h
    by_cases e : zs.getD n 0 = v
    · exact ⟨n, by omega, e⟩
    · rw [if_neg e] at h
      obtain ⟨j, h1, h2⟩ := cntK_pos n (by omega)
      exact ⟨j, by omega, h2⟩
theorem topK_le {zs : List Int} {v : Int} (hv : -1 ≤ v) : ∀ n : Nat, (∀ j, j < n → zs.getD j 0 ≤ v) → topK zs n ≤ v
  | 0, _ => hv
  | n + 1, h => by
    simp only [topK]
    have := topK_le hv n (fun j hj => h j (by omega))
    have := h n (by omega)
    omega
theorem cntL_more {L : List Int} {len M : Nat} (hM : L.length = M) (hlen : len ≤ 1000) (hle : ∀ j, j < M → L.getD j 0 ≤ len) (hp : 0 < cntK L len M) : (cntL L).length = len + 1 ∧ (cntL L).getD len 0 = cntK L len M := by
  obtain ⟨j, hj, ej⟩ := cntK_pos M hp
  have h1 := topK_le (v := (len : Int)) (by omega) M hle
  have h2 := topK_at (zs := L) (n := M) (k := j) hj
  have h3 : topK L M = len := by omega
  unfold cntL
  rw [hM, h3, if_pos (by omega), show ((len : Int) + 1).toNat = len + 1 by omega]
  refine ⟨by simp, ?_⟩
  rw [List.getD_eq_getElem?_getD, List.getElem?_map, List.getElem?_range (by omega)]
  rfl
theorem more_early (W H : Int) (t0 t1 t2 t3 t4 t5 : Int) (a : Option Addr) (len cap : Nat) (w : World) (h : ¬ (len ≤ 6 ∧ 1 ≤ W ∧ W ≤ 8 ∧ 1 ≤ H ∧ H ≤ 8)) :
    Calls Try.prog 6 #[.int .i64 W, .int .i64 H, .slice a len cap, .agg #[.int .i64 t0, .int .i64 t1, .int .i64 t2, .int .i64 t3, .int .i64 t4, .int .i64 t5]] w fun e w' => e = .returned (.bool true) ∧ Gr w w' := by
  have hd : (decide ((6 : Int) < (len : Int)) = true ∧ decide (6 < len) = true) ∨ ((decide ((6 : Int) < (len : Int)) = false ∧ decide (6 < len) = false) ∧ decide (W < 1) = true) ∨ ((decide ((6 : Int) < (len : Int)) = false ∧ decide (6 < len) = false) ∧ decide (W < 1) = false ∧ decide (8 < W) = true)
      ∨ ((decide ((6 : Int) < (len : Int)) = false ∧ decide (6 < len) = false) ∧ decide (W < 1) = false ∧ decide (8 < W) = false ∧ decide (H < 1) = true) ∨ ((decide ((6 : Int) < (len : Int)) = false ∧ decide (6 < len) = false) ∧ decide (W < 1) = false ∧ decide (8 < W) = false ∧ decide (H < 1) = false ∧ decide (8 < H) = true) := by
    simp; omega
  have HO := Lib.hid owned_any
  clear h
  rcases hd with ⟨d1, d1'⟩ | ⟨⟨d1, d1'⟩, d2⟩ | ⟨⟨d1, d1'⟩, d2, d3⟩ | ⟨⟨d1, d1'⟩, d2, d3, d4⟩ | ⟨⟨d1, d1'⟩, d2, d3, d4, d5⟩
  all_goals
    go_enter Try.func6, Try.ntmps6
    go_wp2_with fail
    refine (HO.out _).mono ?_
    rintro e w1 ⟨rfl, hg⟩
    have HG := Lib.hid (((Gr.refl w).alloc _).trans hg)
    clear hg
    go_wp2_with fail
    go_ret
    exact ⟨rfl, HG.out⟩
end Mt
end Go.Proofs.Ytfkgjpdipdllhaa
