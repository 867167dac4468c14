/- Parts of the proof of TopPoint. No condition of their own. -/
import Derived.Test.YtlfoglklibhbnaaGreatTqH
import Derived.Test.YtlfoglklibhbnaaGreatTqK
import Derived.Test.YtlfoglklibhbnaaGreatTqJ
set_option linter.unusedVariables false
set_option linter.unusedSimpArgs false
namespace Go.Proofs.YtlfoglklibhbnaaGreat
open Go.RowKit
namespace Mt
theorem wm_lo {u v s a b c K : Int} (hu : 0 ≤ u) (hv : 0 ≤ v) (hs : 0 ≤ s) (h8 : u + v + s = 8) (ha : K ≤ a) (hb : K ≤ b) (hc : K ≤ c) : 8 * K ≤ u * a + v * b + s * c := by
  have h1 := Int.mul_nonneg hu (show 0 ≤ a - K by omega)
  have h2 := Int.mul_nonneg hv (show 0 ≤ b - K by omega)
  have h3 := Int.mul_nonneg hs (show 0 ≤ c - K by omega)
  have : u * (a - K) + v * (b - K) + s * (c - K) = (u * a + v * b + s * c) - (u + v + s) * K := by grind
  rw [h8] at this
  omega
theorem wm_hi {u v s a b c K : Int} (hu : 0 ≤ u) (hv : 0 ≤ v) (hs : 0 ≤ s) (h8 : u + v + s = 8) (ha : a ≤ K) (hb : b ≤ K) (hc : c ≤ K) : u * a + v * b + s * c ≤ 8 * K := by
  have h1 := Int.mul_nonneg hu (show 0 ≤ K - a by omega)
  have h2 := Int.mul_nonneg hv (show 0 ≤ K - b by omega)
  have h3 := Int.mul_nonneg hs (show 0 ≤ K - c by omega)
  have : u * (K - a) + v * (K - b) + s * (K - c) = (u + v + s) * K - (u * a + v * b + s * c) := by grind
  rw [h8] at this
  omega
theorem sq_has8 {a0 a1 a2 a3 a4 a5 x y u v s : Int} (h : Sx.rgt [a0, a1, a2, a3, a4, a5] = true) (hg : Sx.sqg [x, y, 16] = true) (hu : 0 ≤ u) (hv : 0 ≤ v) (hs : 0 ≤ s) (h8 : u + v + s = 8)
    (p1 : 8 * x ≤ u * a0 + v * a2 + s * a4) (p2 : u * a0 + v * a2 + s * a4 ≤ 8 * x + 128) (q1 : 8 * y ≤ u * a1 + v * a3 + s * a5) (q2 : u * a1 + v * a3 + s * a5 ≤ 8 * y + 128) : Sx.sqB [x, y, 16, a0, a1, a2, a3, a4, a5] = true := by
  have hD := Geo.ab_pos (Sx.rgt_iff.1 h).2
  have hc : ∀ i, i < 3 → 0 ≤ Geo.ev [a0, a1, a2, a3, a4, a5] i a0 a1 ∧ 0 ≤ Geo.ev [a0, a1, a2, a3, a4, a5] i a2 a3 ∧ 0 ≤ Geo.ev [a0, a1, a2, a3, a4, a5] i a4 a5 := by
    intro i hi
    have hi' : i = 0 ∨ i = 1 ∨ i = 2 := by omega
    rcases hi' with rfl | rfl | rfl
    · rw [Sx.ev00, Sx.ev01, Sx.ev02]; omega
    · rw [Sx.ev10, Sx.ev11, Sx.ev12]; omega
    · rw [Sx.ev20, Sx.ev21, Sx.ev22]; omega
  have na : Sx.apB [a0, a1, a2, a3, a4, a5] 0 (Sx.sqC [x, y, 16, a0, a1, a2, a3, a4, a5]) = false := by
    rw [Bool.eq_false_iff]; intro ha
    obtain ⟨i, hi, h1, h2, h3, h4⟩ := Sx.sq_out h hg ha
    obtain ⟨c0, c1, c2⟩ := hc i hi
    obtain ⟨α, β, γ, he⟩ := Geo.ev_aff [a0, a1, a2, a3, a4, a5] i
    rw [he] at h1 h2 h3 h4 c0 c1 c2
    have m0 := Int.mul_nonneg hu c0
    have m1 := Int.mul_nonneg hv c1
    have m2 := Int.mul_nonneg hs c2
    have hsum : u * (α * a0 + β * a1 + γ) + v * (α * a2 + β * a3 + γ) + s * (α * a4 + β * a5 + γ) = α * (u * a0 + v * a2 + s * a4) + β * (u * a1 + v * a3 + s * a5) + (u + v + s) * γ := by grind
    rw [h8] at hsum
    have hlt := Geo.sq_lt (α := α) (β := β) (γ := 8 * γ) (x := 8 * x) (y := 8 * y) (s := 128) (u := u * a0 + v * a2 + s * a4 - 8 * x) (v := u * a1 + v * a3 + s * a5 - 8 * y)
      (by have : α * (8 * x) + β * (8 * y) + 8 * γ = 8 * (α * x + β * y + γ) := by grind
          omega)
      (by have : α * (8 * x + 128) + β * (8 * y) + 8 * γ = 8 * (α * (x + 16) + β * y + γ) := by grind
          omega)
      (by have : α * (8 * x + 128) + β * (8 * y + 128) + 8 * γ = 8 * (α * (x + 16) + β * (y + 16) + γ) := by grind
          omega)
      (by have : α * (8 * x) + β * (8 * y + 128) + 8 * γ = 8 * (α * x + β * (y + 16) + γ) := by grind
          omega)
      (by omega) (by omega) (by omega) (by omega)
    rw [show 8 * x + (u * a0 + v * a2 + s * a4 - 8 * x) = u * a0 + v * a2 + s * a4 by omega, show 8 * y + (u * a1 + v * a3 + s * a5 - 8 * y) = u * a1 + v * a3 + s * a5 by omega] at hlt
    omega
  show (Sx.sqBox [x, y, 16, a0, a1, a2, a3, a4, a5] && !Sx.apB [a0, a1, a2, a3, a4, a5] 0 (Sx.sqC [x, y, 16, a0, a1, a2, a3, a4, a5])) = true
  rw [na]
  have b1 : min (min a0 a2) a4 ≤ x + 16 := by
    apply Classical.byContradiction; intro hn
    have := wm_lo (a := a0) (b := a2) (c := a4) (K := x + 17) hu hv hs h8 (by omega) (by omega) (by omega)
    omega
  have b2 : min (min a1 a3) a5 ≤ y + 16 := by
    apply Classical.byContradiction; intro hn
    have := wm_lo (a := a1) (b := a3) (c := a5) (K := y + 17) hu hv hs h8 (by omega) (by omega) (by omega)
    omega
  have b3 : x ≤ max (max a0 a2) a4 := by
    apply Classical.byContradiction; intro hn
    have := wm_hi (a := a0) (b := a2) (c := a4) (K := x - 1) hu hv hs h8 (by omega) (by omega) (by omega)
    omega
  have b4 : y ≤ max (max a1 a3) a5 := by
    apply Classical.byContradiction; intro hn
    have := wm_hi (a := a1) (b := a3) (c := a5) (K := y - 1) hu hv hs h8 (by omega) (by omega) (by omega)
    omega
  have e : Sx.sqBox [x, y, 16, a0, a1, a2, a3, a4, a5] = ((decide (min (min a0 a2) a4 ≤ x + 16) && decide (min (min a1 a3) a5 ≤ y + 16)) && (decide (x ≤ max (max a0 a2) a4) && decide (y ≤ max (max a1 a3) a5))) := rfl
  rw [e]
  simp only [Bool.and_eq_true, decide_eq_true_eq, Bool.not_false, and_true]
  exact ⟨⟨b1, b2⟩, b3, b4⟩
theorem cov8 {a0 a1 a2 a3 a4 a5 u v s : Int} {x y : Int} (h : Sx.rgt [a0, a1, a2, a3, a4, a5] = true) (hu : 0 ≤ u) (hv : 0 ≤ v) (hs : 0 ≤ s) (h8 : u + v + s = 8)
    (hx : (u * a0 + v * a2 + s * a4) / 8 / 16 = x) (hy : (u * a1 + v * a3 + s * a5) / 8 / 16 = y) (bx : 0 ≤ x ∧ x ≤ 255) (b' : 0 ≤ y ∧ y ≤ 255) : cov [a0, a1, a2, a3, a4, a5] x y = true := by
  have hc : Sx.cvr [x, y, a0, a1, a2, a3, a4, a5] = true := by
    unfold Sx.cvr
    simp; omega
  have hg : Sx.sqg [16 * x, 16 * y, 16] = true := by
    unfold Sx.sqg Sx.us
    simp; omega
  have hq := sq_has8 (x := 16 * x) (y := 16 * y) h hg hu hv hs h8 (by omega) (by omega) (by omega) (by omega)
  unfold cov
  rw [hc, h]
  exact hq
theorem owN_cov (zs : List (List Int)) (x y : Int) : ∀ (n : Nat) (j : Nat), owN zs x y n = (j : Int) → cov (zs.getD j []) x y = true
  | 0, j, h => by simp [owN] at h
  | n + 1, j, h => by
    unfold owN at h
    split at h
    · rename_i hc
      have : n = j := by omega
      subst this
      exact hc.2
    · exact owN_cov zs x y n j h
theorem owN_some (zs : List (List Int)) (x y : Int) : ∀ (n i : Nat), i < n → cov (zs.getD i []) x y = true → owN zs x y n ≠ -1
  | 0, i, h, _ => by omega
  | n + 1, i, h, hc => by
    unfold owN
    split
    · omega
    · rename_i hn
      by_cases e : i = n
      · subst e
        intro h1
        exact hn ⟨h1, hc⟩
      · exact owN_some zs x y n i (by omega) hc
theorem allU_split (a : AT) : ∀ (n q : Nat), q < (allU a n).length → ∃ i k, i < n ∧ k < (a.qs.getD i P0).uv.length ∧ q = (allU a i).length + k ∧ (allO a n).getD q 0 = (i : Int)
  | 0, q, h => by simp [allU] at h
  | n + 1, q, h => by
    have hl := allO_len a n
    by_cases e : q < (allU a n).length
    · obtain ⟨i, k, h1, h2, h3, h4⟩ := allU_split a n q e
      refine ⟨i, k, by omega, h2, h3, ?_⟩
      rw [← h4]
      unfold allO
      simp only [List.getD_eq_getElem?_getD]
      rw [List.getElem?_append_left (by omega)]
      cases n with
      | zero => simp [allU] at e
      | succ n => rfl
    · have hlen : (allU a (n + 1)).length = (allU a n).length + (a.qs.getD n P0).uv.length := by simp only [allU, List.length_append, mvd_len]
      refine ⟨n, q - (allU a n).length, by omega, by omega, by omega, ?_⟩
      show (allO a n ++ List.replicate (a.qs.getD n P0).uv.length (n : Int)).getD q 0 = n
      rw [List.getD_eq_getElem?_getD, List.getElem?_append_right (by omega), List.getElem?_replicate, if_pos (by omega)]
      rfl
theorem mvd_rgt {a : AT} (hg : AGood a) {i k : Nat} (hi : i < a.qs.length) (hk : k < (a.qs.getD i P0).uv.length) :
    ∃ z0 z1 z2 z3 z4 z5, (mvd (a.qs.getD i P0) (offX a i) (offY a i)).getD k [] = [z0, z1, z2, z3, z4, z5] ∧ Sx.rgt [z0, z1, z2, z3, z4, z5] = true ∧
      (∀ z, (z = z0 ∨ z = z2 ∨ z = z4) → 16 * ((a.rs.getD i []).getD 0 0 + a.pad) ≤ z ∧ z < 16 * ((a.rs.getD i []).getD 0 0 + (a.rs.getD i []).getD 2 0 - a.pad)) ∧
      (∀ z, (z = z1 ∨ z = z3 ∨ z = z5) → 16 * ((a.rs.getD i []).getD 1 0 + a.pad) ≤ z ∧ z < 16 * ((a.rs.getD i []).getD 1 0 + (a.rs.getD i []).getD 3 0 - a.pad)) ∧
      (0 ≤ (a.rs.getD i []).getD 0 0 ∧ (a.rs.getD i []).getD 0 0 + (a.rs.getD i []).getD 2 0 ≤ a.W) ∧ (0 ≤ (a.rs.getD i []).getD 1 0 ∧ (a.rs.getD i []).getD 1 0 + (a.rs.getD i []).getD 3 0 ≤ a.H) ∧ (1 ≤ a.pad ∧ a.pad ≤ 8) ∧ (a.W ≤ 256 ∧ a.H ≤ 256) := by
  have b0 := mv_bd hg hi (k := 3 * k) (by omega); have b1 := mv_bd hg hi (k := 3 * k + 1) (by omega); have b2 := mv_bd hg hi (k := 3 * k + 2) (by omega)
  have hp := hg.good _ (List.getElem_mem hi)
  have hr := hp.right k (by rw [← qs_at a hi]; exact hk)
  rw [← qs_at a hi] at hr
  have ho : offX a i = 16 * ((a.rs.getD i []).getD 0 0 + a.pad) ∧ offY a i = 16 * ((a.rs.getD i []).getD 1 0 + a.pad) := ⟨rfl, rfl⟩
  rw [mvd_at _ _ _ hk]
  have ha : Sx.areaV [ptx (a.qs.getD i P0).uv (3 * k), pty (a.qs.getD i P0).uv (3 * k), ptx (a.qs.getD i P0).uv (3 * k + 1), pty (a.qs.getD i P0).uv (3 * k + 1), ptx (a.qs.getD i P0).uv (3 * k + 2), pty (a.qs.getD i P0).uv (3 * k + 2)] ≠ 0 := by
    have e0 := pt_at (a.qs.getD i P0).uv k 0 (by omega); have e1 := pt_at (a.qs.getD i P0).uv k 1 (by omega); have e2 := pt_at (a.qs.getD i P0).uv k 2 (by omega)
    rw [Nat.add_zero] at e0
    rw [e0.1, e0.2, e1.1, e1.2, e2.1, e2.2]
    unfold Sx.rgt at hr
    simp only [Bool.and_eq_true, Bool.not_eq_true', beq_eq_false_iff_ne] at hr
    exact hr.2
  clear hr
  generalize ptx (a.qs.getD i P0).uv (3 * k) = X0 at *
  generalize pty (a.qs.getD i P0).uv (3 * k) = Y0 at *
  generalize ptx (a.qs.getD i P0).uv (3 * k + 1) = X1 at *
  generalize pty (a.qs.getD i P0).uv (3 * k + 1) = Y1 at *
  generalize ptx (a.qs.getD i P0).uv (3 * k + 2) = X2 at *
  generalize pty (a.qs.getD i P0).uv (3 * k + 2) = Y2 at *
  have hmo := area_mov X0 Y0 X1 Y1 X2 Y2 (offX a i) (offY a i)
  rw [ho.1, ho.2] at *
  refine ⟨_, _, _, _, _, _, rfl, ?_, ?_, ?_, b0.2.2.1, b0.2.2.2.1, b0.2.2.2.2.1, b0.2.2.2.2.2⟩
  · have hu : ∀ x ∈ [X0 + 16 * ((a.rs.getD i []).getD 0 0 + a.pad), Y0 + 16 * ((a.rs.getD i []).getD 1 0 + a.pad), X1 + 16 * ((a.rs.getD i []).getD 0 0 + a.pad), Y1 + 16 * ((a.rs.getD i []).getD 1 0 + a.pad), X2 + 16 * ((a.rs.getD i []).getD 0 0 + a.pad), Y2 + 16 * ((a.rs.getD i []).getD 1 0 + a.pad)], -4096 ≤ x ∧ x ≤ 4096 := by
      intro x hx
      simp only [List.mem_cons, List.not_mem_nil, or_false] at hx
      rcases hx with rfl | rfl | rfl | rfl | rfl | rfl <;> omega
    unfold Sx.rgt
    rw [Bool.and_eq_true]
    refine ⟨List.all_eq_true.2 (fun x hx => by have := hu x hx; unfold Sx.us; simp; omega), ?_⟩
    rw [hmo]
    simpa using ha
  · rintro z (rfl | rfl | rfl) <;> omega
  · rintro z (rfl | rfl | rfl) <;> omega
end Mt
end Go.Proofs.YtlfoglklibhbnaaGreat
namespace Go.Proofs.YtlfoglklibhbnaaGreat
open Go.RowKit
namespace Mt
theorem allU_row {a : AT} (hg : AGood a) {q : Nat} (hq : q < (allU a a.qs.length).length) :
  ∃ i z0 z1 z2 z3 z4 z5, i < a.qs.length ∧ (allO a a.qs.length).getD q 0 = (i : Int) ∧ (allU a a.qs.length).getD q [] = [z0, z1, z2, z3, z4, z5] ∧ Sx.rgt [z0, z1, z2, z3, z4, z5] = true ∧
   (∀ z, (z = z0 ∨ z = z2 ∨ z = z4) → 16 * ((a.rs.getD i []).getD 0 0 + a.pad) ≤ z ∧ z < 16 * ((a.rs.getD i []).getD 0 0 + (a.rs.getD i []).getD 2 0 - a.pad)) ∧
   (∀ z, (z = z1 ∨ z = z3 ∨ z = z5) → 16 * ((a.rs.getD i []).getD 1 0 + a.pad) ≤ z ∧ z < 16 * ((a.rs.getD i []).getD 1 0 + (a.rs.getD i []).getD 3 0 - a.pad)) ∧
   (0 ≤ (a.rs.getD i []).getD 0 0 ∧ (a.rs.getD i []).getD 0 0 + (a.rs.getD i []).getD 2 0 ≤ a.W) ∧ (0 ≤ (a.rs.getD i []).getD 1 0 ∧ (a.rs.getD i []).getD 1 0 + (a.rs.getD i []).getD 3 0 ≤ a.H) ∧ (1 ≤ a.pad ∧ a.pad ≤ 8) ∧ (a.W ≤ 256 ∧ a.H ≤ 256) := by
 obtain ⟨i, k, hi, hk, e, ho⟩ := allU_split a _ q hq
 obtain ⟨z0, z1, z2, z3, z4, z5, h1, h2, h3, h4, h5, h6, h7, h8⟩ := mvd_rgt hg hi hk
 have h9 := (allU_at a hi hk).2
 rw [← e, h1] at h9
 exact ⟨i, z0, z1, z2, z3, z4, z5, hi, ho, h9, h2, h3, h4, h5, h6, h7, h8⟩
theorem tp_ok {a : AT} (hg : AGood a) (hW : 1 ≤ a.W) (hH : 1 ≤ a.H) : owE a.W a.H (allU a a.qs.length) = 0 := by
 have hn := hg.num
 unfold numB at hn
 simp only [Bool.and_eq_true, decide_eq_true_eq] at hn
 unfold owE
 rw [if_pos]
 refine ⟨by unfold sizB; simp; omega, ?_⟩
 rw [Bool.eq_false_iff]
 intro h
 rw [List.any_eq_true] at h
 obtain ⟨z, hz, hb⟩ := h
 obtain ⟨q, hq⟩ := List.getElem?_of_mem hz
 have hql := (List.getElem?_eq_some_iff.1 hq).1
 obtain ⟨i, z0, z1, z2, z3, z4, z5, hi, _, e, hr, hx, hy, hw, hh, hp, hs⟩ := allU_row hg hql
 have ez : (allU a a.qs.length).getD q [] = z := by rw [List.getD_eq_getElem?_getD, hq]; rfl
 rw [ez] at e
 subst e
 have x0 := hx z0 (.inl rfl); have x2 := hx z2 (.inr (.inl rfl)); have x4 := hx z4 (.inr (.inr rfl))
 have y1 := hy z1 (.inl rfl); have y3 := hy z3 (.inr (.inl rfl)); have y5 := hy z5 (.inr (.inr rfl))
 have hbe : badT a.W a.H [z0, z1, z2, z3, z4, z5] = ((oddB a.W a.H z0 z1 || (oddB a.W a.H z2 z3 || oddB a.W a.H z4 z5)) || !Sx.rgt [z0, z1, z2, z3, z4, z5]) := rfl
 rw [hbe, hr] at hb
 have ob : ∀ x y : Int, 0 ≤ x → 0 ≤ y → x < 16 * a.W → y < 16 * a.H → oddB a.W a.H x y = false := fun x y h1 h2 h3 h4 => by
  unfold oddB
  simp; omega
 rw [ob z0 z1 (by omega) (by omega) (by omega) (by omega), ob z2 z3 (by omega) (by omega) (by omega) (by omega), ob z4 z5 (by omega) (by omega) (by omega) (by omega)] at hb
 simp at hb
theorem tp_point {a : AT} (hg : AGood a) {u v : Int} (hu : 0 ≤ u) (hv : 0 ≤ v) (huv : u + v ≤ 8) {q : Nat} (hq : q < (allU a a.qs.length).length) :
  ∃ z0 z1 z2 z3 z4 z5, ∃ X Y o : Nat, (allU a a.qs.length).getD q [] = [z0, z1, z2, z3, z4, z5] ∧ (∀ z ∈ [z0, z1, z2, z3, z4, z5], 0 ≤ z ∧ z ≤ 4096) ∧
   (0 ≤ u * z0 + v * z2 + (8 - u - v) * z4 ∧ (u * z0 + v * z2 + (8 - u - v) * z4) / 8 ≤ 4095 ∧ (u * z0 + v * z2 + (8 - u - v) * z4) / 8 / 16 = X) ∧ (0 ≤ u * z1 + v * z3 + (8 - u - v) * z5 ∧ (u * z1 + v * z3 + (8 - u - v) * z5) / 8 ≤ 4095 ∧ (u * z1 + v * z3 + (8 - u - v) * z5) / 8 / 16 = Y) ∧
   (X : Int) < a.W ∧ (Y : Int) < a.H ∧ owN (allU a a.qs.length) X Y (allU a a.qs.length).length = (o : Int) ∧ o < (allU a a.qs.length).length ∧ (allO a a.qs.length).getD o 0 = (allO a a.qs.length).getD q 0 := by
 obtain ⟨i, z0, z1, z2, z3, z4, z5, hi, hoi, ez, hr, hx, hy, hw, hh, hp, hs⟩ := allU_row hg hq
 have x0 := hx z0 (.inl rfl); have x2 := hx z2 (.inr (.inl rfl)); have x4 := hx z4 (.inr (.inr rfl))
 have y1 := hy z1 (.inl rfl); have y3 := hy z3 (.inr (.inl rfl)); have y5 := hy z5 (.inr (.inr rfl))
 have hs8 : 0 ≤ 8 - u - v := by omega
 have h8 : u + v + (8 - u - v) = 8 := by omega
 have lx := wm_lo (K := 16 * ((a.rs.getD i []).getD 0 0 + a.pad)) hu hv hs8 h8 x0.1 x2.1 x4.1
 have ly := wm_lo (K := 16 * ((a.rs.getD i []).getD 1 0 + a.pad)) hu hv hs8 h8 y1.1 y3.1 y5.1
 have ux := wm_hi (K := 16 * ((a.rs.getD i []).getD 0 0 + (a.rs.getD i []).getD 2 0 - a.pad) - 1) hu hv hs8 h8 (a := z0) (b := z2) (c := z4) (by omega) (by omega) (by omega)
 have uy := wm_hi (K := 16 * ((a.rs.getD i []).getD 1 0 + (a.rs.getD i []).getD 3 0 - a.pad) - 1) hu hv hs8 h8 (a := z1) (b := z3) (c := z5) (by omega) (by omega) (by omega)
 have hcov : ∀ x y : Int, (u * z0 + v * z2 + (8 - u - v) * z4) / 8 / 16 = x → (u * z1 + v * z3 + (8 - u - v) * z5) / 8 / 16 = y → 0 ≤ x ∧ x ≤ 255 → 0 ≤ y ∧ y ≤ 255 → cov [z0, z1, z2, z3, z4, z5] x y = true := fun x y ex ey bx by' => cov8 hr hu hv hs8 h8 ex ey bx by'
 generalize hPX : u * z0 + v * z2 + (8 - u - v) * z4 = PX at *
 generalize hPY : u * z1 + v * z3 + (8 - u - v) * z5 = PY at *
 have HPX := Lib.hid hPX; have HPY := Lib.hid hPY
 clear hPX hPY
 obtain ⟨X, eX⟩ : ∃ X : Nat, PX / 8 / 16 = X := ⟨(PX / 8 / 16).toNat, by omega⟩
 obtain ⟨Y, eY⟩ : ∃ Y : Nat, PY / 8 / 16 = Y := ⟨(PY / 8 / 16).toNat, by omega⟩
 have hc := hcov X Y eX eY (by omega) (by omega)
 rw [← ez] at hc
 have hne := owN_some _ (X : Int) (Y : Int) _ q hq hc
 have hbd := owN_bd (allU a a.qs.length) (X : Int) (Y : Int) (allU a a.qs.length).length
 obtain ⟨o, eo⟩ : ∃ o : Nat, owN (allU a a.qs.length) X Y (allU a a.qs.length).length = (o : Int) := ⟨(owN (allU a a.qs.length) X Y (allU a a.qs.length).length).toNat, by omega⟩
 have hol : o < (allU a a.qs.length).length := by omega
 have hco := owN_cov _ _ _ _ o eo
 obtain ⟨i', t0, t1, t2, t3, t4, t5, hi', hoi', ez', hr', hx', hy', hw', hh', hp', hs'⟩ := allU_row hg hol
 rw [ez'] at hco
 have hcb := cov_box hco
 unfold mn3 mx3 at hcb
 have p0 := hx' t0 (.inl rfl); have p2 := hx' t2 (.inr (.inl rfl)); have p4 := hx' t4 (.inr (.inr rfl))
 have r1 := hy' t1 (.inl rfl); have r3 := hy' t3 (.inr (.inl rfl)); have r5 := hy' t5 (.inr (.inr rfl))
 have hii : i' = i := by
  apply Classical.byContradiction; intro hn
  have hsep : sepL (a.rs.getD i []) (a.rs.getD i' []) = true := by
   rcases Nat.lt_or_gt_of_ne hn with h | h
   ·rw [sepL_comm]; exact (hg.rects i (by rw [hg.len]; exact hi)).2 i' h
   ·exact (hg.rects i' (by rw [hg.len]; exact hi')).2 i h
  unfold sepL sepB at hsep
  simp only [Bool.or_eq_true, decide_eq_true_eq] at hsep
  omega
 subst hii
 refine ⟨z0, z1, z2, z3, z4, z5, X, Y, o, ez, ?_, by rw [HPX.out]; exact ⟨by omega, by omega, eX⟩, by rw [HPY.out]; exact ⟨by omega, by omega, eY⟩, by omega, by omega, eo, hol, by rw [hoi', hoi]⟩
 intro z hz
 simp only [List.mem_cons, List.not_mem_nil, or_false] at hz
 rcases hz with rfl | rfl | rfl | rfl | rfl | rfl <;> omega
end Mt
end Go.Proofs.YtlfoglklibhbnaaGreat
