/- Chapter 10's laws, plain: points inside, triangles and squares that meet. -/
import Derived.Test.YtfpnkcmplmkghaaMx
set_option linter.unusedVariables false
set_option linter.unusedSimpArgs false
namespace Go.Proofs.Ytfpnkcmplmkghaa.Sx
open Geo
section
variable (a0 a1 a2 a3 a4 a5 b0 b1 b2 b3 b4 b5 x y c : Int)
theorem F570 : fi 57 0 [x, y, a0, a1, a2, a3, a4, a5] = if (us x && us y && rgt [a0, a1, a2, a3, a4, a5]) = true then inV [x, y, a0, a1, a2, a3, a4, a5] else 0 := by
  show (if ([x, y].all us && rgt [a0, a1, a2, a3, a4, a5]) = true then _ else _) = _
  simp only [List.all_cons, List.all_nil, Bool.and_true]
theorem F571 : fi 57 1 [x, y, a0, a1, a2, a3, a4, a5] = if (us x && us y) = true then (if rgt [a0, a1, a2, a3, a4, a5] = true then 0 else 1) else 5 := by
  show (if [x, y].all us = true then (if rgt [a0, a1, a2, a3, a4, a5] = true then (0 : Int) else 1) else 5) = _
  simp only [List.all_cons, List.all_nil, Bool.and_true]
theorem F59b : fb 59 0 [a0, a1, a2, a3, a4, a5, b0, b1, b2, b3, b4, b5] = (rgt [a0, a1, a2, a3, a4, a5] && rgt [b0, b1, b2, b3, b4, b5] && bothB 1 [a0, a1, a2, a3, a4, a5, b0, b1, b2, b3, b4, b5]) := rfl
theorem F60b : fb 60 0 [a0, a1, a2, a3, a4, a5, b0, b1, b2, b3, b4, b5] = (rgt [a0, a1, a2, a3, a4, a5] && rgt [b0, b1, b2, b3, b4, b5] && bothB 0 [a0, a1, a2, a3, a4, a5, b0, b1, b2, b3, b4, b5]) := rfl
theorem F59i : fi 59 0 [a0, a1, a2, a3, a4, a5, b0, b1, b2, b3, b4, b5] = if (rgt [a0, a1, a2, a3, a4, a5] && rgt [b0, b1, b2, b3, b4, b5]) = true then 0 else 1 := rfl
theorem F60i : fi 60 0 [a0, a1, a2, a3, a4, a5, b0, b1, b2, b3, b4, b5] = if (rgt [a0, a1, a2, a3, a4, a5] && rgt [b0, b1, b2, b3, b4, b5]) = true then 0 else 1 := rfl
theorem F61b : fb 61 0 [x, y, c, a0, a1, a2, a3, a4, a5] = (sqg [x, y, c] && (rgt [a0, a1, a2, a3, a4, a5] && sqB [x, y, c, a0, a1, a2, a3, a4, a5])) := rfl
theorem F61i : fi 61 0 [x, y, c, a0, a1, a2, a3, a4, a5] = if sqg [x, y, c] = true then (if rgt [a0, a1, a2, a3, a4, a5] = true then 0 else 1) else 5 := rfl
end
theorem sgn1 (v : Int) : sgn v = 1 ↔ 0 < v := by unfold sgn; (repeat' split) <;> omega
theorem sgn0 (v : Int) : sgn v = 0 ↔ v = 0 := by unfold sgn; (repeat' split) <;> omega
theorem sgnlt1 (v : Int) : sgn v < 1 ↔ v ≤ 0 := by unfold sgn; (repeat' split) <;> omega
theorem sgnlt0 (v : Int) : sgn v < 0 ↔ v < 0 := by unfold sgn; (repeat' split) <;> omega
theorem sgn_b (v : Int) : -1 ≤ sgn v ∧ sgn v ≤ 1 := by unfold sgn; (repeat' split) <;> omega
section
variable {a0 a1 a2 a3 a4 a5 b0 b1 b2 b3 b4 b5 x y : Int}
theorem rgt_iff : rgt [a0, a1, a2, a3, a4, a5] = true ↔ ((us a0 = true ∧ us a1 = true ∧ us a2 = true ∧ us a3 = true ∧ us a4 = true ∧ us a5 = true) ∧ areaV [a0, a1, a2, a3, a4, a5] ≠ 0) := by
  unfold rgt
  simp [and_assoc]
theorem edq_ev (h : rgt [a0, a1, a2, a3, a4, a5] = true) (hx : us x = true) (hy : us y = true) (i : Nat) (hi : i < 3) : edq [a0, a1, a2, a3, a4, a5] i x y = sgn (Geo.ev [a0, a1, a2, a3, a4, a5] i x y) := by
  obtain ⟨⟨h0, h1, h2, h3, h4, h5⟩, hA⟩ := rgt_iff.1 h
  have e1 : sdq [a0, a1, a2, a3, a4, a5] = sgn (areaV [a0, a1, a2, a3, a4, a5]) := by unfold sdq; simp [h0, h1, h2, h3, h4, h5]
  have e2 : edq [a0, a1, a2, a3, a4, a5] i x y = sgn (areaV [a0, a1, a2, a3, a4, a5]) * sgn (cz [a0, a1, a2, a3, a4, a5] i x y) := by
    have hi3 : i = 0 ∨ i = 1 ∨ i = 2 := by omega
    unfold edq
    rw [e1]
    congr 1
    rcases hi3 with rfl | rfl | rfl
    · show sdq [a0, a1, a2, a3, x, y] = sgn (areaV [a0, a1, a2, a3, x, y]); unfold sdq; simp [h0, h1, h2, h3, hx, hy]
    · show sdq [a2, a3, a4, a5, x, y] = sgn (areaV [a2, a3, a4, a5, x, y]); unfold sdq; simp [h2, h3, h4, h5, hx, hy]
    · show sdq [a4, a5, a0, a1, x, y] = sgn (areaV [a4, a5, a0, a1, x, y]); unfold sdq; simp [h0, h1, h4, h5, hx, hy]
  rw [e2]
  unfold Geo.ev
  by_cases hp : 0 < areaV [a0, a1, a2, a3, a4, a5]
  · rw [if_pos hp, (sgn1 _).2 hp, Int.one_mul]
  · rw [if_neg hp, sgn_neg', show sgn (areaV [a0, a1, a2, a3, a4, a5]) = -1 by unfold sgn; rw [if_pos (by omega)], Int.neg_mul, Int.one_mul]
/-- An edge leaves a small triangle's corners outside, or on it. -/
theorem out1 (h : rgt [a0, a1, a2, a3, a4, a5] = true) (hb : rgt [b0, b1, b2, b3, b4, b5] = true) (i : Nat) (hi : i < 3) :
    outE [a0, a1, a2, a3, a4, a5] i 1 (ptsOf [b0, b1, b2, b3, b4, b5]) = true ↔ (Geo.ev [a0, a1, a2, a3, a4, a5] i b0 b1 ≤ 0 ∧ Geo.ev [a0, a1, a2, a3, a4, a5] i b2 b3 ≤ 0 ∧ Geo.ev [a0, a1, a2, a3, a4, a5] i b4 b5 ≤ 0) := by
  obtain ⟨⟨h0, h1, h2, h3, h4, h5⟩, _⟩ := rgt_iff.1 hb
  simp only [outE, ptsOf, List.all_cons, List.all_nil, Bool.and_true, Bool.and_eq_true, decide_eq_true_eq, edq_ev h h0 h1 i hi, edq_ev h h2 h3 i hi, edq_ev h h4 h5 i hi, sgnlt1]
theorem out0 (h : rgt [a0, a1, a2, a3, a4, a5] = true) (hb : rgt [b0, b1, b2, b3, b4, b5] = true) (i : Nat) (hi : i < 3) :
    outE [a0, a1, a2, a3, a4, a5] i 0 (ptsOf [b0, b1, b2, b3, b4, b5]) = true ↔ (Geo.ev [a0, a1, a2, a3, a4, a5] i b0 b1 < 0 ∧ Geo.ev [a0, a1, a2, a3, a4, a5] i b2 b3 < 0 ∧ Geo.ev [a0, a1, a2, a3, a4, a5] i b4 b5 < 0) := by
  obtain ⟨⟨h0, h1, h2, h3, h4, h5⟩, _⟩ := rgt_iff.1 hb
  simp only [outE, ptsOf, List.all_cons, List.all_nil, Bool.and_true, Bool.and_eq_true, decide_eq_true_eq, edq_ev h h0 h1 i hi, edq_ev h h2 h3 i hi, edq_ev h h4 h5 i hi, sgnlt0]
theorem apB_iff {t : List Int} {c : Int} {l : List Int} : apB t c l = true ↔ ∃ i, i < 3 ∧ outE t i c (ptsOf l) = true := by
  unfold apB
  simp only [Bool.or_eq_true]
  constructor
  · rintro (h | h | h)
    · exact ⟨0, by omega, h⟩
    · exact ⟨1, by omega, h⟩
    · exact ⟨2, by omega, h⟩
  · rintro ⟨i, hi, h⟩
    have hi3 : i = 0 ∨ i = 1 ∨ i = 2 := by omega
    rcases hi3 with rfl | rfl | rfl
    · exact .inl h
    · exact .inr (.inl h)
    · exact .inr (.inr h)
theorem inV_2 (h : rgt [a0, a1, a2, a3, a4, a5] = true) (hx : us x = true) (hy : us y = true) (hv : inV [x, y, a0, a1, a2, a3, a4, a5] = 2) (i : Nat) (hi : i < 3) : 0 < Geo.ev [a0, a1, a2, a3, a4, a5] i x y := by
  have h0 := edq_ev h hx hy 0 (by omega); have h1 := edq_ev h hx hy 1 (by omega); have h2 := edq_ev h hx hy 2 (by omega)
  have hv : min (min (min 1 (edq [a0, a1, a2, a3, a4, a5] 0 x y)) (edq [a0, a1, a2, a3, a4, a5] 1 x y)) (edq [a0, a1, a2, a3, a4, a5] 2 x y) + 1 = 2 := hv
  rw [h0, h1, h2] at hv
  have s0 := sgn_b (Geo.ev [a0, a1, a2, a3, a4, a5] 0 x y); have s1 := sgn_b (Geo.ev [a0, a1, a2, a3, a4, a5] 1 x y); have s2 := sgn_b (Geo.ev [a0, a1, a2, a3, a4, a5] 2 x y)
  have hi3 : i = 0 ∨ i = 1 ∨ i = 2 := by omega
  rcases hi3 with rfl | rfl | rfl <;> exact (sgn1 _).1 (by omega)
theorem inV_1 (h : rgt [a0, a1, a2, a3, a4, a5] = true) (hx : us x = true) (hy : us y = true) (hv : inV [x, y, a0, a1, a2, a3, a4, a5] ≠ 0) (i : Nat) (hi : i < 3) : 0 ≤ Geo.ev [a0, a1, a2, a3, a4, a5] i x y := by
  have h0 := edq_ev h hx hy 0 (by omega); have h1 := edq_ev h hx hy 1 (by omega); have h2 := edq_ev h hx hy 2 (by omega)
  have hv : min (min (min 1 (edq [a0, a1, a2, a3, a4, a5] 0 x y)) (edq [a0, a1, a2, a3, a4, a5] 1 x y)) (edq [a0, a1, a2, a3, a4, a5] 2 x y) + 1 ≠ 0 := hv
  rw [h0, h1, h2] at hv
  have s0 := sgn_b (Geo.ev [a0, a1, a2, a3, a4, a5] 0 x y); have s1 := sgn_b (Geo.ev [a0, a1, a2, a3, a4, a5] 1 x y); have s2 := sgn_b (Geo.ev [a0, a1, a2, a3, a4, a5] 2 x y)
  have key : ∀ v : Int, 0 ≤ sgn v → 0 ≤ v := fun v hh => by
    apply Classical.byContradiction; intro hn
    have := (sgnlt0 v).2 (by omega); omega
  have hi3 : i = 0 ∨ i = 1 ∨ i = 2 := by omega
  rcases hi3 with rfl | rfl | rfl <;> exact key _ (by omega)
theorem no_out1 (h : rgt [a0, a1, a2, a3, a4, a5] = true) (hb : rgt [b0, b1, b2, b3, b4, b5] = true) (pa : ∀ i, i < 3 → 0 < Geo.ev [a0, a1, a2, a3, a4, a5] i x y) (pb : ∀ i, i < 3 → 0 ≤ Geo.ev [b0, b1, b2, b3, b4, b5] i x y) : apB [a0, a1, a2, a3, a4, a5] 1 [b0, b1, b2, b3, b4, b5] = false := by
  rw [Bool.eq_false_iff]; intro hh
  obtain ⟨i, hi, ho⟩ := apB_iff.1 hh
  obtain ⟨o0, o1, o2⟩ := (out1 h hb i hi).1 ho
  have := in_le (weigh [a0, a1, a2, a3, a4, a5] i b0 b1 b2 b3 b4 b5 x y) (ab_pos (rgt_iff.1 hb).2) (pb 0 (by omega)) (pb 1 (by omega)) (pb 2 (by omega)) o2 o0 o1
  have := pa i hi
  omega
theorem no_out0 (h : rgt [a0, a1, a2, a3, a4, a5] = true) (hb : rgt [b0, b1, b2, b3, b4, b5] = true) (pa : ∀ i, i < 3 → 0 ≤ Geo.ev [a0, a1, a2, a3, a4, a5] i x y) (pb : ∀ i, i < 3 → 0 ≤ Geo.ev [b0, b1, b2, b3, b4, b5] i x y) : apB [a0, a1, a2, a3, a4, a5] 0 [b0, b1, b2, b3, b4, b5] = false := by
  rw [Bool.eq_false_iff]; intro hh
  obtain ⟨i, hi, ho⟩ := apB_iff.1 hh
  obtain ⟨o0, o1, o2⟩ := (out0 h hb i hi).1 ho
  have := in_lt (weigh [a0, a1, a2, a3, a4, a5] i b0 b1 b2 b3 b4 b5 x y) (ev_sum ..) (ab_pos (rgt_iff.1 hb).2) (pb 0 (by omega)) (pb 1 (by omega)) (pb 2 (by omega)) o2 o0 o1
  have := pa i hi
  omega
theorem pt1 (h : rgt [a0, a1, a2, a3, a4, a5] = true) (hb : rgt [b0, b1, b2, b3, b4, b5] = true) (hs : (us x && us y) = true) (ia : inV [x, y, a0, a1, a2, a3, a4, a5] = 2) (ib : inV [x, y, b0, b1, b2, b3, b4, b5] = 2) : bothB 1 [a0, a1, a2, a3, a4, a5, b0, b1, b2, b3, b4, b5] = true := by
  simp only [Bool.and_eq_true] at hs
  have pa := inV_2 h hs.1 hs.2 ia; have pb := inV_2 hb hs.1 hs.2 ib
  show (!apB [a0, a1, a2, a3, a4, a5] 1 [b0, b1, b2, b3, b4, b5] && !apB [b0, b1, b2, b3, b4, b5] 1 [a0, a1, a2, a3, a4, a5]) = true
  rw [no_out1 h hb pa (fun i hi => by have := pb i hi; omega), no_out1 hb h pb (fun i hi => by have := pa i hi; omega)]; rfl
theorem pt2 (h : rgt [a0, a1, a2, a3, a4, a5] = true) (hb : rgt [b0, b1, b2, b3, b4, b5] = true) (hs : (us x && us y) = true) (ia : inV [x, y, a0, a1, a2, a3, a4, a5] ≠ 0) (ib : inV [x, y, b0, b1, b2, b3, b4, b5] ≠ 0) : bothB 0 [a0, a1, a2, a3, a4, a5, b0, b1, b2, b3, b4, b5] = true := by
  simp only [Bool.and_eq_true] at hs
  have pa := inV_1 h hs.1 hs.2 ia; have pb := inV_1 hb hs.1 hs.2 ib
  show (!apB [a0, a1, a2, a3, a4, a5] 0 [b0, b1, b2, b3, b4, b5] && !apB [b0, b1, b2, b3, b4, b5] 0 [a0, a1, a2, a3, a4, a5]) = true
  rw [no_out0 h hb pa pb, no_out0 hb h pb pa]; rfl
end
theorem outE_mono {t : List Int} {i : Nat} {l : List (Int × Int)} (h : outE t i 0 l = true) : outE t i 1 l = true := by
  unfold outE at *
  rw [List.all_eq_true] at *
  intro p hp
  have := h p hp
  simp only [decide_eq_true_eq] at *
  omega
theorem apB_mono {t l : List Int} (h : apB t 1 l = false) : apB t 0 l = false := by
  rw [Bool.eq_false_iff] at *
  intro hh
  obtain ⟨i, hi, ho⟩ := apB_iff.1 hh
  exact h (apB_iff.2 ⟨i, hi, outE_mono ho⟩)
theorem pt3 {l : List Int} (h : bothB 1 l = true) : bothB 0 l = true := by
  unfold bothB at *
  simp only [Bool.and_eq_true, Bool.not_eq_true'] at *
  exact ⟨apB_mono h.1, apB_mono h.2⟩
section
variable {a0 a1 a2 a3 a4 a5 b0 b1 b2 b3 b4 b5 x y : Int}
/- The corners of a triangle. -/
theorem cz_c (t : List Int) (i : Nat) (x y : Int) (h : Geo.cz t i x y = 0) : Geo.ev t i x y = 0 := by unfold Geo.ev; split <;> omega
theorem cz_o (t : List Int) (i : Nat) (x y : Int) (h : Geo.cz t i x y = areaV t) : Geo.ev t i x y = ab t := by unfold Geo.ev ab; split <;> omega
theorem crp_1 (o p : P2) : crp o p o = 0 := by unfold crp; grind
theorem crp_2 (o p : P2) : crp o p p = 0 := by unfold crp; grind
theorem ev00 : Geo.ev [a0, a1, a2, a3, a4, a5] 0 a0 a1 = 0 := cz_c _ _ _ _ (crp_1 ⟨a0, a1⟩ ⟨a2, a3⟩)
theorem ev01 : Geo.ev [a0, a1, a2, a3, a4, a5] 0 a2 a3 = 0 := cz_c _ _ _ _ (crp_2 ⟨a0, a1⟩ ⟨a2, a3⟩)
theorem ev02 : Geo.ev [a0, a1, a2, a3, a4, a5] 0 a4 a5 = ab [a0, a1, a2, a3, a4, a5] := cz_o _ _ _ _ rfl
theorem ev11 : Geo.ev [a0, a1, a2, a3, a4, a5] 1 a2 a3 = 0 := cz_c _ _ _ _ (crp_1 ⟨a2, a3⟩ ⟨a4, a5⟩)
theorem ev12 : Geo.ev [a0, a1, a2, a3, a4, a5] 1 a4 a5 = 0 := cz_c _ _ _ _ (crp_2 ⟨a2, a3⟩ ⟨a4, a5⟩)
theorem ev10 : Geo.ev [a0, a1, a2, a3, a4, a5] 1 a0 a1 = ab [a0, a1, a2, a3, a4, a5] := cz_o _ _ _ _ (crp_cyc ⟨a0, a1⟩ ⟨a2, a3⟩ ⟨a4, a5⟩).symm
theorem ev22 : Geo.ev [a0, a1, a2, a3, a4, a5] 2 a4 a5 = 0 := cz_c _ _ _ _ (crp_1 ⟨a4, a5⟩ ⟨a0, a1⟩)
theorem ev20 : Geo.ev [a0, a1, a2, a3, a4, a5] 2 a0 a1 = 0 := cz_c _ _ _ _ (crp_2 ⟨a4, a5⟩ ⟨a0, a1⟩)
theorem ev21 : Geo.ev [a0, a1, a2, a3, a4, a5] 2 a2 a3 = ab [a0, a1, a2, a3, a4, a5] := cz_o _ _ _ _ (crp_cyc ⟨a4, a5⟩ ⟨a0, a1⟩ ⟨a2, a3⟩)
theorem corner (h : rgt [a0, a1, a2, a3, a4, a5] = true) (hx : us x = true) (hy : us y = true) (e0 : Geo.ev [a0, a1, a2, a3, a4, a5] 0 x y = 0 ∨ Geo.ev [a0, a1, a2, a3, a4, a5] 0 x y = ab [a0, a1, a2, a3, a4, a5])
    (e1 : Geo.ev [a0, a1, a2, a3, a4, a5] 1 x y = 0 ∨ Geo.ev [a0, a1, a2, a3, a4, a5] 1 x y = ab [a0, a1, a2, a3, a4, a5]) (e2 : Geo.ev [a0, a1, a2, a3, a4, a5] 2 x y = 0 ∨ Geo.ev [a0, a1, a2, a3, a4, a5] 2 x y = ab [a0, a1, a2, a3, a4, a5])
    (h0 : Geo.ev [a0, a1, a2, a3, a4, a5] 0 x y = 0 ∨ Geo.ev [a0, a1, a2, a3, a4, a5] 1 x y = 0) : inV [x, y, a0, a1, a2, a3, a4, a5] = 1 := by
  have k0 := edq_ev h hx hy 0 (by omega); have k1 := edq_ev h hx hy 1 (by omega); have k2 := edq_ev h hx hy 2 (by omega)
  have hp := ab_pos (rgt_iff.1 h).2
  show min (min (min 1 (edq [a0, a1, a2, a3, a4, a5] 0 x y)) (edq [a0, a1, a2, a3, a4, a5] 1 x y)) (edq [a0, a1, a2, a3, a4, a5] 2 x y) + 1 = 1
  rw [k0, k1, k2]
  have z : ∀ v : Int, (v = 0 ∨ v = ab [a0, a1, a2, a3, a4, a5]) → (v = 0 → sgn v = 0) ∧ 0 ≤ sgn v := fun v hv => ⟨fun e => (sgn0 v).2 e, by
    rcases hv with e | e
    · rw [(sgn0 v).2 e]; omega
    · rw [(sgn1 v).2 (by omega)]; omega⟩
  have z0 := z _ e0; have z1 := z _ e1; have z2 := z _ e2
  rcases h0 with h0 | h0
  · have := z0.1 h0; omega
  · have := z1.1 h0; omega
theorem corners (h : rgt [a0, a1, a2, a3, a4, a5] = true) : inV [a0, a1, a0, a1, a2, a3, a4, a5] = 1 ∧ inV [a2, a3, a0, a1, a2, a3, a4, a5] = 1 ∧ inV [a4, a5, a0, a1, a2, a3, a4, a5] = 1 := by
  obtain ⟨⟨h0, h1, h2, h3, h4, h5⟩, _⟩ := rgt_iff.1 h
  exact ⟨corner h h0 h1 (.inl ev00) (.inr ev10) (.inl ev20) (.inl ev00), corner h h2 h3 (.inl ev01) (.inl ev11) (.inr ev21) (.inl ev01), corner h h4 h5 (.inr ev02) (.inl ev12) (.inl ev22) (.inr ev12)⟩
theorem self1 (h : rgt [a0, a1, a2, a3, a4, a5] = true) : bothB 1 [a0, a1, a2, a3, a4, a5, a0, a1, a2, a3, a4, a5] = true := by
  have hp := ab_pos (rgt_iff.1 h).2
  have key : apB [a0, a1, a2, a3, a4, a5] 1 [a0, a1, a2, a3, a4, a5] = false := by
    rw [Bool.eq_false_iff]; intro hh
    obtain ⟨i, hi, ho⟩ := apB_iff.1 hh
    obtain ⟨o0, o1, o2⟩ := (out1 h h i hi).1 ho
    have hi3 : i = 0 ∨ i = 1 ∨ i = 2 := by omega
    rcases hi3 with rfl | rfl | rfl
    · rw [ev02] at o2; omega
    · rw [ev10] at o0; omega
    · rw [ev21] at o1; omega
  show (!apB [a0, a1, a2, a3, a4, a5] 1 [a0, a1, a2, a3, a4, a5] && !apB [a0, a1, a2, a3, a4, a5] 1 [a0, a1, a2, a3, a4, a5]) = true
  rw [key]; rfl
/-- A square that has a point of the triangle at its corner meets it. -/
theorem sq_corner (h : rgt [a0, a1, a2, a3, a4, a5] = true) (hx : us x = true) (hy : us y = true) (e : ∀ i, i < 3 → 0 ≤ Geo.ev [a0, a1, a2, a3, a4, a5] i x y) (c : Int) (l : List (Int × Int)) : apB [a0, a1, a2, a3, a4, a5] 0 (sqC [x, y, c, a0, a1, a2, a3, a4, a5]) = false := by
  rw [Bool.eq_false_iff]; intro hh
  obtain ⟨i, hi, ho⟩ := apB_iff.1 hh
  have h1 : (decide (edq [a0, a1, a2, a3, a4, a5] i x y < 0) && _) = true := ho
  simp only [Bool.and_eq_true, decide_eq_true_eq] at h1
  have := h1.1
  rw [edq_ev h hx hy i hi, sgnlt0] at this
  have := e i hi
  omega
theorem selfsq (h : rgt [a0, a1, a2, a3, a4, a5] = true) : sqB [a0, a1, 1, a0, a1, a2, a3, a4, a5] = true ∧ sqB [a2, a3, 1, a0, a1, a2, a3, a4, a5] = true ∧ sqB [a4, a5, 1, a0, a1, a2, a3, a4, a5] = true := by
  obtain ⟨⟨h0, h1, h2, h3, h4, h5⟩, hA⟩ := rgt_iff.1 h
  have hp := ab_pos hA
  have i3 : ∀ {p : Nat → Prop}, p 0 → p 1 → p 2 → ∀ i, i < 3 → p i := fun q0 q1 q2 i hi => by
    have hi3 : i = 0 ∨ i = 1 ∨ i = 2 := by omega
    rcases hi3 with rfl | rfl | rfl <;> assumption
  refine ⟨?_, ?_, ?_⟩
  · show (sqBox [a0, a1, 1, a0, a1, a2, a3, a4, a5] && !apB [a0, a1, a2, a3, a4, a5] 0 (sqC [a0, a1, 1, a0, a1, a2, a3, a4, a5])) = true
    rw [sq_corner h h0 h1 (i3 (by rw [ev00]; omega) (by rw [ev10]; omega) (by rw [ev20]; omega)) 1 []]
    simp only [sqBox, List.getD_cons_zero, List.getD_cons_succ, Bool.not_false, Bool.and_true, Bool.and_eq_true, decide_eq_true_eq]; omega
  · show (sqBox [a2, a3, 1, a0, a1, a2, a3, a4, a5] && !apB [a0, a1, a2, a3, a4, a5] 0 (sqC [a2, a3, 1, a0, a1, a2, a3, a4, a5])) = true
    rw [sq_corner h h2 h3 (i3 (by rw [ev01]; omega) (by rw [ev11]; omega) (by rw [ev21]; omega)) 1 []]
    simp only [sqBox, List.getD_cons_zero, List.getD_cons_succ, Bool.not_false, Bool.and_true, Bool.and_eq_true, decide_eq_true_eq]; omega
  · show (sqBox [a4, a5, 1, a0, a1, a2, a3, a4, a5] && !apB [a0, a1, a2, a3, a4, a5] 0 (sqC [a4, a5, 1, a0, a1, a2, a3, a4, a5])) = true
    rw [sq_corner h h4 h5 (i3 (by rw [ev02]; omega) (by rw [ev12]; omega) (by rw [ev22]; omega)) 1 []]
    simp only [sqBox, List.getD_cons_zero, List.getD_cons_succ, Bool.not_false, Bool.and_true, Bool.and_eq_true, decide_eq_true_eq]; omega
/-- What no edge parts, turned one way: six numbers as points. -/
def NS (a b : List Int) : Prop := ∀ i, i < 3 → (0 ≤ Geo.ev a i (b.getD 0 0) (b.getD 1 0) ∨ 0 ≤ Geo.ev a i (b.getD 2 0) (b.getD 3 0) ∨ 0 ≤ Geo.ev a i (b.getD 4 0) (b.getD 5 0))
theorem ns_of (h : rgt [a0, a1, a2, a3, a4, a5] = true) (hb : rgt [b0, b1, b2, b3, b4, b5] = true) (hn : apB [a0, a1, a2, a3, a4, a5] 0 [b0, b1, b2, b3, b4, b5] = false) : NS [a0, a1, a2, a3, a4, a5] [b0, b1, b2, b3, b4, b5] := by
  intro i hi
  apply Classical.byContradiction; intro hc
  rw [Bool.eq_false_iff] at hn
  refine hn (apB_iff.2 ⟨i, hi, (out0 h hb i hi).2 ?_⟩)
  have hc : ¬ (0 ≤ Geo.ev [a0, a1, a2, a3, a4, a5] i b0 b1 ∨ 0 ≤ Geo.ev [a0, a1, a2, a3, a4, a5] i b2 b3 ∨ 0 ≤ Geo.ev [a0, a1, a2, a3, a4, a5] i b4 b5) := hc
  omega
end
theorem sat_list {a0 a1 a2 a3 a4 a5 b0 b1 b2 b3 b4 b5 : Int} (hA : areaV [a0, a1, a2, a3, a4, a5] ≠ 0) (hB : areaV [b0, b1, b2, b3, b4, b5] ≠ 0) (h1 : NS [a0, a1, a2, a3, a4, a5] [b0, b1, b2, b3, b4, b5]) (h2 : NS [b0, b1, b2, b3, b4, b5] [a0, a1, a2, a3, a4, a5]) :
    ¬ (max (max a0 a2) a4 < min (min b0 b2) b4) := by
  have x0 := h1 0 (by omega); have x1 := h1 1 (by omega); have x2 := h1 2 (by omega)
  have y0 := h2 0 (by omega); have y1 := h2 1 (by omega); have y2 := h2 2 (by omega)
  clear h1 h2
  simp only [List.getD_cons_zero, List.getD_cons_succ] at x0 x1 x2 y0 y1 y2
  unfold Geo.ev at x0 x1 x2 y0 y1 y2
  have r3 : ∀ {a b c : Prop}, a ∨ b ∨ c → b ∨ a ∨ c := fun h => by rcases h with h | h | h <;> simp [h]
  have sw : ∀ (p q v : P2), 0 ≤ - crp p q v → 0 ≤ crp q p v := fun p q v h => by rw [crp_sw]; exact h
  have sw3 : ∀ {p q u v w : P2}, (0 ≤ - crp p q u ∨ 0 ≤ - crp p q v ∨ 0 ≤ - crp p q w) → (0 ≤ crp q p v ∨ 0 ≤ crp q p u ∨ 0 ≤ crp q p w) := fun h => by
    rcases h with h | h | h
    · exact .inr (.inl (sw _ _ _ h))
    · exact .inl (sw _ _ _ h)
    · exact .inr (.inr (sw _ _ _ h))
  have sv3 : ∀ {p q u v w : P2}, (0 ≤ - crp p q u ∨ 0 ≤ - crp p q v ∨ 0 ≤ - crp p q w) → (0 ≤ crp q p u ∨ 0 ≤ crp q p v ∨ 0 ≤ crp q p w) := fun h => r3 (sw3 h)
  by_cases pa : 0 < areaV [a0, a1, a2, a3, a4, a5] <;> by_cases pb : 0 < areaV [b0, b1, b2, b3, b4, b5]
  · simp only [if_pos pa, if_pos pb] at x0 x1 x2 y0 y1 y2
    exact sat1 ⟨a0, a1⟩ ⟨a2, a3⟩ ⟨a4, a5⟩ ⟨b0, b1⟩ ⟨b2, b3⟩ ⟨b4, b5⟩ pa pb x0 x1 x2 y0 y1 y2
  · simp only [if_pos pa, if_neg pb] at x0 x1 x2 y0 y1 y2
    have pb' : 0 < crp ⟨b2, b3⟩ ⟨b0, b1⟩ ⟨b4, b5⟩ := by rw [crp_sw]; have : crp ⟨b0, b1⟩ ⟨b2, b3⟩ ⟨b4, b5⟩ = areaV [b0, b1, b2, b3, b4, b5] := rfl; omega
    have := sat1 ⟨a0, a1⟩ ⟨a2, a3⟩ ⟨a4, a5⟩ ⟨b2, b3⟩ ⟨b0, b1⟩ ⟨b4, b5⟩ pa pb' (r3 x0) (r3 x1) (r3 x2) (sv3 y0) (sv3 y2) (sv3 y1)
    intro h; exact this (by show max (max a0 a2) a4 < min (min b2 b0) b4; omega)
  · simp only [if_neg pa, if_pos pb] at x0 x1 x2 y0 y1 y2
    have pa' : 0 < crp ⟨a2, a3⟩ ⟨a0, a1⟩ ⟨a4, a5⟩ := by rw [crp_sw]; have : crp ⟨a0, a1⟩ ⟨a2, a3⟩ ⟨a4, a5⟩ = areaV [a0, a1, a2, a3, a4, a5] := rfl; omega
    have := sat1 ⟨a2, a3⟩ ⟨a0, a1⟩ ⟨a4, a5⟩ ⟨b0, b1⟩ ⟨b2, b3⟩ ⟨b4, b5⟩ pa' pb (sv3 x0) (sv3 x2) (sv3 x1) (r3 y0) (r3 y1) (r3 y2)
    intro h; exact this (by show max (max a2 a0) a4 < min (min b0 b2) b4; omega)
  · simp only [if_neg pa, if_neg pb] at x0 x1 x2 y0 y1 y2
    have pa' : 0 < crp ⟨a2, a3⟩ ⟨a0, a1⟩ ⟨a4, a5⟩ := by rw [crp_sw]; have : crp ⟨a0, a1⟩ ⟨a2, a3⟩ ⟨a4, a5⟩ = areaV [a0, a1, a2, a3, a4, a5] := rfl; omega
    have pb' : 0 < crp ⟨b2, b3⟩ ⟨b0, b1⟩ ⟨b4, b5⟩ := by rw [crp_sw]; have : crp ⟨b0, b1⟩ ⟨b2, b3⟩ ⟨b4, b5⟩ = areaV [b0, b1, b2, b3, b4, b5] := rfl; omega
    have := sat1 ⟨a2, a3⟩ ⟨a0, a1⟩ ⟨a4, a5⟩ ⟨b2, b3⟩ ⟨b0, b1⟩ ⟨b4, b5⟩ pa' pb' (sw3 x0) (sw3 x2) (sw3 x1) (sw3 y0) (sw3 y2) (sw3 y1)
    intro h; exact this (by show max (max a2 a0) a4 < min (min b2 b0) b4; omega)
/- The same along the other axis: turned by a quarter. -/
theorem area_q (a b c d e f : Int) : areaV [b, -a, d, -c, f, -e] = areaV [a, b, c, d, e, f] := by simp only [areaV, cr2, List.getD_cons_zero, List.getD_cons_succ]; grind
theorem ev_q (a0 a1 a2 a3 a4 a5 x y : Int) (i : Nat) (hi : i < 3) : Geo.ev [a1, -a0, a3, -a2, a5, -a4] i y (-x) = Geo.ev [a0, a1, a2, a3, a4, a5] i x y := by
  have hi3 : i = 0 ∨ i = 1 ∨ i = 2 := by omega
  have hz : Geo.cz [a1, -a0, a3, -a2, a5, -a4] i y (-x) = Geo.cz [a0, a1, a2, a3, a4, a5] i x y := by
    rcases hi3 with rfl | rfl | rfl
    · exact area_q a0 a1 a2 a3 x y
    · exact area_q a2 a3 a4 a5 x y
    · exact area_q a4 a5 a0 a1 x y
  unfold Geo.ev
  rw [area_q, hz]
theorem sat_list_y {a0 a1 a2 a3 a4 a5 b0 b1 b2 b3 b4 b5 : Int} (hA : areaV [a0, a1, a2, a3, a4, a5] ≠ 0) (hB : areaV [b0, b1, b2, b3, b4, b5] ≠ 0) (h1 : NS [a0, a1, a2, a3, a4, a5] [b0, b1, b2, b3, b4, b5]) (h2 : NS [b0, b1, b2, b3, b4, b5] [a0, a1, a2, a3, a4, a5]) :
    ¬ (max (max a1 a3) a5 < min (min b1 b3) b5) := by
  refine sat_list (a0 := a1) (a1 := -a0) (a2 := a3) (a3 := -a2) (a4 := a5) (a5 := -a4) (b0 := b1) (b1 := -b0) (b2 := b3) (b3 := -b2) (b4 := b5) (b5 := -b4) (by rw [area_q]; exact hA) (by rw [area_q]; exact hB) (fun i hi => ?_) (fun i hi => ?_)
  · have := h1 i hi
    simp only [List.getD_cons_zero, List.getD_cons_succ] at this ⊢
    rw [ev_q _ _ _ _ _ _ _ _ i hi, ev_q _ _ _ _ _ _ _ _ i hi, ev_q _ _ _ _ _ _ _ _ i hi]; exact this
  · have := h2 i hi
    simp only [List.getD_cons_zero, List.getD_cons_succ] at this ⊢
    rw [ev_q _ _ _ _ _ _ _ _ i hi, ev_q _ _ _ _ _ _ _ _ i hi, ev_q _ _ _ _ _ _ _ _ i hi]; exact this
theorem apart0 {a0 a1 a2 a3 a4 a5 b0 b1 b2 b3 b4 b5 : Int} (h : rgt [a0, a1, a2, a3, a4, a5] = true) (hb : rgt [b0, b1, b2, b3, b4, b5] = true) (hs : max (max a0 a2) a4 < min (min b0 b2) b4 ∨ max (max a1 a3) a5 < min (min b1 b3) b5) :
    bothB 0 [a0, a1, a2, a3, a4, a5, b0, b1, b2, b3, b4, b5] = false := by
  rw [Bool.eq_false_iff]; intro hh
  have hh : (!apB [a0, a1, a2, a3, a4, a5] 0 [b0, b1, b2, b3, b4, b5] && !apB [b0, b1, b2, b3, b4, b5] 0 [a0, a1, a2, a3, a4, a5]) = true := hh
  simp only [Bool.and_eq_true, Bool.not_eq_true'] at hh
  have n1 := ns_of h hb hh.1; have n2 := ns_of hb h hh.2
  rcases hs with hs | hs
  · exact sat_list (rgt_iff.1 h).2 (rgt_iff.1 hb).2 n1 n2 hs
  · exact sat_list_y (rgt_iff.1 h).2 (rgt_iff.1 hb).2 n1 n2 hs
section
variable {a0 a1 a2 a3 a4 a5 x y c : Int}
theorem sqg_b (h : sqg [x, y, c] = true) : 1 ≤ c ∧ c ≤ 4096 ∧ us x = true ∧ us y = true ∧ us (x + c) = true ∧ us (y + c) = true := by
  unfold sqg at h
  simp only [List.getD_cons_zero, List.getD_cons_succ, Bool.and_eq_true, decide_eq_true_eq] at h
  exact h
/-- What leaves the square outside. -/
theorem sq_out (h : rgt [a0, a1, a2, a3, a4, a5] = true) (hg : sqg [x, y, c] = true) (ha : apB [a0, a1, a2, a3, a4, a5] 0 (sqC [x, y, c, a0, a1, a2, a3, a4, a5]) = true) :
    ∃ i, i < 3 ∧ Geo.ev [a0, a1, a2, a3, a4, a5] i x y < 0 ∧ Geo.ev [a0, a1, a2, a3, a4, a5] i (x + c) y < 0 ∧ Geo.ev [a0, a1, a2, a3, a4, a5] i (x + c) (y + c) < 0 ∧ Geo.ev [a0, a1, a2, a3, a4, a5] i x (y + c) < 0 := by
  obtain ⟨i, hi, ho⟩ := apB_iff.1 ha
  obtain ⟨_, _, ux, uy, vx, vy⟩ := sqg_b hg
  have h1 : (decide (edq [a0, a1, a2, a3, a4, a5] i x y < 0) && (decide (edq [a0, a1, a2, a3, a4, a5] i (x + c) y < 0) && (decide (edq [a0, a1, a2, a3, a4, a5] i (x + c) (y + c) < 0) && (decide (edq [a0, a1, a2, a3, a4, a5] i x (y + c) < 0) && true)))) = true := ho
  simp only [Bool.and_eq_true, decide_eq_true_eq, edq_ev h ux uy i hi, edq_ev h vx uy i hi, edq_ev h vx vy i hi, edq_ev h ux vy i hi, sgnlt0] at h1
  exact ⟨i, hi, h1.1, h1.2.1, h1.2.2.1, h1.2.2.2.1⟩
theorem sq_in (h : rgt [a0, a1, a2, a3, a4, a5] = true) (hg : sqg [x, y, c] = true) {i : Nat} (hi : i < 3) (h1 : Geo.ev [a0, a1, a2, a3, a4, a5] i x y < 0) (h2 : Geo.ev [a0, a1, a2, a3, a4, a5] i (x + c) y < 0) (h3 : Geo.ev [a0, a1, a2, a3, a4, a5] i (x + c) (y + c) < 0) (h4 : Geo.ev [a0, a1, a2, a3, a4, a5] i x (y + c) < 0) :
    apB [a0, a1, a2, a3, a4, a5] 0 (sqC [x, y, c, a0, a1, a2, a3, a4, a5]) = true := by
  obtain ⟨_, _, ux, uy, vx, vy⟩ := sqg_b hg
  refine apB_iff.2 ⟨i, hi, ?_⟩
  show (decide (edq [a0, a1, a2, a3, a4, a5] i x y < 0) && (decide (edq [a0, a1, a2, a3, a4, a5] i (x + c) y < 0) && (decide (edq [a0, a1, a2, a3, a4, a5] i (x + c) (y + c) < 0) && (decide (edq [a0, a1, a2, a3, a4, a5] i x (y + c) < 0) && true)))) = true
  simp only [Bool.and_eq_true, decide_eq_true_eq, edq_ev h ux uy i hi, edq_ev h vx uy i hi, edq_ev h vx vy i hi, edq_ev h ux vy i hi, sgnlt0]
  exact ⟨h1, h2, h3, h4, trivial⟩
/-- A square that has a point of the triangle meets it. -/
theorem sq_has (h : rgt [a0, a1, a2, a3, a4, a5] = true) (hg : sqg [x, y, c] = true) {p q : Int} (up : us p = true) (uq : us q = true) (hv : inV [p, q, a0, a1, a2, a3, a4, a5] ≠ 0) (p1 : x ≤ p) (p2 : p ≤ x + c) (q1 : y ≤ q) (q2 : q ≤ y + c) : sqB [x, y, c, a0, a1, a2, a3, a4, a5] = true := by
  have e := inV_1 h up uq hv
  have e0 := e 0 (by omega); have e1 := e 1 (by omega); have e2 := e 2 (by omega)
  have hD := ab_pos (rgt_iff.1 h).2
  have es := ev_sum a0 a1 a2 a3 a4 a5 p q
  have ex := ev_x a0 a1 a2 a3 a4 a5 p q
  have ey := ev_y a0 a1 a2 a3 a4 a5 p q
  have na : apB [a0, a1, a2, a3, a4, a5] 0 (sqC [x, y, c, a0, a1, a2, a3, a4, a5]) = false := by
    rw [Bool.eq_false_iff]; intro ha
    obtain ⟨i, hi, h1, h2, h3, h4⟩ := sq_out h hg ha
    have := sq_ev [a0, a1, a2, a3, a4, a5] i h1 h2 h3 h4 (u := p - x) (v := q - y) (by omega) (by omega) (by omega) (by omega)
    rw [show x + (p - x) = p by omega, show y + (q - y) = q by omega] at this
    have := e i hi
    omega
  show (sqBox [x, y, c, a0, a1, a2, a3, a4, a5] && !apB [a0, a1, a2, a3, a4, a5] 0 (sqC [x, y, c, a0, a1, a2, a3, a4, a5])) = true
  rw [na]
  generalize Geo.ev [a0, a1, a2, a3, a4, a5] 0 p q = E0 at *
  generalize Geo.ev [a0, a1, a2, a3, a4, a5] 1 p q = E1 at *
  generalize Geo.ev [a0, a1, a2, a3, a4, a5] 2 p q = E2 at *
  generalize ab [a0, a1, a2, a3, a4, a5] = D at *
  -- of a weighed mean some part is no more, some no less
  have lo : ∀ {u v w m k : Int}, E0 * w + E1 * u + E2 * v = D * m → (u ≤ m ∨ v ≤ m ∨ w ≤ m) := fun {u v w m k} hm => by
    apply Classical.byContradiction; intro hn
    have b0 := nn e0 (show 0 ≤ w - m by omega); have b1 := nn e1 (show 0 ≤ u - m by omega); have b2 := nn e2 (show 0 ≤ v - m by omega)
    have hz : E0 * (w - m) + E1 * (u - m) + E2 * (v - m) = 0 := by
      have : E0 * (w - m) + E1 * (u - m) + E2 * (v - m) = (E0 * w + E1 * u + E2 * v) - (E0 + E1 + E2) * m := by grind
      rw [this, hm, es]; omega
    have hc : 0 < E0 ∨ 0 < E1 ∨ 0 < E2 := by omega
    rcases hc with c' | c' | c'
    · have := pp c' (show 0 < w - m by omega); omega
    · have := pp c' (show 0 < u - m by omega); omega
    · have := pp c' (show 0 < v - m by omega); omega
  have hi' : ∀ {u v w m k : Int}, E0 * w + E1 * u + E2 * v = D * m → (m ≤ u ∨ m ≤ v ∨ m ≤ w) := fun {u v w m k} hm => by
    apply Classical.byContradiction; intro hn
    have b0 := nn e0 (show 0 ≤ m - w by omega); have b1 := nn e1 (show 0 ≤ m - u by omega); have b2 := nn e2 (show 0 ≤ m - v by omega)
    have hz : E0 * (m - w) + E1 * (m - u) + E2 * (m - v) = 0 := by
      have : E0 * (m - w) + E1 * (m - u) + E2 * (m - v) = (E0 + E1 + E2) * m - (E0 * w + E1 * u + E2 * v) := by grind
      rw [this, hm, es]; omega
    have hc : 0 < E0 ∨ 0 < E1 ∨ 0 < E2 := by omega
    rcases hc with c' | c' | c'
    · have := pp c' (show 0 < m - w by omega); omega
    · have := pp c' (show 0 < m - u by omega); omega
    · have := pp c' (show 0 < m - v by omega); omega
  have lx := lo (k := 0) ex; have ly := lo (k := 0) ey; have hx := hi' (k := 0) ex; have hy := hi' (k := 0) ey
  clear lo hi' ex ey es e hv
  simp only [sqBox, List.getD_cons_zero, List.getD_cons_succ, Bool.not_false, Bool.and_true, Bool.and_eq_true, decide_eq_true_eq]
  omega
/-- A greater square meets what the smaller one does. -/
theorem sq_more (h : rgt [a0, a1, a2, a3, a4, a5] = true) (hg : sqg [x, y, c] = true) (hg2 : sqg [x, y, c + 1] = true) (hs : sqB [x, y, c, a0, a1, a2, a3, a4, a5] = true) : sqB [x, y, c + 1, a0, a1, a2, a3, a4, a5] = true := by
  have hs : (sqBox [x, y, c, a0, a1, a2, a3, a4, a5] && !apB [a0, a1, a2, a3, a4, a5] 0 (sqC [x, y, c, a0, a1, a2, a3, a4, a5])) = true := hs
  show (sqBox [x, y, c + 1, a0, a1, a2, a3, a4, a5] && !apB [a0, a1, a2, a3, a4, a5] 0 (sqC [x, y, c + 1, a0, a1, a2, a3, a4, a5])) = true
  simp only [Bool.and_eq_true, Bool.not_eq_true'] at hs ⊢
  have hc := (sqg_b hg).1
  refine ⟨?_, ?_⟩
  · have := hs.1
    simp only [sqBox, List.getD_cons_zero, List.getD_cons_succ, Bool.and_eq_true, decide_eq_true_eq] at this ⊢
    omega
  · rw [Bool.eq_false_iff]; intro ha
    obtain ⟨i, hi, h1, h2, h3, h4⟩ := sq_out h hg2 ha
    have key := fun u v p1 p2 p3 p4 => sq_ev [a0, a1, a2, a3, a4, a5] i h1 h2 h3 h4 (u := u) (v := v) p1 p2 p3 p4
    have k2 := key c 0 (by omega) (by omega) (by omega) (by omega)
    have k3 := key c c (by omega) (by omega) (by omega) (by omega)
    have k4 := key 0 c (by omega) (by omega) (by omega) (by omega)
    rw [Int.add_zero] at k2 k4
    have := sq_in h hg hi h1 k2 k3 k4
    rw [hs.2] at this; cases this
end
end Go.Proofs.Ytfpnkcmplmkghaa.Sx
