/- Chapter 10's laws, plain: points inside, triangles and squares that meet. -/
import Derived.Test.YtfpnkcmplmkghaaMx
set_option linter.unusedVariables false
set_option linter.unusedSimpArgs false
namespace Go.Proofs.Ytfpnkcmplmkghaa.Sx
open Geo
section
variable (a0 a1 a2 a3 a4 a5 b0 b1 b2 b3 b4 b5 x y c : Int)
theorem F570 : fi 57 0 [x, y, a0, a1, a2, a3, a4, a5] = if (us x && us y && rgt [a0, a1, a2, a3, a4, a5]) = true then inV [x, y, a0, a1, a2, a3, a4, a5] else 0 := by
  show (if ([x, y].all us && rgt [a0, a1, a2, a3, a4, a5]) = true then _ else _) = _
  simp only [List.all_cons, List.all_nil, Bool.and_true]
theorem F571 : fi 57 1 [x, y, a0, a1, a2, a3, a4, a5] = if (us x && us y) = true then (if rgt [a0, a1, a2, a3, a4, a5] = true then 0 else 1) else 5 := by
  show (if [x, y].all us = true then (if rgt [a0, a1, a2, a3, a4, a5] = true then (0 : Int) else 1) else 5) = _
  simp only [List.all_cons, List.all_nil, Bool.and_true]
theorem F59b : fb 59 0 [a0, a1, a2, a3, a4, a5, b0, b1, b2, b3, b4, b5] = (rgt [a0, a1, a2, a3, a4, a5] && rgt [b0, b1, b2, b3, b4, b5] && bothB 1 [a0, a1, a2, a3, a4, a5, b0, b1, b2, b3, b4, b5]) := rfl
theorem F60b : fb 60 0 [a0, a1, a2, a3, a4, a5, b0, b1, b2, b3, b4, b5] = (rgt [a0, a1, a2, a3, a4, a5] && rgt [b0, b1, b2, b3, b4, b5] && bothB 0 [a0, a1, a2, a3, a4, a5, b0, b1, b2, b3, b4, b5]) := rfl
theorem F59i : fi 59 0 [a0, a1, a2, a3, a4, a5, b0, b1, b2, b3, b4, b5] = if (rgt [a0, a1, a2, a3, a4, a5] && rgt [b0, b1, b2, b3, b4, b5]) = true then 0 else 1 := rfl
theorem F60i : fi 60 0 [a0, a1, a2, a3, a4, a5, b0, b1, b2, b3, b4, b5] = if (rgt [a0, a1, a2, a3, a4, a5] && rgt [b0, b1, b2, b3, b4, b5]) = true then 0 else 1 := rfl
theorem F61b : fb 61 0 [x, y, c, a0, a1, a2, a3, a4, a5] = (sqg [x, y, c] && (rgt [a0, a1, a2, a3, a4, a5] && sqB [x, y, c, a0, a1, a2, a3, a4, a5])) := rfl
theorem F61i : fi 61 0 [x, y, c, a0, a1, a2, a3, a4, a5] = if sqg [x, y, c] = true then (if rgt [a0, a1, a2, a3, a4, a5] = true then 0 else 1) else 5 := rfl
end
theorem sgn1 (v : Int) : sgn v = 1 ↔ 0 < v := by unfold sgn; (repeat' split) <;> omega
theorem sgn0 (v : Int) : sgn v = 0 ↔ v = 0 := by unfold sgn; (repeat' split) <;> omega
theorem sgnlt1 (v : Int) : sgn v < 1 ↔ v ≤ 0 := by unfold sgn; (repeat' split) <;> omega
theorem sgnlt0 (v : Int) : sgn v < 0 ↔ v < 0 := by unfold sgn; (repeat' split) <;> omega
theorem sgn_b (v : Int) : -1 ≤ sgn v ∧ sgn v ≤ 1 := by unfold sgn; (repeat' split) <;> omega
section
variable {a0 a1 a2 a3 a4 a5 b0 b1 b2 b3 b4 b5 x y : Int}
theorem rgt_iff : rgt [a0, a1, a2, a3, a4, a5] = true ↔ ((us a0 = true ∧ us a1 = true ∧ us a2 = true ∧ us a3 = true ∧ us a4 = true ∧ us a5 = true) ∧ areaV [a0, a1, a2, a3, a4, a5] ≠ 0) := by
  unfold rgt
  simp [and_assoc]
theorem edq_ev (h : rgt [a0, a1, a2, a3, a4, a5] = true) (hx : us x = true) (hy : us y = true) (i : Nat) (hi : i < 3) : edq [a0, a1, a2, a3, a4, a5] i x y = sgn (Geo.ev [a0, a1, a2, a3, a4, a5] i x y) := by
  obtain ⟨⟨h0, h1, h2, h3, h4, h5⟩, hA⟩ := rgt_iff.1 h
  have e1 : sdq [a0, a1, a2, a3, a4, a5] = sgn (areaV [a0, a1, a2, a3, a4, a5]) := by unfold sdq; simp [h0, h1, h2, h3, h4, h5]
  have e2 : edq [a0, a1, a2, a3, a4, a5] i x y = sgn (areaV [a0, a1, a2, a3, a4, a5]) * sgn (cz [a0, a1, a2, a3, a4, a5] i x y) := by
    have hi3 : i = 0 ∨ i = 1 ∨ i = 2 := by omega
    unfold edq
    rw [e1]
    congr 1
    rcases hi3 with rfl | rfl | rfl
    · show sdq [a0, a1, a2, a3, x, y] = sgn (areaV [a0, a1, a2, a3, x, y]); unfold sdq; simp [h0, h1, h2, h3, hx, hy]
    · show sdq [a2, a3, a4, a5, x, y] = sgn (areaV [a2, a3, a4, a5, x, y]); unfold sdq; simp [h2, h3, h4, h5, hx, hy]
    · show sdq [a4, a5, a0, a1, x, y] = sgn (areaV [a4, a5, a0, a1, x, y]); unfold sdq; simp [h0, h1, h4, h5, hx, hy]
  rw [e2]
  unfold Geo.ev
  by_cases hp : 0 < areaV [a0, a1, a2, a3, a4, a5]
  · rw [if_pos hp, (sgn1 _).2 hp, Int.one_mul]
  · rw [if_neg hp, sgn_neg', show sgn (areaV [a0, a1, a2, a3, a4, a5]) = -1 by unfold sgn; rw [if_pos (by omega)], Int.neg_mul, Int.one_mul]
/-- An edge leaves a small triangle's corners outside, or on it. -/
theorem out1 (h : rgt [a0, a1, a2, a3, a4, a5] = true) (hb : rgt [b0, b1, b2, b3, b4, b5] = true) (i : Nat) (hi : i < 3) :
    outE [a0, a1, a2, a3, a4, a5] i 1 (ptsOf [b0, b1, b2, b3, b4, b5]) = true ↔ (Geo.ev [a0, a1, a2, a3, a4, a5] i b0 b1 ≤ 0 ∧ Geo.ev [a0, a1, a2, a3, a4, a5] i b2 b3 ≤ 0 ∧ Geo.ev [a0, a1, a2, a3, a4, a5] i b4 b5 ≤ 0) := by
  obtain ⟨⟨h0, h1, h2, h3, h4, h5⟩, _⟩ := rgt_iff.1 hb
  simp only [outE, ptsOf, List.all_cons, List.all_nil, Bool.and_true, Bool.and_eq_true, decide_eq_true_eq, edq_ev h h0 h1 i hi, edq_ev h h2 h3 i hi, edq_ev h h4 h5 i hi, sgnlt1]
theorem out0 (h : rgt [a0, a1, a2, a3, a4, a5] = true) (hb : rgt [b0, b1, b2, b3, b4, b5] = true) (i : Nat) (hi : i < 3) :
    outE [a0, a1, a2, a3, a4, a5] i 0 (ptsOf [b0, b1, b2, b3, b4, b5]) = true ↔ (Geo.ev [a0, a1, a2, a3, a4, a5] i b0 b1 < 0 ∧ Geo.ev [a0, a1, a2, a3, a4, a5] i b2 b3 < 0 ∧ Geo.ev [a0, a1, a2, a3, a4, a5] i b4 b5 < 0) := by
  obtain ⟨⟨h0, h1, h2, h3, h4, h5⟩, _⟩ := rgt_iff.1 hb
  simp only [outE, ptsOf, List.all_cons, List.all_nil, Bool.and_true, Bool.and_eq_true, decide_eq_true_eq, edq_ev h h0 h1 i hi, edq_ev h h2 h3 i hi, edq_ev h h4 h5 i hi, sgnlt0]
theorem apB_iff {t : List Int} {c : Int} {l : List Int} : apB t c l = true ↔ ∃ i, i < 3 ∧ outE t i c (ptsOf l) = true := by
  unfold apB
  simp only [Bool.or_eq_true]
  constructor
  · rintro (h | h | h)
    · exact ⟨0, by omega, h⟩
    · exact ⟨1, by omega, h⟩
    · exact ⟨2, by omega, h⟩
  · rintro ⟨i, hi, h⟩
    have hi3 : i = 0 ∨ i = 1 ∨ i = 2 := by omega
    rcases hi3 with rfl | rfl | rfl
    · exact .inl h
    · exact .inr (.inl h)
    · exact .inr (.inr h)
theorem inV_2 (h : rgt [a0, a1, a2, a3, a4, a5] = true) (hx : us x = true) (hy : us y = true) (hv : inV [x, y, a0, a1, a2, a3, a4, a5] = 2) (i : Nat) (hi : i < 3) : 0 < Geo.ev [a0, a1, a2, a3, a4, a5] i x y := by
  have h0 := edq_ev h hx hy 0 (by omega); have h1 := edq_ev h hx hy 1 (by omega); have h2 := edq_ev h hx hy 2 (by omega)
  have hv : min (min (min 1 (edq [a0, a1, a2, a3, a4, a5] 0 x y)) (edq [a0, a1, a2, a3, a4, a5] 1 x y)) (edq [a0, a1, a2, a3, a4, a5] 2 x y) + 1 = 2 := hv
  rw [h0, h1, h2] at hv
  have s0 := sgn_b (Geo.ev [a0, a1, a2, a3, a4, a5] 0 x y); have s1 := sgn_b (Geo.ev [a0, a1, a2, a3, a4, a5] 1 x y); have s2 := sgn_b (Geo.ev [a0, a1, a2, a3, a4, a5] 2 x y)
  have hi3 : i = 0 ∨ i = 1 ∨ i = 2 := by omega
  rcases hi3 with rfl | rfl | rfl <;> exact (sgn1 _).1 (by omega)
theorem inV_1 (h : rgt [a0, a1, a2, a3, a4, a5] = true) (hx : us x = true) (hy : us y = true) (hv : inV [x, y, a0, a1, a2, a3, a4, a5] ≠ 0) (i : Nat) (hi : i < 3) : 0 ≤ Geo.ev [a0, a1, a2, a3, a4, a5] i x y := by
  have h0 := edq_ev h hx hy 0 (by omega); have h1 := edq_ev h hx hy 1 (by omega); have h2 := edq_ev h hx hy 2 (by omega)
  have hv : min (min (min 1 (edq [a0, a1, a2, a3, a4, a5] 0 x y)) (edq [a0, a1, a2, a3, a4, a5] 1 x y)) (edq [a0, a1, a2, a3, a4, a5] 2 x y) + 1 ≠ 0 := hv
  rw [h0, h1, h2] at hv
  have s0 := sgn_b (Geo.ev [a0, a1, a2, a3, a4, a5] 0 x y); have s1 := sgn_b (Geo.ev [a0, a1, a2, a3, a4, a5] 1 x y); have s2 := sgn_b (Geo.ev [a0, a1, a2, a3, a4, a5] 2 x y)
  have key : ∀ v : Int, 0 ≤ sgn v → 0 ≤ v := fun v hh => by
    apply Classical.byContradiction; intro hn
    have := (sgnlt0 v).2 (by omega); omega
  have hi3 : i = 0 ∨ i = 1 ∨ i = 2 := by omega
  rcases hi3 with rfl | rfl | rfl <;> exact key _ (by omega)
theorem no_out1 (h : rgt [a0, a1, a2, a3, a4, a5] = true) (hb : rgt [b0, b1, b2, b3, b4, b5] = true) (pa : ∀ i, i < 3 → 0 < Geo.ev [a0, a1, a2, a3, a4, a5] i x y) (pb : ∀ i, i < 3 → 0 ≤ Geo.ev [b0, b1, b2, b3, b4, b5] i x y) : apB [a0, a1, a2, a3, a4, a5] 1 [b0, b1, b2, b3, b4, b5] = false := by
  rw [Bool.eq_false_iff]; intro hh
  obtain ⟨i, hi, ho⟩ := apB_iff.1 hh
  obtain ⟨o0, o1, o2⟩ := (out1 h hb i hi).1 ho
  have := in_le (weigh [a0, a1, a2, a3, a4, a5] i b0 b1 b2 b3 b4 b5 x y) (ab_pos (rgt_iff.1 hb).2) (pb 0 (by omega)) (pb 1 (by omega)) (pb 2 (by omega)) o2 o0 o1
  have := pa i hi
  omega
theorem no_out0 (h : rgt [a0, a1, a2, a3, a4, a5] = true) (hb : rgt [b0, b1, b2, b3, b4, b5] = true) (pa : ∀ i, i < 3 → 0 ≤ Geo.ev [a0, a1, a2, a3, a4, a5] i x y) (pb : ∀ i, i < 3 → 0 ≤ Geo.ev [b0, b1, b2, b3, b4, b5] i x y) : apB [a0, a1, a2, a3, a4, a5] 0 [b0, b1, b2, b3, b4, b5] = false := by
  rw [Bool.eq_false_iff]; intro hh
  obtain ⟨i, hi, ho⟩ := apB_iff.1 hh
  obtain ⟨o0, o1, o2⟩ := (out0 h hb i hi).1 ho
  have := in_lt (weigh [a0, a1, a2, a3, a4, a5] i b0 b1 b2 b3 b4 b5 x y) (ev_sum ..) (ab_pos (rgt_iff.1 hb).2) (pb 0 (by omega)) (pb 1 (by omega)) (pb 2 (by omega)) o2 o0 o1
  have := pa i hi
  omega
theorem P1 (h : rgt [a0, a1, a2, a3, a4, a5] = true) (hb : rgt [b0, b1, b2, b3, b4, b5] = true) (hs : (us x && us y) = true) (ia : inV [x, y, a0, a1, a2, a3, a4, a5] = 2) (ib : inV [x, y, b0, b1, b2, b3, b4, b5] = 2) : bothB 1 [a0, a1, a2, a3, a4, a5, b0, b1, b2, b3, b4, b5] = true := by
  simp only [Bool.and_eq_true] at hs
  have pa := inV_2 h hs.1 hs.2 ia; have pb := inV_2 hb hs.1 hs.2 ib
  show (!apB [a0, a1, a2, a3, a4, a5] 1 [b0, b1, b2, b3, b4, b5] && !apB [b0, b1, b2, b3, b4, b5] 1 [a0, a1, a2, a3, a4, a5]) = true
  rw [no_out1 h hb pa (fun i hi => by have := pb i hi; omega), no_out1 hb h pb (fun i hi => by have := pa i hi; omega)]; rfl
theorem P2 (h : rgt [a0, a1, a2, a3, a4, a5] = true) (hb : rgt [b0, b1, b2, b3, b4, b5] = true) (hs : (us x && us y) = true) (ia : inV [x, y, a0, a1, a2, a3, a4, a5] ≠ 0) (ib : inV [x, y, b0, b1, b2, b3, b4, b5] ≠ 0) : bothB 0 [a0, a1, a2, a3, a4, a5, b0, b1, b2, b3, b4, b5] = true := by
  simp only [Bool.and_eq_true] at hs
  have pa := inV_1 h hs.1 hs.2 ia; have pb := inV_1 hb hs.1 hs.2 ib
  show (!apB [a0, a1, a2, a3, a4, a5] 0 [b0, b1, b2, b3, b4, b5] && !apB [b0, b1, b2, b3, b4, b5] 0 [a0, a1, a2, a3, a4, a5]) = true
  rw [no_out0 h hb pa pb, no_out0 hb h pb pa]; rfl
end
theorem outE_mono {t : List Int} {i : Nat} {l : List (Int × Int)} (h : outE t i 0 l = true) : outE t i 1 l = true := by
  unfold outE at *
  rw [List.all_eq_true] at *
  intro p hp
  have := h p hp
  simp only [decide_eq_true_eq] at *
  omega
theorem apB_mono {t l : List Int} (h : apB t 1 l = false) : apB t 0 l = false := by
  rw [Bool.eq_false_iff] at *
  intro hh
  obtain ⟨i, hi, ho⟩ := apB_iff.1 hh
  exact h (apB_iff.2 ⟨i, hi, outE_mono ho⟩)
theorem P3 {l : List Int} (h : bothB 1 l = true) : bothB 0 l = true := by
  unfold bothB at *
  simp only [Bool.and_eq_true, Bool.not_eq_true'] at *
  exact ⟨apB_mono h.1, apB_mono h.2⟩
end Go.Proofs.Ytfpnkcmplmkghaa.Sx
