/- Chapter 10's laws, plain: turned triangles. -/
import Derived.Test.YtfpnkcmplmkghaaMw
import Derived.Test.YtfpnkcmplmkghaaMo2
set_option linter.unusedVariables false
namespace Go.Proofs.Ytfpnkcmplmkghaa.Sx
section
variable (a0 a1 a2 a3 a4 a5 b0 b1 b2 b3 b4 b5 x y c : Int)
theorem us_rot : (us a2 && (us a3 && (us a4 && (us a5 && (us a0 && us a1))))) = (us a0 && (us a1 && (us a2 && (us a3 && (us a4 && us a5))))) := by ac_rfl
theorem us_sw : (us a2 && (us a3 && (us a0 && (us a1 && (us a4 && us a5))))) = (us a0 && (us a1 && (us a2 && (us a3 && (us a4 && us a5))))) := by ac_rfl
theorem areaV_sw : areaV [a2, a3, a0, a1, a4, a5] = - areaV [a0, a1, a2, a3, a4, a5] := by simp only [areaV, cr2, List.getD_cons_zero, List.getD_cons_succ]; grind
theorem sgn_neg' (n : Int) : sgn (-n) = - sgn n := by unfold sgn; (repeat' split) <;> omega
theorem sdq_sw : sdq [a2, a3, a0, a1, a4, a5] = - sdq [a0, a1, a2, a3, a4, a5] := by
  unfold sdq; rw [areaV_sw a0 a1 a2 a3 a4 a5, sgn_neg']; simp only [List.all_cons, List.all_nil, Bool.and_true]; rw [us_sw a0 a1 a2 a3 a4 a5]; split <;> simp
theorem rgt_rot : rgt [a2, a3, a4, a5, a0, a1] = rgt [a0, a1, a2, a3, a4, a5] := by
  unfold rgt; rw [areaV_rot a0 a1 a2 a3 a4 a5]; simp only [List.all_cons, List.all_nil, Bool.and_true]; rw [us_rot a0 a1 a2 a3 a4 a5]
theorem rgt_sw : rgt [a2, a3, a0, a1, a4, a5] = rgt [a0, a1, a2, a3, a4, a5] := by
  unfold rgt; rw [areaV_sw a0 a1 a2 a3 a4 a5]; simp only [List.all_cons, List.all_nil, Bool.and_true]; rw [us_sw a0 a1 a2 a3 a4 a5]
  congr 2; rw [Bool.eq_iff_iff]; simp
theorem edq_r0 : edq [a2, a3, a4, a5, a0, a1] 0 x y = edq [a0, a1, a2, a3, a4, a5] 1 x y := by
  show sdq [a2, a3, a4, a5, a0, a1] * sdq [a2, a3, a4, a5, x, y] = sdq [a0, a1, a2, a3, a4, a5] * sdq [a2, a3, a4, a5, x, y]; rw [sdq_rot1 (a0 := a0)]
theorem edq_r1 : edq [a2, a3, a4, a5, a0, a1] 1 x y = edq [a0, a1, a2, a3, a4, a5] 2 x y := by
  show sdq [a2, a3, a4, a5, a0, a1] * sdq [a4, a5, a0, a1, x, y] = sdq [a0, a1, a2, a3, a4, a5] * sdq [a4, a5, a0, a1, x, y]; rw [sdq_rot1 (a0 := a0)]
theorem edq_r2 : edq [a2, a3, a4, a5, a0, a1] 2 x y = edq [a0, a1, a2, a3, a4, a5] 0 x y := by
  show sdq [a2, a3, a4, a5, a0, a1] * sdq [a0, a1, a2, a3, x, y] = sdq [a0, a1, a2, a3, a4, a5] * sdq [a0, a1, a2, a3, x, y]; rw [sdq_rot1 (a0 := a0)]
theorem edq_s0 : edq [a2, a3, a0, a1, a4, a5] 0 x y = edq [a0, a1, a2, a3, a4, a5] 0 x y := by
  show sdq [a2, a3, a0, a1, a4, a5] * sdq [a2, a3, a0, a1, x, y] = sdq [a0, a1, a2, a3, a4, a5] * sdq [a0, a1, a2, a3, x, y]
  have h1 := sdq_sw a0 a1 a2 a3 a4 a5; have h2 := sdq_sw a0 a1 a2 a3 x y
  rw [h1, h2, Int.neg_mul_neg]
theorem edq_s1 : edq [a2, a3, a0, a1, a4, a5] 1 x y = edq [a0, a1, a2, a3, a4, a5] 2 x y := by
  show sdq [a2, a3, a0, a1, a4, a5] * sdq [a0, a1, a4, a5, x, y] = sdq [a0, a1, a2, a3, a4, a5] * sdq [a4, a5, a0, a1, x, y]
  have h1 := sdq_sw a0 a1 a2 a3 a4 a5; have h2 := sdq_sw a4 a5 a0 a1 x y
  rw [h1, h2, Int.neg_mul_neg]
theorem edq_s2 : edq [a2, a3, a0, a1, a4, a5] 2 x y = edq [a0, a1, a2, a3, a4, a5] 1 x y := by
  show sdq [a2, a3, a0, a1, a4, a5] * sdq [a4, a5, a2, a3, x, y] = sdq [a0, a1, a2, a3, a4, a5] * sdq [a2, a3, a4, a5, x, y]
  have h1 := sdq_sw a0 a1 a2 a3 a4 a5; have h2 := sdq_sw a2 a3 a4 a5 x y
  rw [h1, h2, Int.neg_mul_neg]
theorem outE_eq {t t' : List Int} {i j : Nat} (h : ∀ x y, edq t i x y = edq t' j x y) (l : List (Int × Int)) : outE t i c l = outE t' j c l := by
  unfold outE; congr 1; funext p; rw [h]
theorem apB_rot (l : List Int) : apB [a2, a3, a4, a5, a0, a1] c l = apB [a0, a1, a2, a3, a4, a5] c l := by
  unfold apB
  have h0 := outE_eq c (edq_r0 a0 a1 a2 a3 a4 a5) (ptsOf l); have h1 := outE_eq c (edq_r1 a0 a1 a2 a3 a4 a5) (ptsOf l); have h2 := outE_eq c (edq_r2 a0 a1 a2 a3 a4 a5) (ptsOf l)
  rw [h0, h1, h2]
  ac_rfl
theorem apB_sw (l : List Int) : apB [a2, a3, a0, a1, a4, a5] c l = apB [a0, a1, a2, a3, a4, a5] c l := by
  unfold apB
  have h0 := outE_eq c (edq_s0 a0 a1 a2 a3 a4 a5) (ptsOf l); have h1 := outE_eq c (edq_s1 a0 a1 a2 a3 a4 a5) (ptsOf l); have h2 := outE_eq c (edq_s2 a0 a1 a2 a3 a4 a5) (ptsOf l)
  rw [h0, h1, h2]
  ac_rfl
theorem outE_prot (t : List Int) (i : Nat) : outE t i c (ptsOf [a2, a3, a4, a5, a0, a1]) = outE t i c (ptsOf [a0, a1, a2, a3, a4, a5]) := by
  simp only [outE, ptsOf, List.all_cons, List.all_nil, Bool.and_true]; ac_rfl
theorem outE_psw (t : List Int) (i : Nat) : outE t i c (ptsOf [a2, a3, a0, a1, a4, a5]) = outE t i c (ptsOf [a0, a1, a2, a3, a4, a5]) := by
  simp only [outE, ptsOf, List.all_cons, List.all_nil, Bool.and_true]; ac_rfl
theorem apB_prot (t : List Int) : apB t c [a2, a3, a4, a5, a0, a1] = apB t c [a0, a1, a2, a3, a4, a5] := by unfold apB; rw [outE_prot a0, outE_prot a0, outE_prot a0]
theorem apB_psw (t : List Int) : apB t c [a2, a3, a0, a1, a4, a5] = apB t c [a0, a1, a2, a3, a4, a5] := by unfold apB; rw [outE_psw a0, outE_psw a0, outE_psw a0]
theorem bothB_turn : bothB c [b2, b3, b0, b1, b4, b5, a2, a3, a4, a5, a0, a1] = bothB c [a0, a1, a2, a3, a4, a5, b0, b1, b2, b3, b4, b5] := by
  show (!apB [b2, b3, b0, b1, b4, b5] c [a2, a3, a4, a5, a0, a1] && !apB [a2, a3, a4, a5, a0, a1] c [b2, b3, b0, b1, b4, b5]) = (!apB [a0, a1, a2, a3, a4, a5] c [b0, b1, b2, b3, b4, b5] && !apB [b0, b1, b2, b3, b4, b5] c [a0, a1, a2, a3, a4, a5])
  rw [apB_sw b0 b1 b2 b3 b4 b5, apB_prot a0 a1 a2 a3 a4 a5, apB_rot a0 a1 a2 a3 a4 a5, apB_psw b0 b1 b2 b3 b4 b5, Bool.and_comm]
theorem f59_turn : fb 59 0 [b2, b3, b0, b1, b4, b5, a2, a3, a4, a5, a0, a1] = fb 59 0 [a0, a1, a2, a3, a4, a5, b0, b1, b2, b3, b4, b5] := by
  show (rgt [b2, b3, b0, b1, b4, b5] && rgt [a2, a3, a4, a5, a0, a1] && bothB 1 _) = (rgt [a0, a1, a2, a3, a4, a5] && rgt [b0, b1, b2, b3, b4, b5] && bothB 1 _)
  rw [rgt_sw b0 b1 b2 b3 b4 b5, rgt_rot a0 a1 a2 a3 a4 a5, bothB_turn, Bool.and_comm (rgt [b0, b1, b2, b3, b4, b5])]
theorem f60_turn : fb 60 0 [b2, b3, b0, b1, b4, b5, a2, a3, a4, a5, a0, a1] = fb 60 0 [a0, a1, a2, a3, a4, a5, b0, b1, b2, b3, b4, b5] := by
  show (rgt [b2, b3, b0, b1, b4, b5] && rgt [a2, a3, a4, a5, a0, a1] && bothB 0 _) = (rgt [a0, a1, a2, a3, a4, a5] && rgt [b0, b1, b2, b3, b4, b5] && bothB 0 _)
  rw [rgt_sw b0 b1 b2 b3 b4 b5, rgt_rot a0 a1 a2 a3 a4 a5, bothB_turn, Bool.and_comm (rgt [b0, b1, b2, b3, b4, b5])]
theorem bothe_turn : bothe [b2, b3, b0, b1, b4, b5, a2, a3, a4, a5, a0, a1] = bothe [a0, a1, a2, a3, a4, a5, b0, b1, b2, b3, b4, b5] := by
  show (if (rgt [b2, b3, b0, b1, b4, b5] && rgt [a2, a3, a4, a5, a0, a1]) = true then (0 : Int) else 1) = (if (rgt [a0, a1, a2, a3, a4, a5] && rgt [b0, b1, b2, b3, b4, b5]) = true then 0 else 1)
  rw [rgt_sw b0 b1 b2 b3 b4 b5, rgt_rot a0 a1 a2 a3 a4 a5, Bool.and_comm]
theorem g59_turn : fi 59 0 [b2, b3, b0, b1, b4, b5, a2, a3, a4, a5, a0, a1] = fi 59 0 [a0, a1, a2, a3, a4, a5, b0, b1, b2, b3, b4, b5] := bothe_turn a0 a1 a2 a3 a4 a5 b0 b1 b2 b3 b4 b5
theorem g60_turn : fi 60 0 [b2, b3, b0, b1, b4, b5, a2, a3, a4, a5, a0, a1] = fi 60 0 [a0, a1, a2, a3, a4, a5, b0, b1, b2, b3, b4, b5] := bothe_turn a0 a1 a2 a3 a4 a5 b0 b1 b2 b3 b4 b5
theorem inV_rot : inV [x, y, a2, a3, a4, a5, a0, a1] = inV [x, y, a0, a1, a2, a3, a4, a5] := by
  show min (min (min 1 (edq [a2, a3, a4, a5, a0, a1] 0 x y)) (edq [a2, a3, a4, a5, a0, a1] 1 x y)) (edq [a2, a3, a4, a5, a0, a1] 2 x y) + 1 = min (min (min 1 (edq [a0, a1, a2, a3, a4, a5] 0 x y)) (edq [a0, a1, a2, a3, a4, a5] 1 x y)) (edq [a0, a1, a2, a3, a4, a5] 2 x y) + 1
  have h0 := edq_r0 a0 a1 a2 a3 a4 a5 x y; have h1 := edq_r1 a0 a1 a2 a3 a4 a5 x y; have h2 := edq_r2 a0 a1 a2 a3 a4 a5 x y
  omega
theorem f57_rot : fi 57 0 [x, y, a2, a3, a4, a5, a0, a1] = fi 57 0 [x, y, a0, a1, a2, a3, a4, a5] := by
  show (if ([x, y].all us && rgt [a2, a3, a4, a5, a0, a1]) = true then inV _ else 0) = (if ([x, y].all us && rgt [a0, a1, a2, a3, a4, a5]) = true then inV _ else 0)
  rw [rgt_rot a0 a1 a2 a3 a4 a5, inV_rot a0 a1 a2 a3 a4 a5]
theorem e57_rot : fi 57 1 [x, y, a2, a3, a4, a5, a0, a1] = fi 57 1 [x, y, a0, a1, a2, a3, a4, a5] := by
  show (if [x, y].all us = true then (if rgt [a2, a3, a4, a5, a0, a1] = true then (0 : Int) else 1) else 5) = (if [x, y].all us = true then (if rgt [a0, a1, a2, a3, a4, a5] = true then 0 else 1) else 5)
  rw [rgt_rot a0 a1 a2 a3 a4 a5]
theorem sqBox_rot : sqBox [x, y, c, a2, a3, a4, a5, a0, a1] = sqBox [x, y, c, a0, a1, a2, a3, a4, a5] := by
  simp only [sqBox, List.getD_cons_zero, List.getD_cons_succ]
  rw [show min (min a2 a4) a0 = min (min a0 a2) a4 by omega, show min (min a3 a5) a1 = min (min a1 a3) a5 by omega, show max (max a2 a4) a0 = max (max a0 a2) a4 by omega, show max (max a3 a5) a1 = max (max a1 a3) a5 by omega]
theorem f61_rot : fb 61 0 [x, y, c, a2, a3, a4, a5, a0, a1] = fb 61 0 [x, y, c, a0, a1, a2, a3, a4, a5] := by
  show (sqg [x, y, c, a2, a3, a4, a5, a0, a1] && (rgt [a2, a3, a4, a5, a0, a1] && (sqBox [x, y, c, a2, a3, a4, a5, a0, a1] && !apB [a2, a3, a4, a5, a0, a1] 0 (sqC [x, y, c, a2, a3, a4, a5, a0, a1])))) =
    (sqg [x, y, c, a0, a1, a2, a3, a4, a5] && (rgt [a0, a1, a2, a3, a4, a5] && (sqBox [x, y, c, a0, a1, a2, a3, a4, a5] && !apB [a0, a1, a2, a3, a4, a5] 0 (sqC [x, y, c, a0, a1, a2, a3, a4, a5]))))
  rw [rgt_rot a0 a1 a2 a3 a4 a5, sqBox_rot a0 a1 a2 a3 a4 a5, apB_rot a0 a1 a2 a3 a4 a5]
  rfl
theorem g61_rot : fi 61 0 [x, y, c, a2, a3, a4, a5, a0, a1] = fi 61 0 [x, y, c, a0, a1, a2, a3, a4, a5] := by
  show (if sqg [x, y, c, a2, a3, a4, a5, a0, a1] = true then (if rgt [a2, a3, a4, a5, a0, a1] = true then (0 : Int) else 1) else 5) = (if sqg [x, y, c, a0, a1, a2, a3, a4, a5] = true then (if rgt [a0, a1, a2, a3, a4, a5] = true then 0 else 1) else 5)
  rw [rgt_rot a0 a1 a2 a3 a4 a5]
  rfl
end
end Go.Proofs.Ytfpnkcmplmkghaa.Sx
