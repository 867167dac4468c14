/- Chapter 10: the reference's 'greatest' at a given edge. -/
import Derived.Test.YtfpnkcmplmkghaaMg0
import Derived.KernelRfl
set_option linter.unusedVariables false
set_option linter.unusedSimpArgs false
namespace Go.Proofs.Ytfpnkcmplmkghaa.Sx
open Go.RowKit
theorem fi11 (l : List Int) : (if l.all us = true then sgn (areaV l) else 0) = sdq l := rfl
theorem areaV_rot (a b c d e f : Int) : areaV [c, d, e, f, a, b] = areaV [a, b, c, d, e, f] := by simp only [areaV, cr2, List.getD_cons_zero, List.getD_cons_succ]; grind
theorem sdq_rot1 {a0 a1 a2 a3 a4 a5 : Int} : sdq [a2, a3, a4, a5, a0, a1] = sdq [a0, a1, a2, a3, a4, a5] := by
  unfold sdq; rw [areaV_rot]; simp only [List.all_cons, List.all_nil, Bool.and_true]
  rw [show (us a2 && (us a3 && (us a4 && (us a5 && (us a0 && us a1))))) = (us a0 && (us a1 && (us a2 && (us a3 && (us a4 && us a5))))) by ac_rfl]
theorem sdq_rot2 {a0 a1 a2 a3 a4 a5 : Int} : sdq [a4, a5, a0, a1, a2, a3] = sdq [a0, a1, a2, a3, a4, a5] := by rw [← sdq_rot1 (a0 := a4) (a1 := a5) (a2 := a0) (a3 := a1) (a4 := a2) (a5 := a3)]

def R_gr3_0 : AV := (.int (.ite (.lt (.ite (.lt (.ite (.lt (.lit (-1)) (.mul (.app 11 0 (.cons (.var 0) (.cons (.var 1) (.cons (.var 2) (.cons (.var 3) (.cons (.var 4) (.cons (.var 5) .nil))))))) (.app 11 0 (.cons (.var 0) (.cons (.var 1) (.cons (.var 2) (.cons (.var 3) (.cons (.var 7) (.cons (.var 8) .nil))))))))) (.mul (.app 11 0 (.cons (.var 0) (.cons (.var 1) (.cons (.var 2) (.cons (.var 3) (.cons (.var 4) (.cons (.var 5) .nil))))))) (.app 11 0 (.cons (.var 0) (.cons (.var 1) (.cons (.var 2) (.cons (.var 3) (.cons (.var 7) (.cons (.var 8) .nil)))))))) (.lit (-1))) (.mul (.app 11 0 (.cons (.var 0) (.cons (.var 1) (.cons (.var 2) (.cons (.var 3) (.cons (.var 4) (.cons (.var 5) .nil))))))) (.app 11 0 (.cons (.var 0) (.cons (.var 1) (.cons (.var 2) (.cons (.var 3) (.cons (.var 9) (.cons (.var 10) .nil))))))))) (.mul (.app 11 0 (.cons (.var 0) (.cons (.var 1) (.cons (.var 2) (.cons (.var 3) (.cons (.var 4) (.cons (.var 5) .nil))))))) (.app 11 0 (.cons (.var 0) (.cons (.var 1) (.cons (.var 2) (.cons (.var 3) (.cons (.var 9) (.cons (.var 10) .nil)))))))) (.ite (.lt (.lit (-1)) (.mul (.app 11 0 (.cons (.var 0) (.cons (.var 1) (.cons (.var 2) (.cons (.var 3) (.cons (.var 4) (.cons (.var 5) .nil))))))) (.app 11 0 (.cons (.var 0) (.cons (.var 1) (.cons (.var 2) (.cons (.var 3) (.cons (.var 7) (.cons (.var 8) .nil))))))))) (.mul (.app 11 0 (.cons (.var 0) (.cons (.var 1) (.cons (.var 2) (.cons (.var 3) (.cons (.var 4) (.cons (.var 5) .nil))))))) (.app 11 0 (.cons (.var 0) (.cons (.var 1) (.cons (.var 2) (.cons (.var 3) (.cons (.var 7) (.cons (.var 8) .nil)))))))) (.lit (-1)))) (.mul (.app 11 0 (.cons (.var 0) (.cons (.var 1) (.cons (.var 2) (.cons (.var 3) (.cons (.var 4) (.cons (.var 5) .nil))))))) (.app 11 0 (.cons (.var 0) (.cons (.var 1) (.cons (.var 2) (.cons (.var 3) (.cons (.var 11) (.cons (.var 12) .nil))))))))) (.mul (.app 11 0 (.cons (.var 0) (.cons (.var 1) (.cons (.var 2) (.cons (.var 3) (.cons (.var 4) (.cons (.var 5) .nil))))))) (.app 11 0 (.cons (.var 0) (.cons (.var 1) (.cons (.var 2) (.cons (.var 3) (.cons (.var 11) (.cons (.var 12) .nil)))))))) (.ite (.lt (.ite (.lt (.lit (-1)) (.mul (.app 11 0 (.cons (.var 0) (.cons (.var 1) (.cons (.var 2) (.cons (.var 3) (.cons (.var 4) (.cons (.var 5) .nil))))))) (.app 11 0 (.cons (.var 0) (.cons (.var 1) (.cons (.var 2) (.cons (.var 3) (.cons (.var 7) (.cons (.var 8) .nil))))))))) (.mul (.app 11 0 (.cons (.var 0) (.cons (.var 1) (.cons (.var 2) (.cons (.var 3) (.cons (.var 4) (.cons (.var 5) .nil))))))) (.app 11 0 (.cons (.var 0) (.cons (.var 1) (.cons (.var 2) (.cons (.var 3) (.cons (.var 7) (.cons (.var 8) .nil)))))))) (.lit (-1))) (.mul (.app 11 0 (.cons (.var 0) (.cons (.var 1) (.cons (.var 2) (.cons (.var 3) (.cons (.var 4) (.cons (.var 5) .nil))))))) (.app 11 0 (.cons (.var 0) (.cons (.var 1) (.cons (.var 2) (.cons (.var 3) (.cons (.var 9) (.cons (.var 10) .nil))))))))) (.mul (.app 11 0 (.cons (.var 0) (.cons (.var 1) (.cons (.var 2) (.cons (.var 3) (.cons (.var 4) (.cons (.var 5) .nil))))))) (.app 11 0 (.cons (.var 0) (.cons (.var 1) (.cons (.var 2) (.cons (.var 3) (.cons (.var 9) (.cons (.var 10) .nil)))))))) (.ite (.lt (.lit (-1)) (.mul (.app 11 0 (.cons (.var 0) (.cons (.var 1) (.cons (.var 2) (.cons (.var 3) (.cons (.var 4) (.cons (.var 5) .nil))))))) (.app 11 0 (.cons (.var 0) (.cons (.var 1) (.cons (.var 2) (.cons (.var 3) (.cons (.var 7) (.cons (.var 8) .nil))))))))) (.mul (.app 11 0 (.cons (.var 0) (.cons (.var 1) (.cons (.var 2) (.cons (.var 3) (.cons (.var 4) (.cons (.var 5) .nil))))))) (.app 11 0 (.cons (.var 0) (.cons (.var 1) (.cons (.var 2) (.cons (.var 3) (.cons (.var 7) (.cons (.var 8) .nil)))))))) (.lit (-1))))))
theorem k_gr3_0 : acall cm2 20 false 122 [] (replA 6 0 (argsG [.g 6, .i, .s 44 3 6] 0 0)) (heapG [.g 6, .i, .s 44 3 6] 0) = .leaf (R_gr3_0, heapG [.g 6, .i, .s 44 3 6] 0) := by kernel_rfl
set_option maxHeartbeats 4000000 in
set_option maxRecDepth 20000 in
theorem v_gr3_0 : ∀ l : List Int, l.length = lenSh [.g 6, .i, .s 44 3 6] → l.getD 6 0 = 0 → valOf (E.at l) R_gr3_0 = some (tupleV (resV E 65 l [.i] 0 0)) := by
  intro l hl hG
  have h0 : l.length = 13 := hl
  clear hl
  obtain ⟨a0, l1, rfl, h1⟩ := cut1 h0
  clear h0
  obtain ⟨a1, l2, rfl, h2⟩ := cut1 h1
  clear h1
  obtain ⟨a2, l3, rfl, h3⟩ := cut1 h2
  clear h2
  obtain ⟨a3, l4, rfl, h4⟩ := cut1 h3
  clear h3
  obtain ⟨a4, l5, rfl, h5⟩ := cut1 h4
  clear h4
  obtain ⟨a5, l6, rfl, h6⟩ := cut1 h5
  clear h5
  obtain ⟨a6, l7, rfl, h7⟩ := cut1 h6
  clear h6
  obtain ⟨a7, l8, rfl, h8⟩ := cut1 h7
  clear h7
  obtain ⟨a8, l9, rfl, h9⟩ := cut1 h8
  clear h8
  obtain ⟨a9, l10, rfl, h10⟩ := cut1 h9
  clear h9
  obtain ⟨a10, l11, rfl, h11⟩ := cut1 h10
  clear h10
  obtain ⟨a11, l12, rfl, h12⟩ := cut1 h11
  clear h11
  obtain ⟨a12, l13, rfl, h13⟩ := cut1 h12
  clear h12
  obtain rfl := cut0 h13
  clear h13

  have hG : a6 = 0 := hG
  subst hG
  have e0 : sdq [a0, a1, a2, a3, a4, a5] * sdq [a0, a1, a2, a3, a7, a8] = edq [a0, a1, a2, a3, a4, a5] 0 a7 a8 := rfl
  have e1 : sdq [a0, a1, a2, a3, a4, a5] * sdq [a0, a1, a2, a3, a9, a10] = edq [a0, a1, a2, a3, a4, a5] 0 a9 a10 := rfl
  have e2 : sdq [a0, a1, a2, a3, a4, a5] * sdq [a0, a1, a2, a3, a11, a12] = edq [a0, a1, a2, a3, a4, a5] 0 a11 a12 := rfl
  simp only [R_gr3_0, valOf, val1, den, Env.at, E, fi, List.getD_cons_zero, List.getD_cons_succ, tupleV, resV, valsI, List.take_succ_cons, List.take_zero, List.drop_succ_cons, List.drop_zero, Int.toNat_zero, ptsOf, mx, List.foldl_cons, List.foldl_nil]
  simp only [fi11, e0, e1, e2, edq_w, mxE]
  all_goals (first | rfl | (congr 2))

theorem c_gr3_0 (W : World) : Flat Try.prog E W (fun l => l.getD 6 0 = 0) 122 [.g 6, .i, .s 44 3 6] fun l => tupleV (resV E 65 l [.i] 0 0) := flat_lit (fun l _ => cm2_ok W l trivial) (fun _ h => h) k_gr3_0 v_gr3_0

def R_gr3_1 : AV := (.int (.ite (.lt (.ite (.lt (.ite (.lt (.lit (-1)) (.mul (.app 11 0 (.cons (.var 2) (.cons (.var 3) (.cons (.var 4) (.cons (.var 5) (.cons (.var 0) (.cons (.var 1) .nil))))))) (.app 11 0 (.cons (.var 2) (.cons (.var 3) (.cons (.var 4) (.cons (.var 5) (.cons (.var 7) (.cons (.var 8) .nil))))))))) (.mul (.app 11 0 (.cons (.var 2) (.cons (.var 3) (.cons (.var 4) (.cons (.var 5) (.cons (.var 0) (.cons (.var 1) .nil))))))) (.app 11 0 (.cons (.var 2) (.cons (.var 3) (.cons (.var 4) (.cons (.var 5) (.cons (.var 7) (.cons (.var 8) .nil)))))))) (.lit (-1))) (.mul (.app 11 0 (.cons (.var 2) (.cons (.var 3) (.cons (.var 4) (.cons (.var 5) (.cons (.var 0) (.cons (.var 1) .nil))))))) (.app 11 0 (.cons (.var 2) (.cons (.var 3) (.cons (.var 4) (.cons (.var 5) (.cons (.var 9) (.cons (.var 10) .nil))))))))) (.mul (.app 11 0 (.cons (.var 2) (.cons (.var 3) (.cons (.var 4) (.cons (.var 5) (.cons (.var 0) (.cons (.var 1) .nil))))))) (.app 11 0 (.cons (.var 2) (.cons (.var 3) (.cons (.var 4) (.cons (.var 5) (.cons (.var 9) (.cons (.var 10) .nil)))))))) (.ite (.lt (.lit (-1)) (.mul (.app 11 0 (.cons (.var 2) (.cons (.var 3) (.cons (.var 4) (.cons (.var 5) (.cons (.var 0) (.cons (.var 1) .nil))))))) (.app 11 0 (.cons (.var 2) (.cons (.var 3) (.cons (.var 4) (.cons (.var 5) (.cons (.var 7) (.cons (.var 8) .nil))))))))) (.mul (.app 11 0 (.cons (.var 2) (.cons (.var 3) (.cons (.var 4) (.cons (.var 5) (.cons (.var 0) (.cons (.var 1) .nil))))))) (.app 11 0 (.cons (.var 2) (.cons (.var 3) (.cons (.var 4) (.cons (.var 5) (.cons (.var 7) (.cons (.var 8) .nil)))))))) (.lit (-1)))) (.mul (.app 11 0 (.cons (.var 2) (.cons (.var 3) (.cons (.var 4) (.cons (.var 5) (.cons (.var 0) (.cons (.var 1) .nil))))))) (.app 11 0 (.cons (.var 2) (.cons (.var 3) (.cons (.var 4) (.cons (.var 5) (.cons (.var 11) (.cons (.var 12) .nil))))))))) (.mul (.app 11 0 (.cons (.var 2) (.cons (.var 3) (.cons (.var 4) (.cons (.var 5) (.cons (.var 0) (.cons (.var 1) .nil))))))) (.app 11 0 (.cons (.var 2) (.cons (.var 3) (.cons (.var 4) (.cons (.var 5) (.cons (.var 11) (.cons (.var 12) .nil)))))))) (.ite (.lt (.ite (.lt (.lit (-1)) (.mul (.app 11 0 (.cons (.var 2) (.cons (.var 3) (.cons (.var 4) (.cons (.var 5) (.cons (.var 0) (.cons (.var 1) .nil))))))) (.app 11 0 (.cons (.var 2) (.cons (.var 3) (.cons (.var 4) (.cons (.var 5) (.cons (.var 7) (.cons (.var 8) .nil))))))))) (.mul (.app 11 0 (.cons (.var 2) (.cons (.var 3) (.cons (.var 4) (.cons (.var 5) (.cons (.var 0) (.cons (.var 1) .nil))))))) (.app 11 0 (.cons (.var 2) (.cons (.var 3) (.cons (.var 4) (.cons (.var 5) (.cons (.var 7) (.cons (.var 8) .nil)))))))) (.lit (-1))) (.mul (.app 11 0 (.cons (.var 2) (.cons (.var 3) (.cons (.var 4) (.cons (.var 5) (.cons (.var 0) (.cons (.var 1) .nil))))))) (.app 11 0 (.cons (.var 2) (.cons (.var 3) (.cons (.var 4) (.cons (.var 5) (.cons (.var 9) (.cons (.var 10) .nil))))))))) (.mul (.app 11 0 (.cons (.var 2) (.cons (.var 3) (.cons (.var 4) (.cons (.var 5) (.cons (.var 0) (.cons (.var 1) .nil))))))) (.app 11 0 (.cons (.var 2) (.cons (.var 3) (.cons (.var 4) (.cons (.var 5) (.cons (.var 9) (.cons (.var 10) .nil)))))))) (.ite (.lt (.lit (-1)) (.mul (.app 11 0 (.cons (.var 2) (.cons (.var 3) (.cons (.var 4) (.cons (.var 5) (.cons (.var 0) (.cons (.var 1) .nil))))))) (.app 11 0 (.cons (.var 2) (.cons (.var 3) (.cons (.var 4) (.cons (.var 5) (.cons (.var 7) (.cons (.var 8) .nil))))))))) (.mul (.app 11 0 (.cons (.var 2) (.cons (.var 3) (.cons (.var 4) (.cons (.var 5) (.cons (.var 0) (.cons (.var 1) .nil))))))) (.app 11 0 (.cons (.var 2) (.cons (.var 3) (.cons (.var 4) (.cons (.var 5) (.cons (.var 7) (.cons (.var 8) .nil)))))))) (.lit (-1))))))
theorem k_gr3_1 : acall cm2 20 false 122 [] (replA 6 1 (argsG [.g 6, .i, .s 44 3 6] 0 0)) (heapG [.g 6, .i, .s 44 3 6] 0) = .leaf (R_gr3_1, heapG [.g 6, .i, .s 44 3 6] 0) := by kernel_rfl
set_option maxHeartbeats 4000000 in
set_option maxRecDepth 20000 in
theorem v_gr3_1 : ∀ l : List Int, l.length = lenSh [.g 6, .i, .s 44 3 6] → l.getD 6 0 = 1 → valOf (E.at l) R_gr3_1 = some (tupleV (resV E 65 l [.i] 0 0)) := by
  intro l hl hG
  have h0 : l.length = 13 := hl
  clear hl
  obtain ⟨a0, l1, rfl, h1⟩ := cut1 h0
  clear h0
  obtain ⟨a1, l2, rfl, h2⟩ := cut1 h1
  clear h1
  obtain ⟨a2, l3, rfl, h3⟩ := cut1 h2
  clear h2
  obtain ⟨a3, l4, rfl, h4⟩ := cut1 h3
  clear h3
  obtain ⟨a4, l5, rfl, h5⟩ := cut1 h4
  clear h4
  obtain ⟨a5, l6, rfl, h6⟩ := cut1 h5
  clear h5
  obtain ⟨a6, l7, rfl, h7⟩ := cut1 h6
  clear h6
  obtain ⟨a7, l8, rfl, h8⟩ := cut1 h7
  clear h7
  obtain ⟨a8, l9, rfl, h9⟩ := cut1 h8
  clear h8
  obtain ⟨a9, l10, rfl, h10⟩ := cut1 h9
  clear h9
  obtain ⟨a10, l11, rfl, h11⟩ := cut1 h10
  clear h10
  obtain ⟨a11, l12, rfl, h12⟩ := cut1 h11
  clear h11
  obtain ⟨a12, l13, rfl, h13⟩ := cut1 h12
  clear h12
  obtain rfl := cut0 h13
  clear h13

  have hG : a6 = 1 := hG
  subst hG
  have e0 : sdq [a2, a3, a4, a5, a0, a1] * sdq [a2, a3, a4, a5, a7, a8] = edq [a0, a1, a2, a3, a4, a5] 1 a7 a8 := by
    show _ = sdq [a0, a1, a2, a3, a4, a5] * sdq [a2, a3, a4, a5, a7, a8]
    rw [sdq_rot1]
  have e1 : sdq [a2, a3, a4, a5, a0, a1] * sdq [a2, a3, a4, a5, a9, a10] = edq [a0, a1, a2, a3, a4, a5] 1 a9 a10 := by
    show _ = sdq [a0, a1, a2, a3, a4, a5] * sdq [a2, a3, a4, a5, a9, a10]
    rw [sdq_rot1]
  have e2 : sdq [a2, a3, a4, a5, a0, a1] * sdq [a2, a3, a4, a5, a11, a12] = edq [a0, a1, a2, a3, a4, a5] 1 a11 a12 := by
    show _ = sdq [a0, a1, a2, a3, a4, a5] * sdq [a2, a3, a4, a5, a11, a12]
    rw [sdq_rot1]
  simp only [R_gr3_1, valOf, val1, den, Env.at, E, fi, List.getD_cons_zero, List.getD_cons_succ, tupleV, resV, valsI, List.take_succ_cons, List.take_zero, List.drop_succ_cons, List.drop_zero, Int.toNat_zero, ptsOf, mx, List.foldl_cons, List.foldl_nil]
  simp only [fi11, e0, e1, e2, edq_w, mxE]
  all_goals (first | rfl | (congr 2))

theorem c_gr3_1 (W : World) : Flat Try.prog E W (fun l => l.getD 6 0 = 1) 122 [.g 6, .i, .s 44 3 6] fun l => tupleV (resV E 65 l [.i] 0 0) := flat_lit (fun l _ => cm2_ok W l trivial) (fun _ h => h) k_gr3_1 v_gr3_1

def R_gr3_2 : AV := (.int (.ite (.lt (.ite (.lt (.ite (.lt (.lit (-1)) (.mul (.app 11 0 (.cons (.var 4) (.cons (.var 5) (.cons (.var 0) (.cons (.var 1) (.cons (.var 2) (.cons (.var 3) .nil))))))) (.app 11 0 (.cons (.var 4) (.cons (.var 5) (.cons (.var 0) (.cons (.var 1) (.cons (.var 7) (.cons (.var 8) .nil))))))))) (.mul (.app 11 0 (.cons (.var 4) (.cons (.var 5) (.cons (.var 0) (.cons (.var 1) (.cons (.var 2) (.cons (.var 3) .nil))))))) (.app 11 0 (.cons (.var 4) (.cons (.var 5) (.cons (.var 0) (.cons (.var 1) (.cons (.var 7) (.cons (.var 8) .nil)))))))) (.lit (-1))) (.mul (.app 11 0 (.cons (.var 4) (.cons (.var 5) (.cons (.var 0) (.cons (.var 1) (.cons (.var 2) (.cons (.var 3) .nil))))))) (.app 11 0 (.cons (.var 4) (.cons (.var 5) (.cons (.var 0) (.cons (.var 1) (.cons (.var 9) (.cons (.var 10) .nil))))))))) (.mul (.app 11 0 (.cons (.var 4) (.cons (.var 5) (.cons (.var 0) (.cons (.var 1) (.cons (.var 2) (.cons (.var 3) .nil))))))) (.app 11 0 (.cons (.var 4) (.cons (.var 5) (.cons (.var 0) (.cons (.var 1) (.cons (.var 9) (.cons (.var 10) .nil)))))))) (.ite (.lt (.lit (-1)) (.mul (.app 11 0 (.cons (.var 4) (.cons (.var 5) (.cons (.var 0) (.cons (.var 1) (.cons (.var 2) (.cons (.var 3) .nil))))))) (.app 11 0 (.cons (.var 4) (.cons (.var 5) (.cons (.var 0) (.cons (.var 1) (.cons (.var 7) (.cons (.var 8) .nil))))))))) (.mul (.app 11 0 (.cons (.var 4) (.cons (.var 5) (.cons (.var 0) (.cons (.var 1) (.cons (.var 2) (.cons (.var 3) .nil))))))) (.app 11 0 (.cons (.var 4) (.cons (.var 5) (.cons (.var 0) (.cons (.var 1) (.cons (.var 7) (.cons (.var 8) .nil)))))))) (.lit (-1)))) (.mul (.app 11 0 (.cons (.var 4) (.cons (.var 5) (.cons (.var 0) (.cons (.var 1) (.cons (.var 2) (.cons (.var 3) .nil))))))) (.app 11 0 (.cons (.var 4) (.cons (.var 5) (.cons (.var 0) (.cons (.var 1) (.cons (.var 11) (.cons (.var 12) .nil))))))))) (.mul (.app 11 0 (.cons (.var 4) (.cons (.var 5) (.cons (.var 0) (.cons (.var 1) (.cons (.var 2) (.cons (.var 3) .nil))))))) (.app 11 0 (.cons (.var 4) (.cons (.var 5) (.cons (.var 0) (.cons (.var 1) (.cons (.var 11) (.cons (.var 12) .nil)))))))) (.ite (.lt (.ite (.lt (.lit (-1)) (.mul (.app 11 0 (.cons (.var 4) (.cons (.var 5) (.cons (.var 0) (.cons (.var 1) (.cons (.var 2) (.cons (.var 3) .nil))))))) (.app 11 0 (.cons (.var 4) (.cons (.var 5) (.cons (.var 0) (.cons (.var 1) (.cons (.var 7) (.cons (.var 8) .nil))))))))) (.mul (.app 11 0 (.cons (.var 4) (.cons (.var 5) (.cons (.var 0) (.cons (.var 1) (.cons (.var 2) (.cons (.var 3) .nil))))))) (.app 11 0 (.cons (.var 4) (.cons (.var 5) (.cons (.var 0) (.cons (.var 1) (.cons (.var 7) (.cons (.var 8) .nil)))))))) (.lit (-1))) (.mul (.app 11 0 (.cons (.var 4) (.cons (.var 5) (.cons (.var 0) (.cons (.var 1) (.cons (.var 2) (.cons (.var 3) .nil))))))) (.app 11 0 (.cons (.var 4) (.cons (.var 5) (.cons (.var 0) (.cons (.var 1) (.cons (.var 9) (.cons (.var 10) .nil))))))))) (.mul (.app 11 0 (.cons (.var 4) (.cons (.var 5) (.cons (.var 0) (.cons (.var 1) (.cons (.var 2) (.cons (.var 3) .nil))))))) (.app 11 0 (.cons (.var 4) (.cons (.var 5) (.cons (.var 0) (.cons (.var 1) (.cons (.var 9) (.cons (.var 10) .nil)))))))) (.ite (.lt (.lit (-1)) (.mul (.app 11 0 (.cons (.var 4) (.cons (.var 5) (.cons (.var 0) (.cons (.var 1) (.cons (.var 2) (.cons (.var 3) .nil))))))) (.app 11 0 (.cons (.var 4) (.cons (.var 5) (.cons (.var 0) (.cons (.var 1) (.cons (.var 7) (.cons (.var 8) .nil))))))))) (.mul (.app 11 0 (.cons (.var 4) (.cons (.var 5) (.cons (.var 0) (.cons (.var 1) (.cons (.var 2) (.cons (.var 3) .nil))))))) (.app 11 0 (.cons (.var 4) (.cons (.var 5) (.cons (.var 0) (.cons (.var 1) (.cons (.var 7) (.cons (.var 8) .nil)))))))) (.lit (-1))))))
theorem k_gr3_2 : acall cm2 20 false 122 [] (replA 6 2 (argsG [.g 6, .i, .s 44 3 6] 0 0)) (heapG [.g 6, .i, .s 44 3 6] 0) = .leaf (R_gr3_2, heapG [.g 6, .i, .s 44 3 6] 0) := by kernel_rfl
set_option maxHeartbeats 4000000 in
set_option maxRecDepth 20000 in
theorem v_gr3_2 : ∀ l : List Int, l.length = lenSh [.g 6, .i, .s 44 3 6] → l.getD 6 0 = 2 → valOf (E.at l) R_gr3_2 = some (tupleV (resV E 65 l [.i] 0 0)) := by
  intro l hl hG
  have h0 : l.length = 13 := hl
  clear hl
  obtain ⟨a0, l1, rfl, h1⟩ := cut1 h0
  clear h0
  obtain ⟨a1, l2, rfl, h2⟩ := cut1 h1
  clear h1
  obtain ⟨a2, l3, rfl, h3⟩ := cut1 h2
  clear h2
  obtain ⟨a3, l4, rfl, h4⟩ := cut1 h3
  clear h3
  obtain ⟨a4, l5, rfl, h5⟩ := cut1 h4
  clear h4
  obtain ⟨a5, l6, rfl, h6⟩ := cut1 h5
  clear h5
  obtain ⟨a6, l7, rfl, h7⟩ := cut1 h6
  clear h6
  obtain ⟨a7, l8, rfl, h8⟩ := cut1 h7
  clear h7
  obtain ⟨a8, l9, rfl, h9⟩ := cut1 h8
  clear h8
  obtain ⟨a9, l10, rfl, h10⟩ := cut1 h9
  clear h9
  obtain ⟨a10, l11, rfl, h11⟩ := cut1 h10
  clear h10
  obtain ⟨a11, l12, rfl, h12⟩ := cut1 h11
  clear h11
  obtain ⟨a12, l13, rfl, h13⟩ := cut1 h12
  clear h12
  obtain rfl := cut0 h13
  clear h13

  have hG : a6 = 2 := hG
  subst hG
  have e0 : sdq [a4, a5, a0, a1, a2, a3] * sdq [a4, a5, a0, a1, a7, a8] = edq [a0, a1, a2, a3, a4, a5] 2 a7 a8 := by
    show _ = sdq [a0, a1, a2, a3, a4, a5] * sdq [a4, a5, a0, a1, a7, a8]
    rw [sdq_rot2]
  have e1 : sdq [a4, a5, a0, a1, a2, a3] * sdq [a4, a5, a0, a1, a9, a10] = edq [a0, a1, a2, a3, a4, a5] 2 a9 a10 := by
    show _ = sdq [a0, a1, a2, a3, a4, a5] * sdq [a4, a5, a0, a1, a9, a10]
    rw [sdq_rot2]
  have e2 : sdq [a4, a5, a0, a1, a2, a3] * sdq [a4, a5, a0, a1, a11, a12] = edq [a0, a1, a2, a3, a4, a5] 2 a11 a12 := by
    show _ = sdq [a0, a1, a2, a3, a4, a5] * sdq [a4, a5, a0, a1, a11, a12]
    rw [sdq_rot2]
  simp only [R_gr3_2, valOf, val1, den, Env.at, E, fi, List.getD_cons_zero, List.getD_cons_succ, tupleV, resV, valsI, List.take_succ_cons, List.take_zero, List.drop_succ_cons, List.drop_zero, Int.toNat_zero, ptsOf, mx, List.foldl_cons, List.foldl_nil]
  simp only [fi11, e0, e1, e2, edq_w, mxE]
  all_goals (first | rfl | (congr 2))

theorem c_gr3_2 (W : World) : Flat Try.prog E W (fun l => l.getD 6 0 = 2) 122 [.g 6, .i, .s 44 3 6] fun l => tupleV (resV E 65 l [.i] 0 0) := flat_lit (fun l _ => cm2_ok W l trivial) (fun _ h => h) k_gr3_2 v_gr3_2

def R_gr4b_0 : AV := (.int (.ite (.lt (.ite (.lt (.ite (.lt (.ite (.lt (.lit (-1)) (.mul (.app 11 0 (.cons (.var 0) (.cons (.var 1) (.cons (.var 2) (.cons (.var 3) (.cons (.var 4) (.cons (.var 5) .nil))))))) (.app 11 0 (.cons (.var 0) (.cons (.var 1) (.cons (.var 2) (.cons (.var 3) (.cons (.var 7) (.cons (.var 8) .nil))))))))) (.mul (.app 11 0 (.cons (.var 0) (.cons (.var 1) (.cons (.var 2) (.cons (.var 3) (.cons (.var 4) (.cons (.var 5) .nil))))))) (.app 11 0 (.cons (.var 0) (.cons (.var 1) (.cons (.var 2) (.cons (.var 3) (.cons (.var 7) (.cons (.var 8) .nil)))))))) (.lit (-1))) (.mul (.app 11 0 (.cons (.var 0) (.cons (.var 1) (.cons (.var 2) (.cons (.var 3) (.cons (.var 4) (.cons (.var 5) .nil))))))) (.app 11 0 (.cons (.var 0) (.cons (.var 1) (.cons (.var 2) (.cons (.var 3) (.cons (.var 9) (.cons (.var 10) .nil))))))))) (.mul (.app 11 0 (.cons (.var 0) (.cons (.var 1) (.cons (.var 2) (.cons (.var 3) (.cons (.var 4) (.cons (.var 5) .nil))))))) (.app 11 0 (.cons (.var 0) (.cons (.var 1) (.cons (.var 2) (.cons (.var 3) (.cons (.var 9) (.cons (.var 10) .nil)))))))) (.ite (.lt (.lit (-1)) (.mul (.app 11 0 (.cons (.var 0) (.cons (.var 1) (.cons (.var 2) (.cons (.var 3) (.cons (.var 4) (.cons (.var 5) .nil))))))) (.app 11 0 (.cons (.var 0) (.cons (.var 1) (.cons (.var 2) (.cons (.var 3) (.cons (.var 7) (.cons (.var 8) .nil))))))))) (.mul (.app 11 0 (.cons (.var 0) (.cons (.var 1) (.cons (.var 2) (.cons (.var 3) (.cons (.var 4) (.cons (.var 5) .nil))))))) (.app 11 0 (.cons (.var 0) (.cons (.var 1) (.cons (.var 2) (.cons (.var 3) (.cons (.var 7) (.cons (.var 8) .nil)))))))) (.lit (-1)))) (.mul (.app 11 0 (.cons (.var 0) (.cons (.var 1) (.cons (.var 2) (.cons (.var 3) (.cons (.var 4) (.cons (.var 5) .nil))))))) (.app 11 0 (.cons (.var 0) (.cons (.var 1) (.cons (.var 2) (.cons (.var 3) (.cons (.var 11) (.cons (.var 12) .nil))))))))) (.mul (.app 11 0 (.cons (.var 0) (.cons (.var 1) (.cons (.var 2) (.cons (.var 3) (.cons (.var 4) (.cons (.var 5) .nil))))))) (.app 11 0 (.cons (.var 0) (.cons (.var 1) (.cons (.var 2) (.cons (.var 3) (.cons (.var 11) (.cons (.var 12) .nil)))))))) (.ite (.lt (.ite (.lt (.lit (-1)) (.mul (.app 11 0 (.cons (.var 0) (.cons (.var 1) (.cons (.var 2) (.cons (.var 3) (.cons (.var 4) (.cons (.var 5) .nil))))))) (.app 11 0 (.cons (.var 0) (.cons (.var 1) (.cons (.var 2) (.cons (.var 3) (.cons (.var 7) (.cons (.var 8) .nil))))))))) (.mul (.app 11 0 (.cons (.var 0) (.cons (.var 1) (.cons (.var 2) (.cons (.var 3) (.cons (.var 4) (.cons (.var 5) .nil))))))) (.app 11 0 (.cons (.var 0) (.cons (.var 1) (.cons (.var 2) (.cons (.var 3) (.cons (.var 7) (.cons (.var 8) .nil)))))))) (.lit (-1))) (.mul (.app 11 0 (.cons (.var 0) (.cons (.var 1) (.cons (.var 2) (.cons (.var 3) (.cons (.var 4) (.cons (.var 5) .nil))))))) (.app 11 0 (.cons (.var 0) (.cons (.var 1) (.cons (.var 2) (.cons (.var 3) (.cons (.var 9) (.cons (.var 10) .nil))))))))) (.mul (.app 11 0 (.cons (.var 0) (.cons (.var 1) (.cons (.var 2) (.cons (.var 3) (.cons (.var 4) (.cons (.var 5) .nil))))))) (.app 11 0 (.cons (.var 0) (.cons (.var 1) (.cons (.var 2) (.cons (.var 3) (.cons (.var 9) (.cons (.var 10) .nil)))))))) (.ite (.lt (.lit (-1)) (.mul (.app 11 0 (.cons (.var 0) (.cons (.var 1) (.cons (.var 2) (.cons (.var 3) (.cons (.var 4) (.cons (.var 5) .nil))))))) (.app 11 0 (.cons (.var 0) (.cons (.var 1) (.cons (.var 2) (.cons (.var 3) (.cons (.var 7) (.cons (.var 8) .nil))))))))) (.mul (.app 11 0 (.cons (.var 0) (.cons (.var 1) (.cons (.var 2) (.cons (.var 3) (.cons (.var 4) (.cons (.var 5) .nil))))))) (.app 11 0 (.cons (.var 0) (.cons (.var 1) (.cons (.var 2) (.cons (.var 3) (.cons (.var 7) (.cons (.var 8) .nil)))))))) (.lit (-1))))) (.mul (.app 11 0 (.cons (.var 0) (.cons (.var 1) (.cons (.var 2) (.cons (.var 3) (.cons (.var 4) (.cons (.var 5) .nil))))))) (.app 11 0 (.cons (.var 0) (.cons (.var 1) (.cons (.var 2) (.cons (.var 3) (.cons (.var 13) (.cons (.var 14) .nil))))))))) (.mul (.app 11 0 (.cons (.var 0) (.cons (.var 1) (.cons (.var 2) (.cons (.var 3) (.cons (.var 4) (.cons (.var 5) .nil))))))) (.app 11 0 (.cons (.var 0) (.cons (.var 1) (.cons (.var 2) (.cons (.var 3) (.cons (.var 13) (.cons (.var 14) .nil)))))))) (.ite (.lt (.ite (.lt (.ite (.lt (.lit (-1)) (.mul (.app 11 0 (.cons (.var 0) (.cons (.var 1) (.cons (.var 2) (.cons (.var 3) (.cons (.var 4) (.cons (.var 5) .nil))))))) (.app 11 0 (.cons (.var 0) (.cons (.var 1) (.cons (.var 2) (.cons (.var 3) (.cons (.var 7) (.cons (.var 8) .nil))))))))) (.mul (.app 11 0 (.cons (.var 0) (.cons (.var 1) (.cons (.var 2) (.cons (.var 3) (.cons (.var 4) (.cons (.var 5) .nil))))))) (.app 11 0 (.cons (.var 0) (.cons (.var 1) (.cons (.var 2) (.cons (.var 3) (.cons (.var 7) (.cons (.var 8) .nil)))))))) (.lit (-1))) (.mul (.app 11 0 (.cons (.var 0) (.cons (.var 1) (.cons (.var 2) (.cons (.var 3) (.cons (.var 4) (.cons (.var 5) .nil))))))) (.app 11 0 (.cons (.var 0) (.cons (.var 1) (.cons (.var 2) (.cons (.var 3) (.cons (.var 9) (.cons (.var 10) .nil))))))))) (.mul (.app 11 0 (.cons (.var 0) (.cons (.var 1) (.cons (.var 2) (.cons (.var 3) (.cons (.var 4) (.cons (.var 5) .nil))))))) (.app 11 0 (.cons (.var 0) (.cons (.var 1) (.cons (.var 2) (.cons (.var 3) (.cons (.var 9) (.cons (.var 10) .nil)))))))) (.ite (.lt (.lit (-1)) (.mul (.app 11 0 (.cons (.var 0) (.cons (.var 1) (.cons (.var 2) (.cons (.var 3) (.cons (.var 4) (.cons (.var 5) .nil))))))) (.app 11 0 (.cons (.var 0) (.cons (.var 1) (.cons (.var 2) (.cons (.var 3) (.cons (.var 7) (.cons (.var 8) .nil))))))))) (.mul (.app 11 0 (.cons (.var 0) (.cons (.var 1) (.cons (.var 2) (.cons (.var 3) (.cons (.var 4) (.cons (.var 5) .nil))))))) (.app 11 0 (.cons (.var 0) (.cons (.var 1) (.cons (.var 2) (.cons (.var 3) (.cons (.var 7) (.cons (.var 8) .nil)))))))) (.lit (-1)))) (.mul (.app 11 0 (.cons (.var 0) (.cons (.var 1) (.cons (.var 2) (.cons (.var 3) (.cons (.var 4) (.cons (.var 5) .nil))))))) (.app 11 0 (.cons (.var 0) (.cons (.var 1) (.cons (.var 2) (.cons (.var 3) (.cons (.var 11) (.cons (.var 12) .nil))))))))) (.mul (.app 11 0 (.cons (.var 0) (.cons (.var 1) (.cons (.var 2) (.cons (.var 3) (.cons (.var 4) (.cons (.var 5) .nil))))))) (.app 11 0 (.cons (.var 0) (.cons (.var 1) (.cons (.var 2) (.cons (.var 3) (.cons (.var 11) (.cons (.var 12) .nil)))))))) (.ite (.lt (.ite (.lt (.lit (-1)) (.mul (.app 11 0 (.cons (.var 0) (.cons (.var 1) (.cons (.var 2) (.cons (.var 3) (.cons (.var 4) (.cons (.var 5) .nil))))))) (.app 11 0 (.cons (.var 0) (.cons (.var 1) (.cons (.var 2) (.cons (.var 3) (.cons (.var 7) (.cons (.var 8) .nil))))))))) (.mul (.app 11 0 (.cons (.var 0) (.cons (.var 1) (.cons (.var 2) (.cons (.var 3) (.cons (.var 4) (.cons (.var 5) .nil))))))) (.app 11 0 (.cons (.var 0) (.cons (.var 1) (.cons (.var 2) (.cons (.var 3) (.cons (.var 7) (.cons (.var 8) .nil)))))))) (.lit (-1))) (.mul (.app 11 0 (.cons (.var 0) (.cons (.var 1) (.cons (.var 2) (.cons (.var 3) (.cons (.var 4) (.cons (.var 5) .nil))))))) (.app 11 0 (.cons (.var 0) (.cons (.var 1) (.cons (.var 2) (.cons (.var 3) (.cons (.var 9) (.cons (.var 10) .nil))))))))) (.mul (.app 11 0 (.cons (.var 0) (.cons (.var 1) (.cons (.var 2) (.cons (.var 3) (.cons (.var 4) (.cons (.var 5) .nil))))))) (.app 11 0 (.cons (.var 0) (.cons (.var 1) (.cons (.var 2) (.cons (.var 3) (.cons (.var 9) (.cons (.var 10) .nil)))))))) (.ite (.lt (.lit (-1)) (.mul (.app 11 0 (.cons (.var 0) (.cons (.var 1) (.cons (.var 2) (.cons (.var 3) (.cons (.var 4) (.cons (.var 5) .nil))))))) (.app 11 0 (.cons (.var 0) (.cons (.var 1) (.cons (.var 2) (.cons (.var 3) (.cons (.var 7) (.cons (.var 8) .nil))))))))) (.mul (.app 11 0 (.cons (.var 0) (.cons (.var 1) (.cons (.var 2) (.cons (.var 3) (.cons (.var 4) (.cons (.var 5) .nil))))))) (.app 11 0 (.cons (.var 0) (.cons (.var 1) (.cons (.var 2) (.cons (.var 3) (.cons (.var 7) (.cons (.var 8) .nil)))))))) (.lit (-1)))))))
theorem k_gr4b_0 : acall cm2 20 false 122 [] (replA 6 0 (argsG [.g 6, .i, .s 43 4 8] 0 0)) (heapG [.g 6, .i, .s 43 4 8] 0) = .leaf (R_gr4b_0, heapG [.g 6, .i, .s 43 4 8] 0) := by kernel_rfl
set_option maxHeartbeats 4000000 in
set_option maxRecDepth 20000 in
theorem v_gr4b_0 : ∀ l : List Int, l.length = lenSh [.g 6, .i, .s 43 4 8] → l.getD 6 0 = 0 → valOf (E.at l) R_gr4b_0 = some (tupleV (resV E 65 l [.i] 0 0)) := by
  intro l hl hG
  have h0 : l.length = 15 := hl
  clear hl
  obtain ⟨a0, l1, rfl, h1⟩ := cut1 h0
  clear h0
  obtain ⟨a1, l2, rfl, h2⟩ := cut1 h1
  clear h1
  obtain ⟨a2, l3, rfl, h3⟩ := cut1 h2
  clear h2
  obtain ⟨a3, l4, rfl, h4⟩ := cut1 h3
  clear h3
  obtain ⟨a4, l5, rfl, h5⟩ := cut1 h4
  clear h4
  obtain ⟨a5, l6, rfl, h6⟩ := cut1 h5
  clear h5
  obtain ⟨a6, l7, rfl, h7⟩ := cut1 h6
  clear h6
  obtain ⟨a7, l8, rfl, h8⟩ := cut1 h7
  clear h7
  obtain ⟨a8, l9, rfl, h9⟩ := cut1 h8
  clear h8
  obtain ⟨a9, l10, rfl, h10⟩ := cut1 h9
  clear h9
  obtain ⟨a10, l11, rfl, h11⟩ := cut1 h10
  clear h10
  obtain ⟨a11, l12, rfl, h12⟩ := cut1 h11
  clear h11
  obtain ⟨a12, l13, rfl, h13⟩ := cut1 h12
  clear h12
  obtain ⟨a13, l14, rfl, h14⟩ := cut1 h13
  clear h13
  obtain ⟨a14, l15, rfl, h15⟩ := cut1 h14
  clear h14
  obtain rfl := cut0 h15
  clear h15

  have hG : a6 = 0 := hG
  subst hG
  have e0 : sdq [a0, a1, a2, a3, a4, a5] * sdq [a0, a1, a2, a3, a7, a8] = edq [a0, a1, a2, a3, a4, a5] 0 a7 a8 := rfl
  have e1 : sdq [a0, a1, a2, a3, a4, a5] * sdq [a0, a1, a2, a3, a9, a10] = edq [a0, a1, a2, a3, a4, a5] 0 a9 a10 := rfl
  have e2 : sdq [a0, a1, a2, a3, a4, a5] * sdq [a0, a1, a2, a3, a11, a12] = edq [a0, a1, a2, a3, a4, a5] 0 a11 a12 := rfl
  have e3 : sdq [a0, a1, a2, a3, a4, a5] * sdq [a0, a1, a2, a3, a13, a14] = edq [a0, a1, a2, a3, a4, a5] 0 a13 a14 := rfl
  simp only [R_gr4b_0, valOf, val1, den, Env.at, E, fi, List.getD_cons_zero, List.getD_cons_succ, tupleV, resV, valsI, List.take_succ_cons, List.take_zero, List.drop_succ_cons, List.drop_zero, Int.toNat_zero, ptsOf, mx, List.foldl_cons, List.foldl_nil]
  simp only [fi11, e0, e1, e2, e3, edq_w, mxE]
  all_goals (first | rfl | (congr 2))

theorem c_gr4b_0 (W : World) : Flat Try.prog E W (fun l => l.getD 6 0 = 0) 122 [.g 6, .i, .s 43 4 8] fun l => tupleV (resV E 65 l [.i] 0 0) := flat_lit (fun l _ => cm2_ok W l trivial) (fun _ h => h) k_gr4b_0 v_gr4b_0

def R_gr4b_1 : AV := (.int (.ite (.lt (.ite (.lt (.ite (.lt (.ite (.lt (.lit (-1)) (.mul (.app 11 0 (.cons (.var 2) (.cons (.var 3) (.cons (.var 4) (.cons (.var 5) (.cons (.var 0) (.cons (.var 1) .nil))))))) (.app 11 0 (.cons (.var 2) (.cons (.var 3) (.cons (.var 4) (.cons (.var 5) (.cons (.var 7) (.cons (.var 8) .nil))))))))) (.mul (.app 11 0 (.cons (.var 2) (.cons (.var 3) (.cons (.var 4) (.cons (.var 5) (.cons (.var 0) (.cons (.var 1) .nil))))))) (.app 11 0 (.cons (.var 2) (.cons (.var 3) (.cons (.var 4) (.cons (.var 5) (.cons (.var 7) (.cons (.var 8) .nil)))))))) (.lit (-1))) (.mul (.app 11 0 (.cons (.var 2) (.cons (.var 3) (.cons (.var 4) (.cons (.var 5) (.cons (.var 0) (.cons (.var 1) .nil))))))) (.app 11 0 (.cons (.var 2) (.cons (.var 3) (.cons (.var 4) (.cons (.var 5) (.cons (.var 9) (.cons (.var 10) .nil))))))))) (.mul (.app 11 0 (.cons (.var 2) (.cons (.var 3) (.cons (.var 4) (.cons (.var 5) (.cons (.var 0) (.cons (.var 1) .nil))))))) (.app 11 0 (.cons (.var 2) (.cons (.var 3) (.cons (.var 4) (.cons (.var 5) (.cons (.var 9) (.cons (.var 10) .nil)))))))) (.ite (.lt (.lit (-1)) (.mul (.app 11 0 (.cons (.var 2) (.cons (.var 3) (.cons (.var 4) (.cons (.var 5) (.cons (.var 0) (.cons (.var 1) .nil))))))) (.app 11 0 (.cons (.var 2) (.cons (.var 3) (.cons (.var 4) (.cons (.var 5) (.cons (.var 7) (.cons (.var 8) .nil))))))))) (.mul (.app 11 0 (.cons (.var 2) (.cons (.var 3) (.cons (.var 4) (.cons (.var 5) (.cons (.var 0) (.cons (.var 1) .nil))))))) (.app 11 0 (.cons (.var 2) (.cons (.var 3) (.cons (.var 4) (.cons (.var 5) (.cons (.var 7) (.cons (.var 8) .nil)))))))) (.lit (-1)))) (.mul (.app 11 0 (.cons (.var 2) (.cons (.var 3) (.cons (.var 4) (.cons (.var 5) (.cons (.var 0) (.cons (.var 1) .nil))))))) (.app 11 0 (.cons (.var 2) (.cons (.var 3) (.cons (.var 4) (.cons (.var 5) (.cons (.var 11) (.cons (.var 12) .nil))))))))) (.mul (.app 11 0 (.cons (.var 2) (.cons (.var 3) (.cons (.var 4) (.cons (.var 5) (.cons (.var 0) (.cons (.var 1) .nil))))))) (.app 11 0 (.cons (.var 2) (.cons (.var 3) (.cons (.var 4) (.cons (.var 5) (.cons (.var 11) (.cons (.var 12) .nil)))))))) (.ite (.lt (.ite (.lt (.lit (-1)) (.mul (.app 11 0 (.cons (.var 2) (.cons (.var 3) (.cons (.var 4) (.cons (.var 5) (.cons (.var 0) (.cons (.var 1) .nil))))))) (.app 11 0 (.cons (.var 2) (.cons (.var 3) (.cons (.var 4) (.cons (.var 5) (.cons (.var 7) (.cons (.var 8) .nil))))))))) (.mul (.app 11 0 (.cons (.var 2) (.cons (.var 3) (.cons (.var 4) (.cons (.var 5) (.cons (.var 0) (.cons (.var 1) .nil))))))) (.app 11 0 (.cons (.var 2) (.cons (.var 3) (.cons (.var 4) (.cons (.var 5) (.cons (.var 7) (.cons (.var 8) .nil)))))))) (.lit (-1))) (.mul (.app 11 0 (.cons (.var 2) (.cons (.var 3) (.cons (.var 4) (.cons (.var 5) (.cons (.var 0) (.cons (.var 1) .nil))))))) (.app 11 0 (.cons (.var 2) (.cons (.var 3) (.cons (.var 4) (.cons (.var 5) (.cons (.var 9) (.cons (.var 10) .nil))))))))) (.mul (.app 11 0 (.cons (.var 2) (.cons (.var 3) (.cons (.var 4) (.cons (.var 5) (.cons (.var 0) (.cons (.var 1) .nil))))))) (.app 11 0 (.cons (.var 2) (.cons (.var 3) (.cons (.var 4) (.cons (.var 5) (.cons (.var 9) (.cons (.var 10) .nil)))))))) (.ite (.lt (.lit (-1)) (.mul (.app 11 0 (.cons (.var 2) (.cons (.var 3) (.cons (.var 4) (.cons (.var 5) (.cons (.var 0) (.cons (.var 1) .nil))))))) (.app 11 0 (.cons (.var 2) (.cons (.var 3) (.cons (.var 4) (.cons (.var 5) (.cons (.var 7) (.cons (.var 8) .nil))))))))) (.mul (.app 11 0 (.cons (.var 2) (.cons (.var 3) (.cons (.var 4) (.cons (.var 5) (.cons (.var 0) (.cons (.var 1) .nil))))))) (.app 11 0 (.cons (.var 2) (.cons (.var 3) (.cons (.var 4) (.cons (.var 5) (.cons (.var 7) (.cons (.var 8) .nil)))))))) (.lit (-1))))) (.mul (.app 11 0 (.cons (.var 2) (.cons (.var 3) (.cons (.var 4) (.cons (.var 5) (.cons (.var 0) (.cons (.var 1) .nil))))))) (.app 11 0 (.cons (.var 2) (.cons (.var 3) (.cons (.var 4) (.cons (.var 5) (.cons (.var 13) (.cons (.var 14) .nil))))))))) (.mul (.app 11 0 (.cons (.var 2) (.cons (.var 3) (.cons (.var 4) (.cons (.var 5) (.cons (.var 0) (.cons (.var 1) .nil))))))) (.app 11 0 (.cons (.var 2) (.cons (.var 3) (.cons (.var 4) (.cons (.var 5) (.cons (.var 13) (.cons (.var 14) .nil)))))))) (.ite (.lt (.ite (.lt (.ite (.lt (.lit (-1)) (.mul (.app 11 0 (.cons (.var 2) (.cons (.var 3) (.cons (.var 4) (.cons (.var 5) (.cons (.var 0) (.cons (.var 1) .nil))))))) (.app 11 0 (.cons (.var 2) (.cons (.var 3) (.cons (.var 4) (.cons (.var 5) (.cons (.var 7) (.cons (.var 8) .nil))))))))) (.mul (.app 11 0 (.cons (.var 2) (.cons (.var 3) (.cons (.var 4) (.cons (.var 5) (.cons (.var 0) (.cons (.var 1) .nil))))))) (.app 11 0 (.cons (.var 2) (.cons (.var 3) (.cons (.var 4) (.cons (.var 5) (.cons (.var 7) (.cons (.var 8) .nil)))))))) (.lit (-1))) (.mul (.app 11 0 (.cons (.var 2) (.cons (.var 3) (.cons (.var 4) (.cons (.var 5) (.cons (.var 0) (.cons (.var 1) .nil))))))) (.app 11 0 (.cons (.var 2) (.cons (.var 3) (.cons (.var 4) (.cons (.var 5) (.cons (.var 9) (.cons (.var 10) .nil))))))))) (.mul (.app 11 0 (.cons (.var 2) (.cons (.var 3) (.cons (.var 4) (.cons (.var 5) (.cons (.var 0) (.cons (.var 1) .nil))))))) (.app 11 0 (.cons (.var 2) (.cons (.var 3) (.cons (.var 4) (.cons (.var 5) (.cons (.var 9) (.cons (.var 10) .nil)))))))) (.ite (.lt (.lit (-1)) (.mul (.app 11 0 (.cons (.var 2) (.cons (.var 3) (.cons (.var 4) (.cons (.var 5) (.cons (.var 0) (.cons (.var 1) .nil))))))) (.app 11 0 (.cons (.var 2) (.cons (.var 3) (.cons (.var 4) (.cons (.var 5) (.cons (.var 7) (.cons (.var 8) .nil))))))))) (.mul (.app 11 0 (.cons (.var 2) (.cons (.var 3) (.cons (.var 4) (.cons (.var 5) (.cons (.var 0) (.cons (.var 1) .nil))))))) (.app 11 0 (.cons (.var 2) (.cons (.var 3) (.cons (.var 4) (.cons (.var 5) (.cons (.var 7) (.cons (.var 8) .nil)))))))) (.lit (-1)))) (.mul (.app 11 0 (.cons (.var 2) (.cons (.var 3) (.cons (.var 4) (.cons (.var 5) (.cons (.var 0) (.cons (.var 1) .nil))))))) (.app 11 0 (.cons (.var 2) (.cons (.var 3) (.cons (.var 4) (.cons (.var 5) (.cons (.var 11) (.cons (.var 12) .nil))))))))) (.mul (.app 11 0 (.cons (.var 2) (.cons (.var 3) (.cons (.var 4) (.cons (.var 5) (.cons (.var 0) (.cons (.var 1) .nil))))))) (.app 11 0 (.cons (.var 2) (.cons (.var 3) (.cons (.var 4) (.cons (.var 5) (.cons (.var 11) (.cons (.var 12) .nil)))))))) (.ite (.lt (.ite (.lt (.lit (-1)) (.mul (.app 11 0 (.cons (.var 2) (.cons (.var 3) (.cons (.var 4) (.cons (.var 5) (.cons (.var 0) (.cons (.var 1) .nil))))))) (.app 11 0 (.cons (.var 2) (.cons (.var 3) (.cons (.var 4) (.cons (.var 5) (.cons (.var 7) (.cons (.var 8) .nil))))))))) (.mul (.app 11 0 (.cons (.var 2) (.cons (.var 3) (.cons (.var 4) (.cons (.var 5) (.cons (.var 0) (.cons (.var 1) .nil))))))) (.app 11 0 (.cons (.var 2) (.cons (.var 3) (.cons (.var 4) (.cons (.var 5) (.cons (.var 7) (.cons (.var 8) .nil)))))))) (.lit (-1))) (.mul (.app 11 0 (.cons (.var 2) (.cons (.var 3) (.cons (.var 4) (.cons (.var 5) (.cons (.var 0) (.cons (.var 1) .nil))))))) (.app 11 0 (.cons (.var 2) (.cons (.var 3) (.cons (.var 4) (.cons (.var 5) (.cons (.var 9) (.cons (.var 10) .nil))))))))) (.mul (.app 11 0 (.cons (.var 2) (.cons (.var 3) (.cons (.var 4) (.cons (.var 5) (.cons (.var 0) (.cons (.var 1) .nil))))))) (.app 11 0 (.cons (.var 2) (.cons (.var 3) (.cons (.var 4) (.cons (.var 5) (.cons (.var 9) (.cons (.var 10) .nil)))))))) (.ite (.lt (.lit (-1)) (.mul (.app 11 0 (.cons (.var 2) (.cons (.var 3) (.cons (.var 4) (.cons (.var 5) (.cons (.var 0) (.cons (.var 1) .nil))))))) (.app 11 0 (.cons (.var 2) (.cons (.var 3) (.cons (.var 4) (.cons (.var 5) (.cons (.var 7) (.cons (.var 8) .nil))))))))) (.mul (.app 11 0 (.cons (.var 2) (.cons (.var 3) (.cons (.var 4) (.cons (.var 5) (.cons (.var 0) (.cons (.var 1) .nil))))))) (.app 11 0 (.cons (.var 2) (.cons (.var 3) (.cons (.var 4) (.cons (.var 5) (.cons (.var 7) (.cons (.var 8) .nil)))))))) (.lit (-1)))))))
theorem k_gr4b_1 : acall cm2 20 false 122 [] (replA 6 1 (argsG [.g 6, .i, .s 43 4 8] 0 0)) (heapG [.g 6, .i, .s 43 4 8] 0) = .leaf (R_gr4b_1, heapG [.g 6, .i, .s 43 4 8] 0) := by kernel_rfl
set_option maxHeartbeats 4000000 in
set_option maxRecDepth 20000 in
theorem v_gr4b_1 : ∀ l : List Int, l.length = lenSh [.g 6, .i, .s 43 4 8] → l.getD 6 0 = 1 → valOf (E.at l) R_gr4b_1 = some (tupleV (resV E 65 l [.i] 0 0)) := by
  intro l hl hG
  have h0 : l.length = 15 := hl
  clear hl
  obtain ⟨a0, l1, rfl, h1⟩ := cut1 h0
  clear h0
  obtain ⟨a1, l2, rfl, h2⟩ := cut1 h1
  clear h1
  obtain ⟨a2, l3, rfl, h3⟩ := cut1 h2
  clear h2
  obtain ⟨a3, l4, rfl, h4⟩ := cut1 h3
  clear h3
  obtain ⟨a4, l5, rfl, h5⟩ := cut1 h4
  clear h4
  obtain ⟨a5, l6, rfl, h6⟩ := cut1 h5
  clear h5
  obtain ⟨a6, l7, rfl, h7⟩ := cut1 h6
  clear h6
  obtain ⟨a7, l8, rfl, h8⟩ := cut1 h7
  clear h7
  obtain ⟨a8, l9, rfl, h9⟩ := cut1 h8
  clear h8
  obtain ⟨a9, l10, rfl, h10⟩ := cut1 h9
  clear h9
  obtain ⟨a10, l11, rfl, h11⟩ := cut1 h10
  clear h10
  obtain ⟨a11, l12, rfl, h12⟩ := cut1 h11
  clear h11
  obtain ⟨a12, l13, rfl, h13⟩ := cut1 h12
  clear h12
  obtain ⟨a13, l14, rfl, h14⟩ := cut1 h13
  clear h13
  obtain ⟨a14, l15, rfl, h15⟩ := cut1 h14
  clear h14
  obtain rfl := cut0 h15
  clear h15

  have hG : a6 = 1 := hG
  subst hG
  have e0 : sdq [a2, a3, a4, a5, a0, a1] * sdq [a2, a3, a4, a5, a7, a8] = edq [a0, a1, a2, a3, a4, a5] 1 a7 a8 := by
    show _ = sdq [a0, a1, a2, a3, a4, a5] * sdq [a2, a3, a4, a5, a7, a8]
    rw [sdq_rot1]
  have e1 : sdq [a2, a3, a4, a5, a0, a1] * sdq [a2, a3, a4, a5, a9, a10] = edq [a0, a1, a2, a3, a4, a5] 1 a9 a10 := by
    show _ = sdq [a0, a1, a2, a3, a4, a5] * sdq [a2, a3, a4, a5, a9, a10]
    rw [sdq_rot1]
  have e2 : sdq [a2, a3, a4, a5, a0, a1] * sdq [a2, a3, a4, a5, a11, a12] = edq [a0, a1, a2, a3, a4, a5] 1 a11 a12 := by
    show _ = sdq [a0, a1, a2, a3, a4, a5] * sdq [a2, a3, a4, a5, a11, a12]
    rw [sdq_rot1]
  have e3 : sdq [a2, a3, a4, a5, a0, a1] * sdq [a2, a3, a4, a5, a13, a14] = edq [a0, a1, a2, a3, a4, a5] 1 a13 a14 := by
    show _ = sdq [a0, a1, a2, a3, a4, a5] * sdq [a2, a3, a4, a5, a13, a14]
    rw [sdq_rot1]
  simp only [R_gr4b_1, valOf, val1, den, Env.at, E, fi, List.getD_cons_zero, List.getD_cons_succ, tupleV, resV, valsI, List.take_succ_cons, List.take_zero, List.drop_succ_cons, List.drop_zero, Int.toNat_zero, ptsOf, mx, List.foldl_cons, List.foldl_nil]
  simp only [fi11, e0, e1, e2, e3, edq_w, mxE]
  all_goals (first | rfl | (congr 2))

theorem c_gr4b_1 (W : World) : Flat Try.prog E W (fun l => l.getD 6 0 = 1) 122 [.g 6, .i, .s 43 4 8] fun l => tupleV (resV E 65 l [.i] 0 0) := flat_lit (fun l _ => cm2_ok W l trivial) (fun _ h => h) k_gr4b_1 v_gr4b_1

def R_gr4b_2 : AV := (.int (.ite (.lt (.ite (.lt (.ite (.lt (.ite (.lt (.lit (-1)) (.mul (.app 11 0 (.cons (.var 4) (.cons (.var 5) (.cons (.var 0) (.cons (.var 1) (.cons (.var 2) (.cons (.var 3) .nil))))))) (.app 11 0 (.cons (.var 4) (.cons (.var 5) (.cons (.var 0) (.cons (.var 1) (.cons (.var 7) (.cons (.var 8) .nil))))))))) (.mul (.app 11 0 (.cons (.var 4) (.cons (.var 5) (.cons (.var 0) (.cons (.var 1) (.cons (.var 2) (.cons (.var 3) .nil))))))) (.app 11 0 (.cons (.var 4) (.cons (.var 5) (.cons (.var 0) (.cons (.var 1) (.cons (.var 7) (.cons (.var 8) .nil)))))))) (.lit (-1))) (.mul (.app 11 0 (.cons (.var 4) (.cons (.var 5) (.cons (.var 0) (.cons (.var 1) (.cons (.var 2) (.cons (.var 3) .nil))))))) (.app 11 0 (.cons (.var 4) (.cons (.var 5) (.cons (.var 0) (.cons (.var 1) (.cons (.var 9) (.cons (.var 10) .nil))))))))) (.mul (.app 11 0 (.cons (.var 4) (.cons (.var 5) (.cons (.var 0) (.cons (.var 1) (.cons (.var 2) (.cons (.var 3) .nil))))))) (.app 11 0 (.cons (.var 4) (.cons (.var 5) (.cons (.var 0) (.cons (.var 1) (.cons (.var 9) (.cons (.var 10) .nil)))))))) (.ite (.lt (.lit (-1)) (.mul (.app 11 0 (.cons (.var 4) (.cons (.var 5) (.cons (.var 0) (.cons (.var 1) (.cons (.var 2) (.cons (.var 3) .nil))))))) (.app 11 0 (.cons (.var 4) (.cons (.var 5) (.cons (.var 0) (.cons (.var 1) (.cons (.var 7) (.cons (.var 8) .nil))))))))) (.mul (.app 11 0 (.cons (.var 4) (.cons (.var 5) (.cons (.var 0) (.cons (.var 1) (.cons (.var 2) (.cons (.var 3) .nil))))))) (.app 11 0 (.cons (.var 4) (.cons (.var 5) (.cons (.var 0) (.cons (.var 1) (.cons (.var 7) (.cons (.var 8) .nil)))))))) (.lit (-1)))) (.mul (.app 11 0 (.cons (.var 4) (.cons (.var 5) (.cons (.var 0) (.cons (.var 1) (.cons (.var 2) (.cons (.var 3) .nil))))))) (.app 11 0 (.cons (.var 4) (.cons (.var 5) (.cons (.var 0) (.cons (.var 1) (.cons (.var 11) (.cons (.var 12) .nil))))))))) (.mul (.app 11 0 (.cons (.var 4) (.cons (.var 5) (.cons (.var 0) (.cons (.var 1) (.cons (.var 2) (.cons (.var 3) .nil))))))) (.app 11 0 (.cons (.var 4) (.cons (.var 5) (.cons (.var 0) (.cons (.var 1) (.cons (.var 11) (.cons (.var 12) .nil)))))))) (.ite (.lt (.ite (.lt (.lit (-1)) (.mul (.app 11 0 (.cons (.var 4) (.cons (.var 5) (.cons (.var 0) (.cons (.var 1) (.cons (.var 2) (.cons (.var 3) .nil))))))) (.app 11 0 (.cons (.var 4) (.cons (.var 5) (.cons (.var 0) (.cons (.var 1) (.cons (.var 7) (.cons (.var 8) .nil))))))))) (.mul (.app 11 0 (.cons (.var 4) (.cons (.var 5) (.cons (.var 0) (.cons (.var 1) (.cons (.var 2) (.cons (.var 3) .nil))))))) (.app 11 0 (.cons (.var 4) (.cons (.var 5) (.cons (.var 0) (.cons (.var 1) (.cons (.var 7) (.cons (.var 8) .nil)))))))) (.lit (-1))) (.mul (.app 11 0 (.cons (.var 4) (.cons (.var 5) (.cons (.var 0) (.cons (.var 1) (.cons (.var 2) (.cons (.var 3) .nil))))))) (.app 11 0 (.cons (.var 4) (.cons (.var 5) (.cons (.var 0) (.cons (.var 1) (.cons (.var 9) (.cons (.var 10) .nil))))))))) (.mul (.app 11 0 (.cons (.var 4) (.cons (.var 5) (.cons (.var 0) (.cons (.var 1) (.cons (.var 2) (.cons (.var 3) .nil))))))) (.app 11 0 (.cons (.var 4) (.cons (.var 5) (.cons (.var 0) (.cons (.var 1) (.cons (.var 9) (.cons (.var 10) .nil)))))))) (.ite (.lt (.lit (-1)) (.mul (.app 11 0 (.cons (.var 4) (.cons (.var 5) (.cons (.var 0) (.cons (.var 1) (.cons (.var 2) (.cons (.var 3) .nil))))))) (.app 11 0 (.cons (.var 4) (.cons (.var 5) (.cons (.var 0) (.cons (.var 1) (.cons (.var 7) (.cons (.var 8) .nil))))))))) (.mul (.app 11 0 (.cons (.var 4) (.cons (.var 5) (.cons (.var 0) (.cons (.var 1) (.cons (.var 2) (.cons (.var 3) .nil))))))) (.app 11 0 (.cons (.var 4) (.cons (.var 5) (.cons (.var 0) (.cons (.var 1) (.cons (.var 7) (.cons (.var 8) .nil)))))))) (.lit (-1))))) (.mul (.app 11 0 (.cons (.var 4) (.cons (.var 5) (.cons (.var 0) (.cons (.var 1) (.cons (.var 2) (.cons (.var 3) .nil))))))) (.app 11 0 (.cons (.var 4) (.cons (.var 5) (.cons (.var 0) (.cons (.var 1) (.cons (.var 13) (.cons (.var 14) .nil))))))))) (.mul (.app 11 0 (.cons (.var 4) (.cons (.var 5) (.cons (.var 0) (.cons (.var 1) (.cons (.var 2) (.cons (.var 3) .nil))))))) (.app 11 0 (.cons (.var 4) (.cons (.var 5) (.cons (.var 0) (.cons (.var 1) (.cons (.var 13) (.cons (.var 14) .nil)))))))) (.ite (.lt (.ite (.lt (.ite (.lt (.lit (-1)) (.mul (.app 11 0 (.cons (.var 4) (.cons (.var 5) (.cons (.var 0) (.cons (.var 1) (.cons (.var 2) (.cons (.var 3) .nil))))))) (.app 11 0 (.cons (.var 4) (.cons (.var 5) (.cons (.var 0) (.cons (.var 1) (.cons (.var 7) (.cons (.var 8) .nil))))))))) (.mul (.app 11 0 (.cons (.var 4) (.cons (.var 5) (.cons (.var 0) (.cons (.var 1) (.cons (.var 2) (.cons (.var 3) .nil))))))) (.app 11 0 (.cons (.var 4) (.cons (.var 5) (.cons (.var 0) (.cons (.var 1) (.cons (.var 7) (.cons (.var 8) .nil)))))))) (.lit (-1))) (.mul (.app 11 0 (.cons (.var 4) (.cons (.var 5) (.cons (.var 0) (.cons (.var 1) (.cons (.var 2) (.cons (.var 3) .nil))))))) (.app 11 0 (.cons (.var 4) (.cons (.var 5) (.cons (.var 0) (.cons (.var 1) (.cons (.var 9) (.cons (.var 10) .nil))))))))) (.mul (.app 11 0 (.cons (.var 4) (.cons (.var 5) (.cons (.var 0) (.cons (.var 1) (.cons (.var 2) (.cons (.var 3) .nil))))))) (.app 11 0 (.cons (.var 4) (.cons (.var 5) (.cons (.var 0) (.cons (.var 1) (.cons (.var 9) (.cons (.var 10) .nil)))))))) (.ite (.lt (.lit (-1)) (.mul (.app 11 0 (.cons (.var 4) (.cons (.var 5) (.cons (.var 0) (.cons (.var 1) (.cons (.var 2) (.cons (.var 3) .nil))))))) (.app 11 0 (.cons (.var 4) (.cons (.var 5) (.cons (.var 0) (.cons (.var 1) (.cons (.var 7) (.cons (.var 8) .nil))))))))) (.mul (.app 11 0 (.cons (.var 4) (.cons (.var 5) (.cons (.var 0) (.cons (.var 1) (.cons (.var 2) (.cons (.var 3) .nil))))))) (.app 11 0 (.cons (.var 4) (.cons (.var 5) (.cons (.var 0) (.cons (.var 1) (.cons (.var 7) (.cons (.var 8) .nil)))))))) (.lit (-1)))) (.mul (.app 11 0 (.cons (.var 4) (.cons (.var 5) (.cons (.var 0) (.cons (.var 1) (.cons (.var 2) (.cons (.var 3) .nil))))))) (.app 11 0 (.cons (.var 4) (.cons (.var 5) (.cons (.var 0) (.cons (.var 1) (.cons (.var 11) (.cons (.var 12) .nil))))))))) (.mul (.app 11 0 (.cons (.var 4) (.cons (.var 5) (.cons (.var 0) (.cons (.var 1) (.cons (.var 2) (.cons (.var 3) .nil))))))) (.app 11 0 (.cons (.var 4) (.cons (.var 5) (.cons (.var 0) (.cons (.var 1) (.cons (.var 11) (.cons (.var 12) .nil)))))))) (.ite (.lt (.ite (.lt (.lit (-1)) (.mul (.app 11 0 (.cons (.var 4) (.cons (.var 5) (.cons (.var 0) (.cons (.var 1) (.cons (.var 2) (.cons (.var 3) .nil))))))) (.app 11 0 (.cons (.var 4) (.cons (.var 5) (.cons (.var 0) (.cons (.var 1) (.cons (.var 7) (.cons (.var 8) .nil))))))))) (.mul (.app 11 0 (.cons (.var 4) (.cons (.var 5) (.cons (.var 0) (.cons (.var 1) (.cons (.var 2) (.cons (.var 3) .nil))))))) (.app 11 0 (.cons (.var 4) (.cons (.var 5) (.cons (.var 0) (.cons (.var 1) (.cons (.var 7) (.cons (.var 8) .nil)))))))) (.lit (-1))) (.mul (.app 11 0 (.cons (.var 4) (.cons (.var 5) (.cons (.var 0) (.cons (.var 1) (.cons (.var 2) (.cons (.var 3) .nil))))))) (.app 11 0 (.cons (.var 4) (.cons (.var 5) (.cons (.var 0) (.cons (.var 1) (.cons (.var 9) (.cons (.var 10) .nil))))))))) (.mul (.app 11 0 (.cons (.var 4) (.cons (.var 5) (.cons (.var 0) (.cons (.var 1) (.cons (.var 2) (.cons (.var 3) .nil))))))) (.app 11 0 (.cons (.var 4) (.cons (.var 5) (.cons (.var 0) (.cons (.var 1) (.cons (.var 9) (.cons (.var 10) .nil)))))))) (.ite (.lt (.lit (-1)) (.mul (.app 11 0 (.cons (.var 4) (.cons (.var 5) (.cons (.var 0) (.cons (.var 1) (.cons (.var 2) (.cons (.var 3) .nil))))))) (.app 11 0 (.cons (.var 4) (.cons (.var 5) (.cons (.var 0) (.cons (.var 1) (.cons (.var 7) (.cons (.var 8) .nil))))))))) (.mul (.app 11 0 (.cons (.var 4) (.cons (.var 5) (.cons (.var 0) (.cons (.var 1) (.cons (.var 2) (.cons (.var 3) .nil))))))) (.app 11 0 (.cons (.var 4) (.cons (.var 5) (.cons (.var 0) (.cons (.var 1) (.cons (.var 7) (.cons (.var 8) .nil)))))))) (.lit (-1)))))))
theorem k_gr4b_2 : acall cm2 20 false 122 [] (replA 6 2 (argsG [.g 6, .i, .s 43 4 8] 0 0)) (heapG [.g 6, .i, .s 43 4 8] 0) = .leaf (R_gr4b_2, heapG [.g 6, .i, .s 43 4 8] 0) := by kernel_rfl
set_option maxHeartbeats 4000000 in
set_option maxRecDepth 20000 in
theorem v_gr4b_2 : ∀ l : List Int, l.length = lenSh [.g 6, .i, .s 43 4 8] → l.getD 6 0 = 2 → valOf (E.at l) R_gr4b_2 = some (tupleV (resV E 65 l [.i] 0 0)) := by
  intro l hl hG
  have h0 : l.length = 15 := hl
  clear hl
  obtain ⟨a0, l1, rfl, h1⟩ := cut1 h0
  clear h0
  obtain ⟨a1, l2, rfl, h2⟩ := cut1 h1
  clear h1
  obtain ⟨a2, l3, rfl, h3⟩ := cut1 h2
  clear h2
  obtain ⟨a3, l4, rfl, h4⟩ := cut1 h3
  clear h3
  obtain ⟨a4, l5, rfl, h5⟩ := cut1 h4
  clear h4
  obtain ⟨a5, l6, rfl, h6⟩ := cut1 h5
  clear h5
  obtain ⟨a6, l7, rfl, h7⟩ := cut1 h6
  clear h6
  obtain ⟨a7, l8, rfl, h8⟩ := cut1 h7
  clear h7
  obtain ⟨a8, l9, rfl, h9⟩ := cut1 h8
  clear h8
  obtain ⟨a9, l10, rfl, h10⟩ := cut1 h9
  clear h9
  obtain ⟨a10, l11, rfl, h11⟩ := cut1 h10
  clear h10
  obtain ⟨a11, l12, rfl, h12⟩ := cut1 h11
  clear h11
  obtain ⟨a12, l13, rfl, h13⟩ := cut1 h12
  clear h12
  obtain ⟨a13, l14, rfl, h14⟩ := cut1 h13
  clear h13
  obtain ⟨a14, l15, rfl, h15⟩ := cut1 h14
  clear h14
  obtain rfl := cut0 h15
  clear h15

  have hG : a6 = 2 := hG
  subst hG
  have e0 : sdq [a4, a5, a0, a1, a2, a3] * sdq [a4, a5, a0, a1, a7, a8] = edq [a0, a1, a2, a3, a4, a5] 2 a7 a8 := by
    show _ = sdq [a0, a1, a2, a3, a4, a5] * sdq [a4, a5, a0, a1, a7, a8]
    rw [sdq_rot2]
  have e1 : sdq [a4, a5, a0, a1, a2, a3] * sdq [a4, a5, a0, a1, a9, a10] = edq [a0, a1, a2, a3, a4, a5] 2 a9 a10 := by
    show _ = sdq [a0, a1, a2, a3, a4, a5] * sdq [a4, a5, a0, a1, a9, a10]
    rw [sdq_rot2]
  have e2 : sdq [a4, a5, a0, a1, a2, a3] * sdq [a4, a5, a0, a1, a11, a12] = edq [a0, a1, a2, a3, a4, a5] 2 a11 a12 := by
    show _ = sdq [a0, a1, a2, a3, a4, a5] * sdq [a4, a5, a0, a1, a11, a12]
    rw [sdq_rot2]
  have e3 : sdq [a4, a5, a0, a1, a2, a3] * sdq [a4, a5, a0, a1, a13, a14] = edq [a0, a1, a2, a3, a4, a5] 2 a13 a14 := by
    show _ = sdq [a0, a1, a2, a3, a4, a5] * sdq [a4, a5, a0, a1, a13, a14]
    rw [sdq_rot2]
  simp only [R_gr4b_2, valOf, val1, den, Env.at, E, fi, List.getD_cons_zero, List.getD_cons_succ, tupleV, resV, valsI, List.take_succ_cons, List.take_zero, List.drop_succ_cons, List.drop_zero, Int.toNat_zero, ptsOf, mx, List.foldl_cons, List.foldl_nil]
  simp only [fi11, e0, e1, e2, e3, edq_w, mxE]
  all_goals (first | rfl | (congr 2))

theorem c_gr4b_2 (W : World) : Flat Try.prog E W (fun l => l.getD 6 0 = 2) 122 [.g 6, .i, .s 43 4 8] fun l => tupleV (resV E 65 l [.i] 0 0) := flat_lit (fun l _ => cm2_ok W l trivial) (fun _ h => h) k_gr4b_2 v_gr4b_2

def R_gr3b_0 : AV := (.int (.ite (.lt (.ite (.lt (.ite (.lt (.lit (-1)) (.mul (.app 11 0 (.cons (.var 0) (.cons (.var 1) (.cons (.var 2) (.cons (.var 3) (.cons (.var 4) (.cons (.var 5) .nil))))))) (.app 11 0 (.cons (.var 0) (.cons (.var 1) (.cons (.var 2) (.cons (.var 3) (.cons (.var 7) (.cons (.var 8) .nil))))))))) (.mul (.app 11 0 (.cons (.var 0) (.cons (.var 1) (.cons (.var 2) (.cons (.var 3) (.cons (.var 4) (.cons (.var 5) .nil))))))) (.app 11 0 (.cons (.var 0) (.cons (.var 1) (.cons (.var 2) (.cons (.var 3) (.cons (.var 7) (.cons (.var 8) .nil)))))))) (.lit (-1))) (.mul (.app 11 0 (.cons (.var 0) (.cons (.var 1) (.cons (.var 2) (.cons (.var 3) (.cons (.var 4) (.cons (.var 5) .nil))))))) (.app 11 0 (.cons (.var 0) (.cons (.var 1) (.cons (.var 2) (.cons (.var 3) (.cons (.var 9) (.cons (.var 10) .nil))))))))) (.mul (.app 11 0 (.cons (.var 0) (.cons (.var 1) (.cons (.var 2) (.cons (.var 3) (.cons (.var 4) (.cons (.var 5) .nil))))))) (.app 11 0 (.cons (.var 0) (.cons (.var 1) (.cons (.var 2) (.cons (.var 3) (.cons (.var 9) (.cons (.var 10) .nil)))))))) (.ite (.lt (.lit (-1)) (.mul (.app 11 0 (.cons (.var 0) (.cons (.var 1) (.cons (.var 2) (.cons (.var 3) (.cons (.var 4) (.cons (.var 5) .nil))))))) (.app 11 0 (.cons (.var 0) (.cons (.var 1) (.cons (.var 2) (.cons (.var 3) (.cons (.var 7) (.cons (.var 8) .nil))))))))) (.mul (.app 11 0 (.cons (.var 0) (.cons (.var 1) (.cons (.var 2) (.cons (.var 3) (.cons (.var 4) (.cons (.var 5) .nil))))))) (.app 11 0 (.cons (.var 0) (.cons (.var 1) (.cons (.var 2) (.cons (.var 3) (.cons (.var 7) (.cons (.var 8) .nil)))))))) (.lit (-1)))) (.mul (.app 11 0 (.cons (.var 0) (.cons (.var 1) (.cons (.var 2) (.cons (.var 3) (.cons (.var 4) (.cons (.var 5) .nil))))))) (.app 11 0 (.cons (.var 0) (.cons (.var 1) (.cons (.var 2) (.cons (.var 3) (.cons (.var 11) (.cons (.var 12) .nil))))))))) (.mul (.app 11 0 (.cons (.var 0) (.cons (.var 1) (.cons (.var 2) (.cons (.var 3) (.cons (.var 4) (.cons (.var 5) .nil))))))) (.app 11 0 (.cons (.var 0) (.cons (.var 1) (.cons (.var 2) (.cons (.var 3) (.cons (.var 11) (.cons (.var 12) .nil)))))))) (.ite (.lt (.ite (.lt (.lit (-1)) (.mul (.app 11 0 (.cons (.var 0) (.cons (.var 1) (.cons (.var 2) (.cons (.var 3) (.cons (.var 4) (.cons (.var 5) .nil))))))) (.app 11 0 (.cons (.var 0) (.cons (.var 1) (.cons (.var 2) (.cons (.var 3) (.cons (.var 7) (.cons (.var 8) .nil))))))))) (.mul (.app 11 0 (.cons (.var 0) (.cons (.var 1) (.cons (.var 2) (.cons (.var 3) (.cons (.var 4) (.cons (.var 5) .nil))))))) (.app 11 0 (.cons (.var 0) (.cons (.var 1) (.cons (.var 2) (.cons (.var 3) (.cons (.var 7) (.cons (.var 8) .nil)))))))) (.lit (-1))) (.mul (.app 11 0 (.cons (.var 0) (.cons (.var 1) (.cons (.var 2) (.cons (.var 3) (.cons (.var 4) (.cons (.var 5) .nil))))))) (.app 11 0 (.cons (.var 0) (.cons (.var 1) (.cons (.var 2) (.cons (.var 3) (.cons (.var 9) (.cons (.var 10) .nil))))))))) (.mul (.app 11 0 (.cons (.var 0) (.cons (.var 1) (.cons (.var 2) (.cons (.var 3) (.cons (.var 4) (.cons (.var 5) .nil))))))) (.app 11 0 (.cons (.var 0) (.cons (.var 1) (.cons (.var 2) (.cons (.var 3) (.cons (.var 9) (.cons (.var 10) .nil)))))))) (.ite (.lt (.lit (-1)) (.mul (.app 11 0 (.cons (.var 0) (.cons (.var 1) (.cons (.var 2) (.cons (.var 3) (.cons (.var 4) (.cons (.var 5) .nil))))))) (.app 11 0 (.cons (.var 0) (.cons (.var 1) (.cons (.var 2) (.cons (.var 3) (.cons (.var 7) (.cons (.var 8) .nil))))))))) (.mul (.app 11 0 (.cons (.var 0) (.cons (.var 1) (.cons (.var 2) (.cons (.var 3) (.cons (.var 4) (.cons (.var 5) .nil))))))) (.app 11 0 (.cons (.var 0) (.cons (.var 1) (.cons (.var 2) (.cons (.var 3) (.cons (.var 7) (.cons (.var 8) .nil)))))))) (.lit (-1))))))
theorem k_gr3b_0 : acall cm2 20 false 122 [] (replA 6 0 (argsG [.g 6, .i, .s 43 3 6] 0 0)) (heapG [.g 6, .i, .s 43 3 6] 0) = .leaf (R_gr3b_0, heapG [.g 6, .i, .s 43 3 6] 0) := by kernel_rfl
set_option maxHeartbeats 4000000 in
set_option maxRecDepth 20000 in
theorem v_gr3b_0 : ∀ l : List Int, l.length = lenSh [.g 6, .i, .s 43 3 6] → l.getD 6 0 = 0 → valOf (E.at l) R_gr3b_0 = some (tupleV (resV E 65 l [.i] 0 0)) := by
  intro l hl hG
  have h0 : l.length = 13 := hl
  clear hl
  obtain ⟨a0, l1, rfl, h1⟩ := cut1 h0
  clear h0
  obtain ⟨a1, l2, rfl, h2⟩ := cut1 h1
  clear h1
  obtain ⟨a2, l3, rfl, h3⟩ := cut1 h2
  clear h2
  obtain ⟨a3, l4, rfl, h4⟩ := cut1 h3
  clear h3
  obtain ⟨a4, l5, rfl, h5⟩ := cut1 h4
  clear h4
  obtain ⟨a5, l6, rfl, h6⟩ := cut1 h5
  clear h5
  obtain ⟨a6, l7, rfl, h7⟩ := cut1 h6
  clear h6
  obtain ⟨a7, l8, rfl, h8⟩ := cut1 h7
  clear h7
  obtain ⟨a8, l9, rfl, h9⟩ := cut1 h8
  clear h8
  obtain ⟨a9, l10, rfl, h10⟩ := cut1 h9
  clear h9
  obtain ⟨a10, l11, rfl, h11⟩ := cut1 h10
  clear h10
  obtain ⟨a11, l12, rfl, h12⟩ := cut1 h11
  clear h11
  obtain ⟨a12, l13, rfl, h13⟩ := cut1 h12
  clear h12
  obtain rfl := cut0 h13
  clear h13

  have hG : a6 = 0 := hG
  subst hG
  have e0 : sdq [a0, a1, a2, a3, a4, a5] * sdq [a0, a1, a2, a3, a7, a8] = edq [a0, a1, a2, a3, a4, a5] 0 a7 a8 := rfl
  have e1 : sdq [a0, a1, a2, a3, a4, a5] * sdq [a0, a1, a2, a3, a9, a10] = edq [a0, a1, a2, a3, a4, a5] 0 a9 a10 := rfl
  have e2 : sdq [a0, a1, a2, a3, a4, a5] * sdq [a0, a1, a2, a3, a11, a12] = edq [a0, a1, a2, a3, a4, a5] 0 a11 a12 := rfl
  simp only [R_gr3b_0, valOf, val1, den, Env.at, E, fi, List.getD_cons_zero, List.getD_cons_succ, tupleV, resV, valsI, List.take_succ_cons, List.take_zero, List.drop_succ_cons, List.drop_zero, Int.toNat_zero, ptsOf, mx, List.foldl_cons, List.foldl_nil]
  simp only [fi11, e0, e1, e2, edq_w, mxE]
  all_goals (first | rfl | (congr 2))

theorem c_gr3b_0 (W : World) : Flat Try.prog E W (fun l => l.getD 6 0 = 0) 122 [.g 6, .i, .s 43 3 6] fun l => tupleV (resV E 65 l [.i] 0 0) := flat_lit (fun l _ => cm2_ok W l trivial) (fun _ h => h) k_gr3b_0 v_gr3b_0

def R_gr3b_1 : AV := (.int (.ite (.lt (.ite (.lt (.ite (.lt (.lit (-1)) (.mul (.app 11 0 (.cons (.var 2) (.cons (.var 3) (.cons (.var 4) (.cons (.var 5) (.cons (.var 0) (.cons (.var 1) .nil))))))) (.app 11 0 (.cons (.var 2) (.cons (.var 3) (.cons (.var 4) (.cons (.var 5) (.cons (.var 7) (.cons (.var 8) .nil))))))))) (.mul (.app 11 0 (.cons (.var 2) (.cons (.var 3) (.cons (.var 4) (.cons (.var 5) (.cons (.var 0) (.cons (.var 1) .nil))))))) (.app 11 0 (.cons (.var 2) (.cons (.var 3) (.cons (.var 4) (.cons (.var 5) (.cons (.var 7) (.cons (.var 8) .nil)))))))) (.lit (-1))) (.mul (.app 11 0 (.cons (.var 2) (.cons (.var 3) (.cons (.var 4) (.cons (.var 5) (.cons (.var 0) (.cons (.var 1) .nil))))))) (.app 11 0 (.cons (.var 2) (.cons (.var 3) (.cons (.var 4) (.cons (.var 5) (.cons (.var 9) (.cons (.var 10) .nil))))))))) (.mul (.app 11 0 (.cons (.var 2) (.cons (.var 3) (.cons (.var 4) (.cons (.var 5) (.cons (.var 0) (.cons (.var 1) .nil))))))) (.app 11 0 (.cons (.var 2) (.cons (.var 3) (.cons (.var 4) (.cons (.var 5) (.cons (.var 9) (.cons (.var 10) .nil)))))))) (.ite (.lt (.lit (-1)) (.mul (.app 11 0 (.cons (.var 2) (.cons (.var 3) (.cons (.var 4) (.cons (.var 5) (.cons (.var 0) (.cons (.var 1) .nil))))))) (.app 11 0 (.cons (.var 2) (.cons (.var 3) (.cons (.var 4) (.cons (.var 5) (.cons (.var 7) (.cons (.var 8) .nil))))))))) (.mul (.app 11 0 (.cons (.var 2) (.cons (.var 3) (.cons (.var 4) (.cons (.var 5) (.cons (.var 0) (.cons (.var 1) .nil))))))) (.app 11 0 (.cons (.var 2) (.cons (.var 3) (.cons (.var 4) (.cons (.var 5) (.cons (.var 7) (.cons (.var 8) .nil)))))))) (.lit (-1)))) (.mul (.app 11 0 (.cons (.var 2) (.cons (.var 3) (.cons (.var 4) (.cons (.var 5) (.cons (.var 0) (.cons (.var 1) .nil))))))) (.app 11 0 (.cons (.var 2) (.cons (.var 3) (.cons (.var 4) (.cons (.var 5) (.cons (.var 11) (.cons (.var 12) .nil))))))))) (.mul (.app 11 0 (.cons (.var 2) (.cons (.var 3) (.cons (.var 4) (.cons (.var 5) (.cons (.var 0) (.cons (.var 1) .nil))))))) (.app 11 0 (.cons (.var 2) (.cons (.var 3) (.cons (.var 4) (.cons (.var 5) (.cons (.var 11) (.cons (.var 12) .nil)))))))) (.ite (.lt (.ite (.lt (.lit (-1)) (.mul (.app 11 0 (.cons (.var 2) (.cons (.var 3) (.cons (.var 4) (.cons (.var 5) (.cons (.var 0) (.cons (.var 1) .nil))))))) (.app 11 0 (.cons (.var 2) (.cons (.var 3) (.cons (.var 4) (.cons (.var 5) (.cons (.var 7) (.cons (.var 8) .nil))))))))) (.mul (.app 11 0 (.cons (.var 2) (.cons (.var 3) (.cons (.var 4) (.cons (.var 5) (.cons (.var 0) (.cons (.var 1) .nil))))))) (.app 11 0 (.cons (.var 2) (.cons (.var 3) (.cons (.var 4) (.cons (.var 5) (.cons (.var 7) (.cons (.var 8) .nil)))))))) (.lit (-1))) (.mul (.app 11 0 (.cons (.var 2) (.cons (.var 3) (.cons (.var 4) (.cons (.var 5) (.cons (.var 0) (.cons (.var 1) .nil))))))) (.app 11 0 (.cons (.var 2) (.cons (.var 3) (.cons (.var 4) (.cons (.var 5) (.cons (.var 9) (.cons (.var 10) .nil))))))))) (.mul (.app 11 0 (.cons (.var 2) (.cons (.var 3) (.cons (.var 4) (.cons (.var 5) (.cons (.var 0) (.cons (.var 1) .nil))))))) (.app 11 0 (.cons (.var 2) (.cons (.var 3) (.cons (.var 4) (.cons (.var 5) (.cons (.var 9) (.cons (.var 10) .nil)))))))) (.ite (.lt (.lit (-1)) (.mul (.app 11 0 (.cons (.var 2) (.cons (.var 3) (.cons (.var 4) (.cons (.var 5) (.cons (.var 0) (.cons (.var 1) .nil))))))) (.app 11 0 (.cons (.var 2) (.cons (.var 3) (.cons (.var 4) (.cons (.var 5) (.cons (.var 7) (.cons (.var 8) .nil))))))))) (.mul (.app 11 0 (.cons (.var 2) (.cons (.var 3) (.cons (.var 4) (.cons (.var 5) (.cons (.var 0) (.cons (.var 1) .nil))))))) (.app 11 0 (.cons (.var 2) (.cons (.var 3) (.cons (.var 4) (.cons (.var 5) (.cons (.var 7) (.cons (.var 8) .nil)))))))) (.lit (-1))))))
theorem k_gr3b_1 : acall cm2 20 false 122 [] (replA 6 1 (argsG [.g 6, .i, .s 43 3 6] 0 0)) (heapG [.g 6, .i, .s 43 3 6] 0) = .leaf (R_gr3b_1, heapG [.g 6, .i, .s 43 3 6] 0) := by kernel_rfl
set_option maxHeartbeats 4000000 in
set_option maxRecDepth 20000 in
theorem v_gr3b_1 : ∀ l : List Int, l.length = lenSh [.g 6, .i, .s 43 3 6] → l.getD 6 0 = 1 → valOf (E.at l) R_gr3b_1 = some (tupleV (resV E 65 l [.i] 0 0)) := by
  intro l hl hG
  have h0 : l.length = 13 := hl
  clear hl
  obtain ⟨a0, l1, rfl, h1⟩ := cut1 h0
  clear h0
  obtain ⟨a1, l2, rfl, h2⟩ := cut1 h1
  clear h1
  obtain ⟨a2, l3, rfl, h3⟩ := cut1 h2
  clear h2
  obtain ⟨a3, l4, rfl, h4⟩ := cut1 h3
  clear h3
  obtain ⟨a4, l5, rfl, h5⟩ := cut1 h4
  clear h4
  obtain ⟨a5, l6, rfl, h6⟩ := cut1 h5
  clear h5
  obtain ⟨a6, l7, rfl, h7⟩ := cut1 h6
  clear h6
  obtain ⟨a7, l8, rfl, h8⟩ := cut1 h7
  clear h7
  obtain ⟨a8, l9, rfl, h9⟩ := cut1 h8
  clear h8
  obtain ⟨a9, l10, rfl, h10⟩ := cut1 h9
  clear h9
  obtain ⟨a10, l11, rfl, h11⟩ := cut1 h10
  clear h10
  obtain ⟨a11, l12, rfl, h12⟩ := cut1 h11
  clear h11
  obtain ⟨a12, l13, rfl, h13⟩ := cut1 h12
  clear h12
  obtain rfl := cut0 h13
  clear h13

  have hG : a6 = 1 := hG
  subst hG
  have e0 : sdq [a2, a3, a4, a5, a0, a1] * sdq [a2, a3, a4, a5, a7, a8] = edq [a0, a1, a2, a3, a4, a5] 1 a7 a8 := by
    show _ = sdq [a0, a1, a2, a3, a4, a5] * sdq [a2, a3, a4, a5, a7, a8]
    rw [sdq_rot1]
  have e1 : sdq [a2, a3, a4, a5, a0, a1] * sdq [a2, a3, a4, a5, a9, a10] = edq [a0, a1, a2, a3, a4, a5] 1 a9 a10 := by
    show _ = sdq [a0, a1, a2, a3, a4, a5] * sdq [a2, a3, a4, a5, a9, a10]
    rw [sdq_rot1]
  have e2 : sdq [a2, a3, a4, a5, a0, a1] * sdq [a2, a3, a4, a5, a11, a12] = edq [a0, a1, a2, a3, a4, a5] 1 a11 a12 := by
    show _ = sdq [a0, a1, a2, a3, a4, a5] * sdq [a2, a3, a4, a5, a11, a12]
    rw [sdq_rot1]
  simp only [R_gr3b_1, valOf, val1, den, Env.at, E, fi, List.getD_cons_zero, List.getD_cons_succ, tupleV, resV, valsI, List.take_succ_cons, List.take_zero, List.drop_succ_cons, List.drop_zero, Int.toNat_zero, ptsOf, mx, List.foldl_cons, List.foldl_nil]
  simp only [fi11, e0, e1, e2, edq_w, mxE]
  all_goals (first | rfl | (congr 2))

theorem c_gr3b_1 (W : World) : Flat Try.prog E W (fun l => l.getD 6 0 = 1) 122 [.g 6, .i, .s 43 3 6] fun l => tupleV (resV E 65 l [.i] 0 0) := flat_lit (fun l _ => cm2_ok W l trivial) (fun _ h => h) k_gr3b_1 v_gr3b_1

def R_gr3b_2 : AV := (.int (.ite (.lt (.ite (.lt (.ite (.lt (.lit (-1)) (.mul (.app 11 0 (.cons (.var 4) (.cons (.var 5) (.cons (.var 0) (.cons (.var 1) (.cons (.var 2) (.cons (.var 3) .nil))))))) (.app 11 0 (.cons (.var 4) (.cons (.var 5) (.cons (.var 0) (.cons (.var 1) (.cons (.var 7) (.cons (.var 8) .nil))))))))) (.mul (.app 11 0 (.cons (.var 4) (.cons (.var 5) (.cons (.var 0) (.cons (.var 1) (.cons (.var 2) (.cons (.var 3) .nil))))))) (.app 11 0 (.cons (.var 4) (.cons (.var 5) (.cons (.var 0) (.cons (.var 1) (.cons (.var 7) (.cons (.var 8) .nil)))))))) (.lit (-1))) (.mul (.app 11 0 (.cons (.var 4) (.cons (.var 5) (.cons (.var 0) (.cons (.var 1) (.cons (.var 2) (.cons (.var 3) .nil))))))) (.app 11 0 (.cons (.var 4) (.cons (.var 5) (.cons (.var 0) (.cons (.var 1) (.cons (.var 9) (.cons (.var 10) .nil))))))))) (.mul (.app 11 0 (.cons (.var 4) (.cons (.var 5) (.cons (.var 0) (.cons (.var 1) (.cons (.var 2) (.cons (.var 3) .nil))))))) (.app 11 0 (.cons (.var 4) (.cons (.var 5) (.cons (.var 0) (.cons (.var 1) (.cons (.var 9) (.cons (.var 10) .nil)))))))) (.ite (.lt (.lit (-1)) (.mul (.app 11 0 (.cons (.var 4) (.cons (.var 5) (.cons (.var 0) (.cons (.var 1) (.cons (.var 2) (.cons (.var 3) .nil))))))) (.app 11 0 (.cons (.var 4) (.cons (.var 5) (.cons (.var 0) (.cons (.var 1) (.cons (.var 7) (.cons (.var 8) .nil))))))))) (.mul (.app 11 0 (.cons (.var 4) (.cons (.var 5) (.cons (.var 0) (.cons (.var 1) (.cons (.var 2) (.cons (.var 3) .nil))))))) (.app 11 0 (.cons (.var 4) (.cons (.var 5) (.cons (.var 0) (.cons (.var 1) (.cons (.var 7) (.cons (.var 8) .nil)))))))) (.lit (-1)))) (.mul (.app 11 0 (.cons (.var 4) (.cons (.var 5) (.cons (.var 0) (.cons (.var 1) (.cons (.var 2) (.cons (.var 3) .nil))))))) (.app 11 0 (.cons (.var 4) (.cons (.var 5) (.cons (.var 0) (.cons (.var 1) (.cons (.var 11) (.cons (.var 12) .nil))))))))) (.mul (.app 11 0 (.cons (.var 4) (.cons (.var 5) (.cons (.var 0) (.cons (.var 1) (.cons (.var 2) (.cons (.var 3) .nil))))))) (.app 11 0 (.cons (.var 4) (.cons (.var 5) (.cons (.var 0) (.cons (.var 1) (.cons (.var 11) (.cons (.var 12) .nil)))))))) (.ite (.lt (.ite (.lt (.lit (-1)) (.mul (.app 11 0 (.cons (.var 4) (.cons (.var 5) (.cons (.var 0) (.cons (.var 1) (.cons (.var 2) (.cons (.var 3) .nil))))))) (.app 11 0 (.cons (.var 4) (.cons (.var 5) (.cons (.var 0) (.cons (.var 1) (.cons (.var 7) (.cons (.var 8) .nil))))))))) (.mul (.app 11 0 (.cons (.var 4) (.cons (.var 5) (.cons (.var 0) (.cons (.var 1) (.cons (.var 2) (.cons (.var 3) .nil))))))) (.app 11 0 (.cons (.var 4) (.cons (.var 5) (.cons (.var 0) (.cons (.var 1) (.cons (.var 7) (.cons (.var 8) .nil)))))))) (.lit (-1))) (.mul (.app 11 0 (.cons (.var 4) (.cons (.var 5) (.cons (.var 0) (.cons (.var 1) (.cons (.var 2) (.cons (.var 3) .nil))))))) (.app 11 0 (.cons (.var 4) (.cons (.var 5) (.cons (.var 0) (.cons (.var 1) (.cons (.var 9) (.cons (.var 10) .nil))))))))) (.mul (.app 11 0 (.cons (.var 4) (.cons (.var 5) (.cons (.var 0) (.cons (.var 1) (.cons (.var 2) (.cons (.var 3) .nil))))))) (.app 11 0 (.cons (.var 4) (.cons (.var 5) (.cons (.var 0) (.cons (.var 1) (.cons (.var 9) (.cons (.var 10) .nil)))))))) (.ite (.lt (.lit (-1)) (.mul (.app 11 0 (.cons (.var 4) (.cons (.var 5) (.cons (.var 0) (.cons (.var 1) (.cons (.var 2) (.cons (.var 3) .nil))))))) (.app 11 0 (.cons (.var 4) (.cons (.var 5) (.cons (.var 0) (.cons (.var 1) (.cons (.var 7) (.cons (.var 8) .nil))))))))) (.mul (.app 11 0 (.cons (.var 4) (.cons (.var 5) (.cons (.var 0) (.cons (.var 1) (.cons (.var 2) (.cons (.var 3) .nil))))))) (.app 11 0 (.cons (.var 4) (.cons (.var 5) (.cons (.var 0) (.cons (.var 1) (.cons (.var 7) (.cons (.var 8) .nil)))))))) (.lit (-1))))))
theorem k_gr3b_2 : acall cm2 20 false 122 [] (replA 6 2 (argsG [.g 6, .i, .s 43 3 6] 0 0)) (heapG [.g 6, .i, .s 43 3 6] 0) = .leaf (R_gr3b_2, heapG [.g 6, .i, .s 43 3 6] 0) := by kernel_rfl
set_option maxHeartbeats 4000000 in
set_option maxRecDepth 20000 in
theorem v_gr3b_2 : ∀ l : List Int, l.length = lenSh [.g 6, .i, .s 43 3 6] → l.getD 6 0 = 2 → valOf (E.at l) R_gr3b_2 = some (tupleV (resV E 65 l [.i] 0 0)) := by
  intro l hl hG
  have h0 : l.length = 13 := hl
  clear hl
  obtain ⟨a0, l1, rfl, h1⟩ := cut1 h0
  clear h0
  obtain ⟨a1, l2, rfl, h2⟩ := cut1 h1
  clear h1
  obtain ⟨a2, l3, rfl, h3⟩ := cut1 h2
  clear h2
  obtain ⟨a3, l4, rfl, h4⟩ := cut1 h3
  clear h3
  obtain ⟨a4, l5, rfl, h5⟩ := cut1 h4
  clear h4
  obtain ⟨a5, l6, rfl, h6⟩ := cut1 h5
  clear h5
  obtain ⟨a6, l7, rfl, h7⟩ := cut1 h6
  clear h6
  obtain ⟨a7, l8, rfl, h8⟩ := cut1 h7
  clear h7
  obtain ⟨a8, l9, rfl, h9⟩ := cut1 h8
  clear h8
  obtain ⟨a9, l10, rfl, h10⟩ := cut1 h9
  clear h9
  obtain ⟨a10, l11, rfl, h11⟩ := cut1 h10
  clear h10
  obtain ⟨a11, l12, rfl, h12⟩ := cut1 h11
  clear h11
  obtain ⟨a12, l13, rfl, h13⟩ := cut1 h12
  clear h12
  obtain rfl := cut0 h13
  clear h13

  have hG : a6 = 2 := hG
  subst hG
  have e0 : sdq [a4, a5, a0, a1, a2, a3] * sdq [a4, a5, a0, a1, a7, a8] = edq [a0, a1, a2, a3, a4, a5] 2 a7 a8 := by
    show _ = sdq [a0, a1, a2, a3, a4, a5] * sdq [a4, a5, a0, a1, a7, a8]
    rw [sdq_rot2]
  have e1 : sdq [a4, a5, a0, a1, a2, a3] * sdq [a4, a5, a0, a1, a9, a10] = edq [a0, a1, a2, a3, a4, a5] 2 a9 a10 := by
    show _ = sdq [a0, a1, a2, a3, a4, a5] * sdq [a4, a5, a0, a1, a9, a10]
    rw [sdq_rot2]
  have e2 : sdq [a4, a5, a0, a1, a2, a3] * sdq [a4, a5, a0, a1, a11, a12] = edq [a0, a1, a2, a3, a4, a5] 2 a11 a12 := by
    show _ = sdq [a0, a1, a2, a3, a4, a5] * sdq [a4, a5, a0, a1, a11, a12]
    rw [sdq_rot2]
  simp only [R_gr3b_2, valOf, val1, den, Env.at, E, fi, List.getD_cons_zero, List.getD_cons_succ, tupleV, resV, valsI, List.take_succ_cons, List.take_zero, List.drop_succ_cons, List.drop_zero, Int.toNat_zero, ptsOf, mx, List.foldl_cons, List.foldl_nil]
  simp only [fi11, e0, e1, e2, edq_w, mxE]
  all_goals (first | rfl | (congr 2))

theorem c_gr3b_2 (W : World) : Flat Try.prog E W (fun l => l.getD 6 0 = 2) 122 [.g 6, .i, .s 43 3 6] fun l => tupleV (resV E 65 l [.i] 0 0) := flat_lit (fun l _ => cm2_ok W l trivial) (fun _ h => h) k_gr3b_2 v_gr3b_2

noncomputable def cm3 : Cx := ⟨cm2.ty, cm2.fn, [flatCon 122 [.g 6, .i, .s 44 3 6] [.i] 65 (litChk 6 0), flatCon 122 [.g 6, .i, .s 44 3 6] [.i] 65 (litChk 6 1), flatCon 122 [.g 6, .i, .s 44 3 6] [.i] 65 (litChk 6 2), flatCon 122 [.g 6, .i, .s 43 4 8] [.i] 65 (litChk 6 0), flatCon 122 [.g 6, .i, .s 43 4 8] [.i] 65 (litChk 6 1), flatCon 122 [.g 6, .i, .s 43 4 8] [.i] 65 (litChk 6 2), flatCon 122 [.g 6, .i, .s 43 3 6] [.i] 65 (litChk 6 0), flatCon 122 [.g 6, .i, .s 43 3 6] [.i] 65 (litChk 6 1), flatCon 122 [.g 6, .i, .s 43 3 6] [.i] 65 (litChk 6 2)] ++ cm2.con, cm2.inl, cm2.eqs⟩
theorem cm3_ok (W : World) : ∀ l, Any l → CxOk Try.prog (E.at l) W cm3 :=
  cx_more (cm2_ok W) (List.forall_mem_cons.2 ⟨flat_conL (c_gr3_0 W), List.forall_mem_cons.2 ⟨flat_conL (c_gr3_1 W), List.forall_mem_cons.2 ⟨flat_conL (c_gr3_2 W), List.forall_mem_cons.2 ⟨flat_conL (c_gr4b_0 W), List.forall_mem_cons.2 ⟨flat_conL (c_gr4b_1 W), List.forall_mem_cons.2 ⟨flat_conL (c_gr4b_2 W), List.forall_mem_cons.2 ⟨flat_conL (c_gr3b_0 W), List.forall_mem_cons.2 ⟨flat_conL (c_gr3b_1 W), List.forall_mem_cons.2 ⟨flat_conL (c_gr3b_2 W), (fun _ h => by cases h)⟩⟩⟩⟩⟩⟩⟩⟩⟩)
end Go.Proofs.Ytfpnkcmplmkghaa.Sx
