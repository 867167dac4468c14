/- Contracts, reckoned. -/
import Derived.Test.YtckjdjddfailiaaL9
import Derived.KernelRfl
set_option linter.unusedVariables false
set_option linter.unusedSimpArgs false
namespace Go.Proofs.Ytckjdjddfailiaa.Sx
open Go.RowKit

theorem hb1 (A B x y z : Int) : hitB B A (-x) (-y) (-z) = hitB A B x y z := by
  unfold hitB; rw [Bool.eq_iff_iff]; simp; omega
theorem hb2 (A B x y z : Int) : hitB A B y z x = hitB A B x y z := by
  unfold hitB; rw [Bool.eq_iff_iff]; simp; omega
theorem hb3 (A B x y z : Int) : hitB (-A) (-B) (-z) (-y) (-x) = hitB A B x y z := by
  unfold hitB; rw [Bool.eq_iff_iff]; simp; omega
theorem sgn_neg (x : Int) : sgn (-x) = -sgn x := by
  unfold sgn; (repeat' split) <;> omega

def R_HitTurns : AV := (.bool (.ite (.app 20 0 .nil) (.ite (.ite (.app 16 0 (.cons (.var 0) (.cons (.var 1) (.cons (.var 2) (.cons (.var 3) (.cons (.var 4) (.cons (.var 5) (.cons (.var 6) (.cons (.var 7) (.cons (.var 8) (.cons (.var 9) (.cons (.var 10) (.cons (.var 11) (.cons (.var 12) (.cons (.var 13) (.cons (.var 14) .nil)))))))))))))))) (.app 16 0 (.cons (.var 3) (.cons (.var 4) (.cons (.var 5) (.cons (.var 0) (.cons (.var 1) (.cons (.var 2) (.cons (.var 6) (.cons (.var 7) (.cons (.var 8) (.cons (.var 9) (.cons (.var 10) (.cons (.var 11) (.cons (.var 12) (.cons (.var 13) (.cons (.var 14) .nil)))))))))))))))) (.no (.app 16 0 (.cons (.var 3) (.cons (.var 4) (.cons (.var 5) (.cons (.var 0) (.cons (.var 1) (.cons (.var 2) (.cons (.var 6) (.cons (.var 7) (.cons (.var 8) (.cons (.var 9) (.cons (.var 10) (.cons (.var 11) (.cons (.var 12) (.cons (.var 13) (.cons (.var 14) .nil)))))))))))))))))) (.ite (.ite (.app 16 0 (.cons (.var 0) (.cons (.var 1) (.cons (.var 2) (.cons (.var 3) (.cons (.var 4) (.cons (.var 5) (.cons (.var 6) (.cons (.var 7) (.cons (.var 8) (.cons (.var 9) (.cons (.var 10) (.cons (.var 11) (.cons (.var 12) (.cons (.var 13) (.cons (.var 14) .nil)))))))))))))))) (.app 16 0 (.cons (.var 0) (.cons (.var 1) (.cons (.var 2) (.cons (.var 3) (.cons (.var 4) (.cons (.var 5) (.cons (.var 9) (.cons (.var 10) (.cons (.var 11) (.cons (.var 12) (.cons (.var 13) (.cons (.var 14) (.cons (.var 6) (.cons (.var 7) (.cons (.var 8) .nil)))))))))))))))) (.no (.app 16 0 (.cons (.var 0) (.cons (.var 1) (.cons (.var 2) (.cons (.var 3) (.cons (.var 4) (.cons (.var 5) (.cons (.var 9) (.cons (.var 10) (.cons (.var 11) (.cons (.var 12) (.cons (.var 13) (.cons (.var 14) (.cons (.var 6) (.cons (.var 7) (.cons (.var 8) .nil)))))))))))))))))) (.ite (.ite (.app 16 0 (.cons (.var 0) (.cons (.var 1) (.cons (.var 2) (.cons (.var 3) (.cons (.var 4) (.cons (.var 5) (.cons (.var 6) (.cons (.var 7) (.cons (.var 8) (.cons (.var 9) (.cons (.var 10) (.cons (.var 11) (.cons (.var 12) (.cons (.var 13) (.cons (.var 14) .nil)))))))))))))))) (.app 16 0 (.cons (.var 0) (.cons (.var 1) (.cons (.var 2) (.cons (.var 3) (.cons (.var 4) (.cons (.var 5) (.cons (.var 6) (.cons (.var 7) (.cons (.var 8) (.cons (.var 12) (.cons (.var 13) (.cons (.var 14) (.cons (.var 9) (.cons (.var 10) (.cons (.var 11) .nil)))))))))))))))) (.no (.app 16 0 (.cons (.var 0) (.cons (.var 1) (.cons (.var 2) (.cons (.var 3) (.cons (.var 4) (.cons (.var 5) (.cons (.var 6) (.cons (.var 7) (.cons (.var 8) (.cons (.var 12) (.cons (.var 13) (.cons (.var 14) (.cons (.var 9) (.cons (.var 10) (.cons (.var 11) .nil)))))))))))))))))) (.ite (.eq (.app 16 0 (.cons (.var 0) (.cons (.var 1) (.cons (.var 2) (.cons (.var 3) (.cons (.var 4) (.cons (.var 5) (.cons (.var 6) (.cons (.var 7) (.cons (.var 8) (.cons (.var 9) (.cons (.var 10) (.cons (.var 11) (.cons (.var 12) (.cons (.var 13) (.cons (.var 14) .nil)))))))))))))))) (.app 16 0 (.cons (.var 3) (.cons (.var 4) (.cons (.var 5) (.cons (.var 0) (.cons (.var 1) (.cons (.var 2) (.cons (.var 6) (.cons (.var 7) (.cons (.var 8) (.cons (.var 9) (.cons (.var 10) (.cons (.var 11) (.cons (.var 12) (.cons (.var 13) (.cons (.var 14) .nil))))))))))))))))) (.ite (.eq (.app 16 0 (.cons (.var 0) (.cons (.var 1) (.cons (.var 2) (.cons (.var 3) (.cons (.var 4) (.cons (.var 5) (.cons (.var 6) (.cons (.var 7) (.cons (.var 8) (.cons (.var 9) (.cons (.var 10) (.cons (.var 11) (.cons (.var 12) (.cons (.var 13) (.cons (.var 14) .nil)))))))))))))))) (.app 16 0 (.cons (.var 0) (.cons (.var 1) (.cons (.var 2) (.cons (.var 3) (.cons (.var 4) (.cons (.var 5) (.cons (.var 9) (.cons (.var 10) (.cons (.var 11) (.cons (.var 12) (.cons (.var 13) (.cons (.var 14) (.cons (.var 6) (.cons (.var 7) (.cons (.var 8) .nil))))))))))))))))) (.ite (.eq (.app 16 0 (.cons (.var 0) (.cons (.var 1) (.cons (.var 2) (.cons (.var 3) (.cons (.var 4) (.cons (.var 5) (.cons (.var 6) (.cons (.var 7) (.cons (.var 8) (.cons (.var 9) (.cons (.var 10) (.cons (.var 11) (.cons (.var 12) (.cons (.var 13) (.cons (.var 14) .nil)))))))))))))))) (.app 16 0 (.cons (.var 0) (.cons (.var 1) (.cons (.var 2) (.cons (.var 3) (.cons (.var 4) (.cons (.var 5) (.cons (.var 6) (.cons (.var 7) (.cons (.var 8) (.cons (.var 12) (.cons (.var 13) (.cons (.var 14) (.cons (.var 9) (.cons (.var 10) (.cons (.var 11) .nil))))))))))))))))) (.ite (.eq (.app 15 1 (.cons (.var 0) (.cons (.var 1) (.cons (.var 2) (.cons (.var 6) (.cons (.var 7) (.cons (.var 8) (.cons (.var 9) (.cons (.var 10) (.cons (.var 11) (.cons (.var 12) (.cons (.var 13) (.cons (.var 14) .nil))))))))))))) (.app 15 1 (.cons (.var 0) (.cons (.var 1) (.cons (.var 2) (.cons (.var 9) (.cons (.var 10) (.cons (.var 11) (.cons (.var 6) (.cons (.var 7) (.cons (.var 8) (.cons (.var 12) (.cons (.var 13) (.cons (.var 14) .nil)))))))))))))) (.eq (.add (.app 15 0 (.cons (.var 0) (.cons (.var 1) (.cons (.var 2) (.cons (.var 6) (.cons (.var 7) (.cons (.var 8) (.cons (.var 9) (.cons (.var 10) (.cons (.var 11) (.cons (.var 12) (.cons (.var 13) (.cons (.var 14) .nil))))))))))))) (.app 15 0 (.cons (.var 0) (.cons (.var 1) (.cons (.var 2) (.cons (.var 9) (.cons (.var 10) (.cons (.var 11) (.cons (.var 6) (.cons (.var 7) (.cons (.var 8) (.cons (.var 12) (.cons (.var 13) (.cons (.var 14) .nil)))))))))))))) (.lit 0)) (.blit false)) (.blit false)) (.blit false)) (.blit false)) (.blit false)) (.blit false)) (.blit false)) (.blit false)))
theorem k_HitTurns : acall cx9 20 false 4 [] (argsG [.g 3, .g 3, .g 9] 0 0) (heapG [.g 3, .g 3, .g 9] 0) = .leaf (R_HitTurns, heapG [.g 3, .g 3, .g 9] 0) := by kernel_rfl
set_option maxRecDepth 20000 in
theorem v_HitTurns : ∀ l : List Int, l.length = lenSh [.g 3, .g 3, .g 9] → valOf (E.at l) R_HitTurns = some (tupleV (resV E 20 l [.b] 0 0)) := by
  intro l hl
  have h0 : l.length = 15 := hl
  clear hl
  obtain ⟨a0, l1, rfl, h1⟩ := cut1 h0
  clear h0
  obtain ⟨a1, l2, rfl, h2⟩ := cut1 h1
  clear h1
  obtain ⟨a2, l3, rfl, h3⟩ := cut1 h2
  clear h2
  obtain ⟨a3, l4, rfl, h4⟩ := cut1 h3
  clear h3
  obtain ⟨a4, l5, rfl, h5⟩ := cut1 h4
  clear h4
  obtain ⟨a5, l6, rfl, h6⟩ := cut1 h5
  clear h5
  obtain ⟨a6, l7, rfl, h7⟩ := cut1 h6
  clear h6
  obtain ⟨a7, l8, rfl, h8⟩ := cut1 h7
  clear h7
  obtain ⟨a8, l9, rfl, h9⟩ := cut1 h8
  clear h8
  obtain ⟨a9, l10, rfl, h10⟩ := cut1 h9
  clear h9
  obtain ⟨a10, l11, rfl, h11⟩ := cut1 h10
  clear h10
  obtain ⟨a11, l12, rfl, h12⟩ := cut1 h11
  clear h11
  obtain ⟨a12, l13, rfl, h13⟩ := cut1 h12
  clear h12
  obtain ⟨a13, l14, rfl, h14⟩ := cut1 h13
  clear h13
  obtain ⟨a14, l15, rfl, h15⟩ := cut1 h14
  clear h14
  obtain rfl := cut0 h15
  clear h15
  have f0 : volV [a3, a4, a5, a0, a1, a2, a6, a7, a8, a9, a10, a11] = -volV [a0, a1, a2, a3, a4, a5, a6, a7, a8, a9, a10, a11] := by
    simp only [areaV, nx, ny, nz, volV, cr2, List.getD_cons_zero, List.getD_cons_succ]
    grind
  have f1 : volV [a3, a4, a5, a0, a1, a2, a9, a10, a11, a12, a13, a14] = -volV [a0, a1, a2, a3, a4, a5, a9, a10, a11, a12, a13, a14] := by
    simp only [areaV, nx, ny, nz, volV, cr2, List.getD_cons_zero, List.getD_cons_succ]
    grind
  have f2 : volV [a3, a4, a5, a0, a1, a2, a12, a13, a14, a6, a7, a8] = -volV [a0, a1, a2, a3, a4, a5, a12, a13, a14, a6, a7, a8] := by
    simp only [areaV, nx, ny, nz, volV, cr2, List.getD_cons_zero, List.getD_cons_succ]
    grind
  have f3 : volV [a9, a10, a11, a12, a13, a14, a6, a7, a8, a0, a1, a2] = volV [a6, a7, a8, a9, a10, a11, a12, a13, a14, a0, a1, a2] := by
    simp only [areaV, nx, ny, nz, volV, cr2, List.getD_cons_zero, List.getD_cons_succ]
    grind
  have f4 : volV [a9, a10, a11, a12, a13, a14, a6, a7, a8, a3, a4, a5] = volV [a6, a7, a8, a9, a10, a11, a12, a13, a14, a3, a4, a5] := by
    simp only [areaV, nx, ny, nz, volV, cr2, List.getD_cons_zero, List.getD_cons_succ]
    grind
  have f5 : volV [a6, a7, a8, a12, a13, a14, a9, a10, a11, a0, a1, a2] = -volV [a6, a7, a8, a9, a10, a11, a12, a13, a14, a0, a1, a2] := by
    simp only [areaV, nx, ny, nz, volV, cr2, List.getD_cons_zero, List.getD_cons_succ]
    grind
  have f6 : volV [a6, a7, a8, a12, a13, a14, a9, a10, a11, a3, a4, a5] = -volV [a6, a7, a8, a9, a10, a11, a12, a13, a14, a3, a4, a5] := by
    simp only [areaV, nx, ny, nz, volV, cr2, List.getD_cons_zero, List.getD_cons_succ]
    grind
  have f7 : volV [a0, a1, a2, a3, a4, a5, a6, a7, a8, a12, a13, a14] = -volV [a0, a1, a2, a3, a4, a5, a12, a13, a14, a6, a7, a8] := by
    simp only [areaV, nx, ny, nz, volV, cr2, List.getD_cons_zero, List.getD_cons_succ]
    grind
  have f8 : volV [a0, a1, a2, a3, a4, a5, a12, a13, a14, a9, a10, a11] = -volV [a0, a1, a2, a3, a4, a5, a9, a10, a11, a12, a13, a14] := by
    simp only [areaV, nx, ny, nz, volV, cr2, List.getD_cons_zero, List.getD_cons_succ]
    grind
  have f9 : volV [a0, a1, a2, a3, a4, a5, a9, a10, a11, a6, a7, a8] = -volV [a0, a1, a2, a3, a4, a5, a6, a7, a8, a9, a10, a11] := by
    simp only [areaV, nx, ny, nz, volV, cr2, List.getD_cons_zero, List.getD_cons_succ]
    grind
  have f10 : volV [a9, a10, a11, a6, a7, a8, a12, a13, a14, a0, a1, a2] = -volV [a6, a7, a8, a9, a10, a11, a12, a13, a14, a0, a1, a2] := by
    simp only [areaV, nx, ny, nz, volV, cr2, List.getD_cons_zero, List.getD_cons_succ]
    grind
  have u1 : (ss a3 && (ss a4 && (ss a5 && (ss a0 && (ss a1 && (ss a2 && (ss a6 && (ss a7 && (ss a8 && (ss a9 && (ss a10 && (ss a11 && (ss a12 && (ss a13 && (ss a14))))))))))))))) = (ss a0 && (ss a1 && (ss a2 && (ss a3 && (ss a4 && (ss a5 && (ss a6 && (ss a7 && (ss a8 && (ss a9 && (ss a10 && (ss a11 && (ss a12 && (ss a13 && (ss a14))))))))))))))) := by ac_rfl
  have u2 : (ss a0 && (ss a1 && (ss a2 && (ss a3 && (ss a4 && (ss a5 && (ss a9 && (ss a10 && (ss a11 && (ss a12 && (ss a13 && (ss a14 && (ss a6 && (ss a7 && (ss a8))))))))))))))) = (ss a0 && (ss a1 && (ss a2 && (ss a3 && (ss a4 && (ss a5 && (ss a6 && (ss a7 && (ss a8 && (ss a9 && (ss a10 && (ss a11 && (ss a12 && (ss a13 && (ss a14))))))))))))))) := by ac_rfl
  have u3 : (ss a0 && (ss a1 && (ss a2 && (ss a3 && (ss a4 && (ss a5 && (ss a6 && (ss a7 && (ss a8 && (ss a12 && (ss a13 && (ss a14 && (ss a9 && (ss a10 && (ss a11))))))))))))))) = (ss a0 && (ss a1 && (ss a2 && (ss a3 && (ss a4 && (ss a5 && (ss a6 && (ss a7 && (ss a8 && (ss a9 && (ss a10 && (ss a11 && (ss a12 && (ss a13 && (ss a14))))))))))))))) := by ac_rfl
  have u4 : (ss a0 && (ss a1 && (ss a2 && (ss a9 && (ss a10 && (ss a11 && (ss a6 && (ss a7 && (ss a8 && (ss a12 && (ss a13 && (ss a14)))))))))))) = (ss a0 && (ss a1 && (ss a2 && (ss a6 && (ss a7 && (ss a8 && (ss a9 && (ss a10 && (ss a11 && (ss a12 && (ss a13 && (ss a14)))))))))))) := by ac_rfl
  simp only [R_HitTurns, valOf, val1, tupleV, resV, den, Env.at, E, fb, fi, List.getD_cons_zero, List.getD_cons_succ, List.all_cons, List.all_nil, Bool.and_true, bt1, bt2, bt3, bt4, if_true, sdV, vA, vB, r0, r1, r2]
  rw [u1, u2, u3, u4, f0, f1, f2, f3, f4, f5, f6, f7, f8, f9, f10]
  generalize (ss a0 && (ss a1 && (ss a2 && (ss a3 && (ss a4 && (ss a5 && (ss a6 && (ss a7 && (ss a8 && (ss a9 && (ss a10 && (ss a11 && (ss a12 && (ss a13 && (ss a14))))))))))))))) = c, (ss a0 && (ss a1 && (ss a2 && (ss a6 && (ss a7 && (ss a8 && (ss a9 && (ss a10 && (ss a11 && (ss a12 && (ss a13 && (ss a14)))))))))))) = d, volV [a6, a7, a8, a9, a10, a11, a12, a13, a14, a0, a1, a2] = A, volV [a6, a7, a8, a9, a10, a11, a12, a13, a14, a3, a4, a5] = B, volV [a0, a1, a2, a3, a4, a5, a6, a7, a8, a9, a10, a11] = x, volV [a0, a1, a2, a3, a4, a5, a9, a10, a11, a12, a13, a14] = y, volV [a0, a1, a2, a3, a4, a5, a12, a13, a14, a6, a7, a8] = z
  rw [hb1 A B x y z, hb2 A B x y z, hb3 A B x y z, sgn_neg]
  have w0 : IntKind.i64.wrap 0 = 0 := by decide
  cases c <;> cases d <;> simp [Int.add_right_neg, w0]

theorem c_HitTurns (W : World) : Flat Try.prog E W 4 [.g 3, .g 3, .g 9] fun l => tupleV (resV E 20 l [.b] 0 0) := flat_val (cx9_ok W) k_HitTurns v_HitTurns

end Go.Proofs.Ytckjdjddfailiaa.Sx
