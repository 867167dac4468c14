/- Contracts, reckoned. -/
import Derived.Test.YtjnnonhapjdjoaaL6
import Derived.KernelRfl
set_option linter.unusedVariables false
set_option linter.unusedSimpArgs false
namespace Go.Proofs.Ytjnnonhapjdjoaa.Sx
open Go.RowKit

theorem cr2_c {a b c d : Int} (ha : -8192 ≤ a ∧ a ≤ 8192) (hb : -8192 ≤ b ∧ b ≤ 8192) (hc : -8192 ≤ c ∧ c ≤ 8192) (hd : -8192 ≤ d ∧ d ≤ 8192) : -134217728 ≤ cr2 a b c d ∧ cr2 a b c d ≤ 134217728 := by
  have h1 := mul_bd (M := 8192) (N := 8192) 67108864 (by decide) ha hd
  have h2 := mul_bd (M := 8192) (N := 8192) 67108864 (by decide) hb hc
  unfold cr2; omega
theorem areaV_b {a b c d e f : Int} (ha : -4096 ≤ a ∧ a ≤ 4096) (hb : -4096 ≤ b ∧ b ≤ 4096) (hc : -4096 ≤ c ∧ c ≤ 4096) (hd : -4096 ≤ d ∧ d ≤ 4096) (he : -4096 ≤ e ∧ e ≤ 4096) (hf : -4096 ≤ f ∧ f ≤ 4096) :
    -134217728 ≤ areaV [a, b, c, d, e, f] ∧ areaV [a, b, c, d, e, f] ≤ 134217728 := by
  simp only [areaV, List.getD_cons_zero, List.getD_cons_succ]
  exact cr2_c (by omega) (by omega) (by omega) (by omega)

def R_SignTurns : AV := (.bool (.ite (.ite (.eq (.app 10 1 (.cons (.var 0) (.cons (.var 1) (.cons (.var 2) (.cons (.var 3) (.cons (.var 4) (.cons (.var 5) .nil))))))) (.app 10 1 (.cons (.var 2) (.cons (.var 3) (.cons (.var 4) (.cons (.var 5) (.cons (.var 0) (.cons (.var 1) .nil)))))))) (.ite (.eq (.app 10 1 (.cons (.var 0) (.cons (.var 1) (.cons (.var 2) (.cons (.var 3) (.cons (.var 4) (.cons (.var 5) .nil))))))) (.app 10 1 (.cons (.var 2) (.cons (.var 3) (.cons (.var 0) (.cons (.var 1) (.cons (.var 4) (.cons (.var 5) .nil)))))))) (.ite (.eq (.app 10 0 (.cons (.var 0) (.cons (.var 1) (.cons (.var 2) (.cons (.var 3) (.cons (.var 4) (.cons (.var 5) .nil))))))) (.app 10 0 (.cons (.var 2) (.cons (.var 3) (.cons (.var 4) (.cons (.var 5) (.cons (.var 0) (.cons (.var 1) .nil)))))))) (.no (.eq (.add (.app 10 0 (.cons (.var 0) (.cons (.var 1) (.cons (.var 2) (.cons (.var 3) (.cons (.var 4) (.cons (.var 5) .nil))))))) (.app 10 0 (.cons (.var 2) (.cons (.var 3) (.cons (.var 0) (.cons (.var 1) (.cons (.var 4) (.cons (.var 5) .nil)))))))) (.lit 0))) (.blit true)) (.blit true)) (.blit true)) (.blit false) (.ite (.app 20 0 .nil) (.ite (.eq (.app 12 3 (.cons (.var 6) (.cons (.var 7) (.cons (.var 8) (.cons (.var 9) (.cons (.var 10) (.cons (.var 11) (.cons (.var 12) (.cons (.var 13) (.cons (.var 14) .nil)))))))))) (.app 12 3 (.cons (.var 9) (.cons (.var 10) (.cons (.var 11) (.cons (.var 12) (.cons (.var 13) (.cons (.var 14) (.cons (.var 6) (.cons (.var 7) (.cons (.var 8) .nil))))))))))) (.ite (.eq (.app 12 3 (.cons (.var 6) (.cons (.var 7) (.cons (.var 8) (.cons (.var 9) (.cons (.var 10) (.cons (.var 11) (.cons (.var 12) (.cons (.var 13) (.cons (.var 14) .nil)))))))))) (.app 12 3 (.cons (.var 9) (.cons (.var 10) (.cons (.var 11) (.cons (.var 6) (.cons (.var 7) (.cons (.var 8) (.cons (.var 12) (.cons (.var 13) (.cons (.var 14) .nil))))))))))) (.ite (.ite (.eq (.app 12 0 (.cons (.var 6) (.cons (.var 7) (.cons (.var 8) (.cons (.var 9) (.cons (.var 10) (.cons (.var 11) (.cons (.var 12) (.cons (.var 13) (.cons (.var 14) .nil)))))))))) (.app 12 0 (.cons (.var 9) (.cons (.var 10) (.cons (.var 11) (.cons (.var 12) (.cons (.var 13) (.cons (.var 14) (.cons (.var 6) (.cons (.var 7) (.cons (.var 8) .nil))))))))))) (.ite (.eq (.app 12 1 (.cons (.var 6) (.cons (.var 7) (.cons (.var 8) (.cons (.var 9) (.cons (.var 10) (.cons (.var 11) (.cons (.var 12) (.cons (.var 13) (.cons (.var 14) .nil)))))))))) (.app 12 1 (.cons (.var 9) (.cons (.var 10) (.cons (.var 11) (.cons (.var 12) (.cons (.var 13) (.cons (.var 14) (.cons (.var 6) (.cons (.var 7) (.cons (.var 8) .nil))))))))))) (.eq (.app 12 2 (.cons (.var 6) (.cons (.var 7) (.cons (.var 8) (.cons (.var 9) (.cons (.var 10) (.cons (.var 11) (.cons (.var 12) (.cons (.var 13) (.cons (.var 14) .nil)))))))))) (.app 12 2 (.cons (.var 9) (.cons (.var 10) (.cons (.var 11) (.cons (.var 12) (.cons (.var 13) (.cons (.var 14) (.cons (.var 6) (.cons (.var 7) (.cons (.var 8) .nil))))))))))) (.blit false)) (.blit false)) (.ite (.eq (.add (.app 12 0 (.cons (.var 6) (.cons (.var 7) (.cons (.var 8) (.cons (.var 9) (.cons (.var 10) (.cons (.var 11) (.cons (.var 12) (.cons (.var 13) (.cons (.var 14) .nil)))))))))) (.app 12 0 (.cons (.var 9) (.cons (.var 10) (.cons (.var 11) (.cons (.var 6) (.cons (.var 7) (.cons (.var 8) (.cons (.var 12) (.cons (.var 13) (.cons (.var 14) .nil))))))))))) (.lit 0)) (.ite (.eq (.add (.app 12 1 (.cons (.var 6) (.cons (.var 7) (.cons (.var 8) (.cons (.var 9) (.cons (.var 10) (.cons (.var 11) (.cons (.var 12) (.cons (.var 13) (.cons (.var 14) .nil)))))))))) (.app 12 1 (.cons (.var 9) (.cons (.var 10) (.cons (.var 11) (.cons (.var 6) (.cons (.var 7) (.cons (.var 8) (.cons (.var 12) (.cons (.var 13) (.cons (.var 14) .nil))))))))))) (.lit 0)) (.eq (.add (.app 12 2 (.cons (.var 6) (.cons (.var 7) (.cons (.var 8) (.cons (.var 9) (.cons (.var 10) (.cons (.var 11) (.cons (.var 12) (.cons (.var 13) (.cons (.var 14) .nil)))))))))) (.app 12 2 (.cons (.var 9) (.cons (.var 10) (.cons (.var 11) (.cons (.var 6) (.cons (.var 7) (.cons (.var 8) (.cons (.var 12) (.cons (.var 13) (.cons (.var 14) .nil))))))))))) (.lit 0)) (.blit false)) (.blit false)) (.blit false)) (.blit false)) (.blit false)) (.blit false))))
theorem k_SignTurns : acall cx6 20 false 9 [] (argsG [.g 2, .g 2, .g 2, .g 3, .g 3, .g 3] 0 0) (heapG [.g 2, .g 2, .g 2, .g 3, .g 3, .g 3] 0) = .leaf (R_SignTurns, heapG [.g 2, .g 2, .g 2, .g 3, .g 3, .g 3] 0) := by kernel_rfl
set_option maxRecDepth 20000 in
theorem v_SignTurns : ∀ l : List Int, l.length = lenSh [.g 2, .g 2, .g 2, .g 3, .g 3, .g 3] → valOf (E.at l) R_SignTurns = some (tupleV (resV E 20 l [.b] 0 0)) := by
  intro l hl
  have h0 : l.length = 15 := hl
  clear hl
  obtain ⟨a0, l1, rfl, h1⟩ := cut1 h0
  clear h0
  obtain ⟨a1, l2, rfl, h2⟩ := cut1 h1
  clear h1
  obtain ⟨a2, l3, rfl, h3⟩ := cut1 h2
  clear h2
  obtain ⟨a3, l4, rfl, h4⟩ := cut1 h3
  clear h3
  obtain ⟨a4, l5, rfl, h5⟩ := cut1 h4
  clear h4
  obtain ⟨a5, l6, rfl, h6⟩ := cut1 h5
  clear h5
  obtain ⟨a6, l7, rfl, h7⟩ := cut1 h6
  clear h6
  obtain ⟨a7, l8, rfl, h8⟩ := cut1 h7
  clear h7
  obtain ⟨a8, l9, rfl, h9⟩ := cut1 h8
  clear h8
  obtain ⟨a9, l10, rfl, h10⟩ := cut1 h9
  clear h9
  obtain ⟨a10, l11, rfl, h11⟩ := cut1 h10
  clear h10
  obtain ⟨a11, l12, rfl, h12⟩ := cut1 h11
  clear h11
  obtain ⟨a12, l13, rfl, h13⟩ := cut1 h12
  clear h12
  obtain ⟨a13, l14, rfl, h14⟩ := cut1 h13
  clear h13
  obtain ⟨a14, l15, rfl, h15⟩ := cut1 h14
  clear h14
  obtain rfl := cut0 h15
  clear h15
  have x1 : areaV [a2, a3, a4, a5, a0, a1] = areaV [a0, a1, a2, a3, a4, a5] := by
    simp only [areaV, nx, ny, nz, volV, cr2, List.getD_cons_zero, List.getD_cons_succ]
    grind
  have x2 : areaV [a2, a3, a0, a1, a4, a5] = -areaV [a0, a1, a2, a3, a4, a5] := by
    simp only [areaV, nx, ny, nz, volV, cr2, List.getD_cons_zero, List.getD_cons_succ]
    grind
  have nx1 : nx [a9, a10, a11, a12, a13, a14, a6, a7, a8] = nx [a6, a7, a8, a9, a10, a11, a12, a13, a14] := by
    simp only [areaV, nx, ny, nz, volV, cr2, List.getD_cons_zero, List.getD_cons_succ]
    grind
  have nx2 : nx [a9, a10, a11, a6, a7, a8, a12, a13, a14] = -nx [a6, a7, a8, a9, a10, a11, a12, a13, a14] := by
    simp only [areaV, nx, ny, nz, volV, cr2, List.getD_cons_zero, List.getD_cons_succ]
    grind
  have ny1 : ny [a9, a10, a11, a12, a13, a14, a6, a7, a8] = ny [a6, a7, a8, a9, a10, a11, a12, a13, a14] := by
    simp only [areaV, nx, ny, nz, volV, cr2, List.getD_cons_zero, List.getD_cons_succ]
    grind
  have ny2 : ny [a9, a10, a11, a6, a7, a8, a12, a13, a14] = -ny [a6, a7, a8, a9, a10, a11, a12, a13, a14] := by
    simp only [areaV, nx, ny, nz, volV, cr2, List.getD_cons_zero, List.getD_cons_succ]
    grind
  have nz1 : nz [a9, a10, a11, a12, a13, a14, a6, a7, a8] = nz [a6, a7, a8, a9, a10, a11, a12, a13, a14] := by
    simp only [areaV, nx, ny, nz, volV, cr2, List.getD_cons_zero, List.getD_cons_succ]
    grind
  have nz2 : nz [a9, a10, a11, a6, a7, a8, a12, a13, a14] = -nz [a6, a7, a8, a9, a10, a11, a12, a13, a14] := by
    simp only [areaV, nx, ny, nz, volV, cr2, List.getD_cons_zero, List.getD_cons_succ]
    grind
  have u1 : (us a2 && (us a3 && (us a4 && (us a5 && (us a0 && (us a1)))))) = (us a0 && (us a1 && (us a2 && (us a3 && (us a4 && (us a5)))))) := by ac_rfl
  have u2 : (us a2 && (us a3 && (us a0 && (us a1 && (us a4 && (us a5)))))) = (us a0 && (us a1 && (us a2 && (us a3 && (us a4 && (us a5)))))) := by ac_rfl
  have s1 : (ss a9 && (ss a10 && (ss a11 && (ss a12 && (ss a13 && (ss a14 && (ss a6 && (ss a7 && (ss a8))))))))) = (ss a6 && (ss a7 && (ss a8 && (ss a9 && (ss a10 && (ss a11 && (ss a12 && (ss a13 && (ss a14))))))))) := by ac_rfl
  have s2 : (ss a9 && (ss a10 && (ss a11 && (ss a6 && (ss a7 && (ss a8 && (ss a12 && (ss a13 && (ss a14))))))))) = (ss a6 && (ss a7 && (ss a8 && (ss a9 && (ss a10 && (ss a11 && (ss a12 && (ss a13 && (ss a14))))))))) := by ac_rfl
  simp only [R_SignTurns, valOf, val1, tupleV, resV, den, Env.at, E, fb, fi, List.getD_cons_zero, List.getD_cons_succ, List.all_cons, List.all_nil, Bool.and_true, bt1, bt2, bt3, bt4, if_true]
  rw [u1, u2, s1, s2, x1, x2, nx1, nx2, ny1, ny2, nz1, nz2]
  generalize (us a0 && (us a1 && (us a2 && (us a3 && (us a4 && (us a5)))))) = c1, (ss a6 && (ss a7 && (ss a8 && (ss a9 && (ss a10 && (ss a11 && (ss a12 && (ss a13 && (ss a14))))))))) = c2, areaV [a0, a1, a2, a3, a4, a5] = A, nx [a6, a7, a8, a9, a10, a11, a12, a13, a14] = X, ny [a6, a7, a8, a9, a10, a11, a12, a13, a14] = Y, nz [a6, a7, a8, a9, a10, a11, a12, a13, a14] = Z
  have z0 : IntKind.i64.wrap 0 = 0 := by decide
  cases c1 <;> cases c2 <;> simp [Int.add_right_neg, z0]

theorem c_SignTurns (W : World) : Flat Try.prog E W 9 [.g 2, .g 2, .g 2, .g 3, .g 3, .g 3] fun l => tupleV (resV E 20 l [.b] 0 0) := flat_val (cx6_ok W) k_SignTurns v_SignTurns

def R_SignParts : AV := (.bool (.ite (.ite (.eq (.app 10 1 (.cons (.var 0) (.cons (.var 1) (.cons (.var 2) (.cons (.var 3) (.cons (.var 4) (.cons (.var 5) .nil))))))) (.lit 0)) (.ite (.eq (.app 10 1 (.cons (.var 0) (.cons (.var 1) (.cons (.var 2) (.cons (.var 3) (.cons (.var 6) (.cons (.var 7) .nil))))))) (.lit 0)) (.ite (.eq (.app 10 1 (.cons (.var 2) (.cons (.var 3) (.cons (.var 4) (.cons (.var 5) (.cons (.var 6) (.cons (.var 7) .nil))))))) (.lit 0)) (.no (.eq (.app 10 1 (.cons (.var 4) (.cons (.var 5) (.cons (.var 0) (.cons (.var 1) (.cons (.var 6) (.cons (.var 7) .nil))))))) (.lit 0))) (.blit true)) (.blit true)) (.blit true)) (.ite (.app 20 0 .nil) (.no (.app 1 0 (.cons (.var 0) (.cons (.var 1) (.cons (.var 2) (.cons (.var 3) (.cons (.var 4) (.cons (.var 5) (.cons (.var 6) (.cons (.var 7) .nil)))))))))) (.blit false)) (.ite (.app 20 0 .nil) (.eq (.app 10 0 (.cons (.var 0) (.cons (.var 1) (.cons (.var 2) (.cons (.var 3) (.cons (.var 4) (.cons (.var 5) .nil))))))) (.add (.add (.app 10 0 (.cons (.var 0) (.cons (.var 1) (.cons (.var 2) (.cons (.var 3) (.cons (.var 6) (.cons (.var 7) .nil))))))) (.app 10 0 (.cons (.var 2) (.cons (.var 3) (.cons (.var 4) (.cons (.var 5) (.cons (.var 6) (.cons (.var 7) .nil)))))))) (.app 10 0 (.cons (.var 4) (.cons (.var 5) (.cons (.var 0) (.cons (.var 1) (.cons (.var 6) (.cons (.var 7) .nil))))))))) (.blit false))))
theorem k_SignParts : acall cx6 20 false 10 [] (argsG [.g 2, .g 2, .g 2, .g 2] 0 0) (heapG [.g 2, .g 2, .g 2, .g 2] 0) = .leaf (R_SignParts, heapG [.g 2, .g 2, .g 2, .g 2] 0) := by kernel_rfl
set_option maxRecDepth 20000 in
theorem v_SignParts : ∀ l : List Int, l.length = lenSh [.g 2, .g 2, .g 2, .g 2] → valOf (E.at l) R_SignParts = some (tupleV (resV E 20 l [.b] 0 0)) := by
  intro l hl
  have h0 : l.length = 8 := hl
  clear hl
  obtain ⟨a0, l1, rfl, h1⟩ := cut1 h0
  clear h0
  obtain ⟨a1, l2, rfl, h2⟩ := cut1 h1
  clear h1
  obtain ⟨a2, l3, rfl, h3⟩ := cut1 h2
  clear h2
  obtain ⟨a3, l4, rfl, h4⟩ := cut1 h3
  clear h3
  obtain ⟨a4, l5, rfl, h5⟩ := cut1 h4
  clear h4
  obtain ⟨a5, l6, rfl, h6⟩ := cut1 h5
  clear h5
  obtain ⟨a6, l7, rfl, h7⟩ := cut1 h6
  clear h6
  obtain ⟨a7, l8, rfl, h8⟩ := cut1 h7
  clear h7
  obtain rfl := cut0 h8
  clear h8
  have x1 : areaV [a0, a1, a2, a3, a4, a5] = areaV [a0, a1, a2, a3, a6, a7] + areaV [a2, a3, a4, a5, a6, a7] + areaV [a4, a5, a0, a1, a6, a7] := by
    simp only [areaV, nx, ny, nz, volV, cr2, List.getD_cons_zero, List.getD_cons_succ]
    grind
  simp only [R_SignParts, valOf, val1, tupleV, resV, den, Env.at, E, fb, fi, List.getD_cons_zero, List.getD_cons_succ, List.all_cons, List.all_nil, Bool.and_true, bt1, bt2, bt3, bt4, if_true]
  cases h0 : us a0
  · simp
  cases h1 : us a1
  · simp
  cases h2 : us a2
  · simp
  cases h3 : us a3
  · simp
  cases h4 : us a4
  · simp
  cases h5 : us a5
  · simp
  cases h6 : us a6
  · simp
  cases h7 : us a7
  · simp
  have c0 := us_b h0
  have c1 := us_b h1
  have c2 := us_b h2
  have c3 := us_b h3
  have c4 := us_b h4
  have c5 := us_b h5
  have c6 := us_b h6
  have c7 := us_b h7
  have b0 : _ := areaV_b c0 c1 c2 c3 c6 c7
  have b1 : _ := areaV_b c2 c3 c4 c5 c6 c7
  have b2 : _ := areaV_b c4 c5 c0 c1 c6 c7
  rw [x1]
  generalize areaV [a0, a1, a2, a3, a6, a7] = A, areaV [a2, a3, a4, a5, a6, a7] = B, areaV [a4, a5, a0, a1, a6, a7] = C at *
  simp (disch := omega) [wr]

theorem c_SignParts (W : World) : Flat Try.prog E W 10 [.g 2, .g 2, .g 2, .g 2] fun l => tupleV (resV E 20 l [.b] 0 0) := flat_val (cx6_ok W) k_SignParts v_SignParts

def R_SignDoes : AV := (.bool (.ite (.app 20 0 .nil) (.ite (.ite (.app 1 0 (.cons (.var 0) (.cons (.var 1) (.cons (.var 2) (.cons (.var 3) .nil))))) (.app 1 0 (.cons (.var 0) (.cons (.var 1) (.cons (.var 2) (.cons (.var 3) .nil))))) (.no (.app 1 0 (.cons (.var 0) (.cons (.var 1) (.cons (.var 2) (.cons (.var 3) .nil))))))) (.ite (.app 2 0 (.cons (.var 6) (.cons (.var 7) (.cons (.var 8) (.cons (.var 9) (.cons (.var 10) (.cons (.var 11) .nil))))))) (.app 2 0 (.cons (.var 6) (.cons (.var 7) (.cons (.var 8) (.cons (.var 9) (.cons (.var 10) (.cons (.var 11) .nil))))))) (.no (.app 2 0 (.cons (.var 6) (.cons (.var 7) (.cons (.var 8) (.cons (.var 9) (.cons (.var 10) (.cons (.var 11) .nil))))))))) (.blit false)) (.blit false)))
theorem k_SignDoes : acall cx6 20 false 8 [] (argsG [.g 2, .g 2, .g 2, .g 3, .g 3, .g 3, .g 3] 0 0) (heapG [.g 2, .g 2, .g 2, .g 3, .g 3, .g 3, .g 3] 0) = .leaf (R_SignDoes, heapG [.g 2, .g 2, .g 2, .g 3, .g 3, .g 3, .g 3] 0) := by kernel_rfl
set_option maxRecDepth 20000 in
theorem v_SignDoes : ∀ l : List Int, l.length = lenSh [.g 2, .g 2, .g 2, .g 3, .g 3, .g 3, .g 3] → valOf (E.at l) R_SignDoes = some (tupleV (resV E 20 l [.b] 0 0)) := by
  intro l hl
  have h0 : l.length = 18 := hl
  clear hl
  obtain ⟨a0, l1, rfl, h1⟩ := cut1 h0
  clear h0
  obtain ⟨a1, l2, rfl, h2⟩ := cut1 h1
  clear h1
  obtain ⟨a2, l3, rfl, h3⟩ := cut1 h2
  clear h2
  obtain ⟨a3, l4, rfl, h4⟩ := cut1 h3
  clear h3
  obtain ⟨a4, l5, rfl, h5⟩ := cut1 h4
  clear h4
  obtain ⟨a5, l6, rfl, h6⟩ := cut1 h5
  clear h5
  obtain ⟨a6, l7, rfl, h7⟩ := cut1 h6
  clear h6
  obtain ⟨a7, l8, rfl, h8⟩ := cut1 h7
  clear h7
  obtain ⟨a8, l9, rfl, h9⟩ := cut1 h8
  clear h8
  obtain ⟨a9, l10, rfl, h10⟩ := cut1 h9
  clear h9
  obtain ⟨a10, l11, rfl, h11⟩ := cut1 h10
  clear h10
  obtain ⟨a11, l12, rfl, h12⟩ := cut1 h11
  clear h11
  obtain ⟨a12, l13, rfl, h13⟩ := cut1 h12
  clear h12
  obtain ⟨a13, l14, rfl, h14⟩ := cut1 h13
  clear h13
  obtain ⟨a14, l15, rfl, h15⟩ := cut1 h14
  clear h14
  obtain ⟨a15, l16, rfl, h16⟩ := cut1 h15
  clear h15
  obtain ⟨a16, l17, rfl, h17⟩ := cut1 h16
  clear h16
  obtain ⟨a17, l18, rfl, h18⟩ := cut1 h17
  clear h17
  obtain rfl := cut0 h18
  clear h18
  simp only [R_SignDoes, valOf, val1, tupleV, resV, den, Env.at, E, fb, fi, List.getD_cons_zero, List.getD_cons_succ, List.all_cons, List.all_nil, Bool.and_true, bt1, bt2, bt3, bt4, if_true]
  generalize (us a0 && (us a1 && (us a2 && (us a3)))) = c, (ss a6 && (ss a7 && (ss a8 && (ss a9 && (ss a10 && (ss a11)))))) = d
  cases c <;> cases d <;> rfl

theorem c_SignDoes (W : World) : Flat Try.prog E W 8 [.g 2, .g 2, .g 2, .g 3, .g 3, .g 3, .g 3] fun l => tupleV (resV E 20 l [.b] 0 0) := flat_val (cx6_ok W) k_SignDoes v_SignDoes

def R_SignMoves : AV := (.bool (.ite (.ite (.app 1 0 (.cons (.var 0) (.cons (.var 1) (.cons (.var 2) (.cons (.var 3) (.cons (.var 4) (.cons (.var 5) (.cons (.var 6) (.cons (.var 7) .nil))))))))) (.no (.app 2 0 (.cons (.var 8) (.cons (.var 9) (.cons (.var 10) (.cons (.var 11) (.cons (.var 12) (.cons (.var 13) (.cons (.var 14) (.cons (.var 15) (.cons (.var 16) (.cons (.var 17) (.cons (.var 18) (.cons (.var 19) (.cons (.var 20) (.cons (.var 21) (.cons (.var 22) .nil))))))))))))))))) (.blit true)) (.app 20 0 .nil) (.ite (.ite (.eq (.app 10 1 (.cons (.var 0) (.cons (.var 1) (.cons (.var 2) (.cons (.var 3) (.cons (.var 4) (.cons (.var 5) .nil))))))) (.lit 0)) (.ite (.eq (.app 10 1 (.cons (.add (.var 0) (.var 6)) (.cons (.add (.var 1) (.var 7)) (.cons (.add (.var 2) (.var 6)) (.cons (.add (.var 3) (.var 7)) (.cons (.add (.var 4) (.var 6)) (.cons (.add (.var 5) (.var 7)) .nil))))))) (.lit 0)) (.no (.eq (.app 10 0 (.cons (.var 0) (.cons (.var 1) (.cons (.var 2) (.cons (.var 3) (.cons (.var 4) (.cons (.var 5) .nil))))))) (.app 10 0 (.cons (.add (.var 0) (.var 6)) (.cons (.add (.var 1) (.var 7)) (.cons (.add (.var 2) (.var 6)) (.cons (.add (.var 3) (.var 7)) (.cons (.add (.var 4) (.var 6)) (.cons (.add (.var 5) (.var 7)) .nil))))))))) (.blit false)) (.blit true)) (.blit false) (.ite (.app 20 0 .nil) (.ite (.eq (.app 13 1 (.cons (.var 8) (.cons (.var 9) (.cons (.var 10) (.cons (.var 11) (.cons (.var 12) (.cons (.var 13) (.cons (.var 14) (.cons (.var 15) (.cons (.var 16) (.cons (.var 17) (.cons (.var 18) (.cons (.var 19) .nil))))))))))))) (.lit 0)) (.ite (.eq (.app 13 1 (.cons (.add (.var 8) (.var 20)) (.cons (.add (.var 9) (.var 21)) (.cons (.add (.var 10) (.var 22)) (.cons (.add (.var 11) (.var 20)) (.cons (.add (.var 12) (.var 21)) (.cons (.add (.var 13) (.var 22)) (.cons (.add (.var 14) (.var 20)) (.cons (.add (.var 15) (.var 21)) (.cons (.add (.var 16) (.var 22)) (.cons (.add (.var 17) (.var 20)) (.cons (.add (.var 18) (.var 21)) (.cons (.add (.var 19) (.var 22)) .nil))))))))))))) (.lit 0)) (.eq (.app 13 0 (.cons (.var 8) (.cons (.var 9) (.cons (.var 10) (.cons (.var 11) (.cons (.var 12) (.cons (.var 13) (.cons (.var 14) (.cons (.var 15) (.cons (.var 16) (.cons (.var 17) (.cons (.var 18) (.cons (.var 19) .nil))))))))))))) (.app 13 0 (.cons (.add (.var 8) (.var 20)) (.cons (.add (.var 9) (.var 21)) (.cons (.add (.var 10) (.var 22)) (.cons (.add (.var 11) (.var 20)) (.cons (.add (.var 12) (.var 21)) (.cons (.add (.var 13) (.var 22)) (.cons (.add (.var 14) (.var 20)) (.cons (.add (.var 15) (.var 21)) (.cons (.add (.var 16) (.var 22)) (.cons (.add (.var 17) (.var 20)) (.cons (.add (.var 18) (.var 21)) (.cons (.add (.var 19) (.var 22)) .nil)))))))))))))) (.blit true)) (.blit false)) (.blit false)))))
theorem k_SignMoves : acall cx6 20 false 11 [] (argsG [.g 2, .g 2, .g 2, .g 2, .g 3, .g 3, .g 3, .g 3, .g 3] 0 0) (heapG [.g 2, .g 2, .g 2, .g 2, .g 3, .g 3, .g 3, .g 3, .g 3] 0) = .leaf (R_SignMoves, heapG [.g 2, .g 2, .g 2, .g 2, .g 3, .g 3, .g 3, .g 3, .g 3] 0) := by kernel_rfl
set_option maxRecDepth 20000 in
theorem v_SignMoves : ∀ l : List Int, l.length = lenSh [.g 2, .g 2, .g 2, .g 2, .g 3, .g 3, .g 3, .g 3, .g 3] → valOf (E.at l) R_SignMoves = some (tupleV (resV E 20 l [.b] 0 0)) := by
  intro l hl
  have h0 : l.length = 23 := hl
  clear hl
  obtain ⟨a0, l1, rfl, h1⟩ := cut1 h0
  clear h0
  obtain ⟨a1, l2, rfl, h2⟩ := cut1 h1
  clear h1
  obtain ⟨a2, l3, rfl, h3⟩ := cut1 h2
  clear h2
  obtain ⟨a3, l4, rfl, h4⟩ := cut1 h3
  clear h3
  obtain ⟨a4, l5, rfl, h5⟩ := cut1 h4
  clear h4
  obtain ⟨a5, l6, rfl, h6⟩ := cut1 h5
  clear h5
  obtain ⟨a6, l7, rfl, h7⟩ := cut1 h6
  clear h6
  obtain ⟨a7, l8, rfl, h8⟩ := cut1 h7
  clear h7
  obtain ⟨a8, l9, rfl, h9⟩ := cut1 h8
  clear h8
  obtain ⟨a9, l10, rfl, h10⟩ := cut1 h9
  clear h9
  obtain ⟨a10, l11, rfl, h11⟩ := cut1 h10
  clear h10
  obtain ⟨a11, l12, rfl, h12⟩ := cut1 h11
  clear h11
  obtain ⟨a12, l13, rfl, h13⟩ := cut1 h12
  clear h12
  obtain ⟨a13, l14, rfl, h14⟩ := cut1 h13
  clear h13
  obtain ⟨a14, l15, rfl, h15⟩ := cut1 h14
  clear h14
  obtain ⟨a15, l16, rfl, h16⟩ := cut1 h15
  clear h15
  obtain ⟨a16, l17, rfl, h17⟩ := cut1 h16
  clear h16
  obtain ⟨a17, l18, rfl, h18⟩ := cut1 h17
  clear h17
  obtain ⟨a18, l19, rfl, h19⟩ := cut1 h18
  clear h18
  obtain ⟨a19, l20, rfl, h20⟩ := cut1 h19
  clear h19
  obtain ⟨a20, l21, rfl, h21⟩ := cut1 h20
  clear h20
  obtain ⟨a21, l22, rfl, h22⟩ := cut1 h21
  clear h21
  obtain ⟨a22, l23, rfl, h23⟩ := cut1 h22
  clear h22
  obtain rfl := cut0 h23
  clear h23
  have x1 : areaV [a0 + a6, a1 + a7, a2 + a6, a3 + a7, a4 + a6, a5 + a7] = areaV [a0, a1, a2, a3, a4, a5] := by
    simp only [areaV, nx, ny, nz, volV, cr2, List.getD_cons_zero, List.getD_cons_succ]
    grind
  have x2 : volV [a8 + a20, a9 + a21, a10 + a22, a11 + a20, a12 + a21, a13 + a22, a14 + a20, a15 + a21, a16 + a22, a17 + a20, a18 + a21, a19 + a22] = volV [a8, a9, a10, a11, a12, a13, a14, a15, a16, a17, a18, a19] := by
    simp only [areaV, nx, ny, nz, volV, cr2, List.getD_cons_zero, List.getD_cons_succ]
    grind
  simp only [R_SignMoves, valOf, val1, tupleV, resV, den, Env.at, E, fb, fi, List.getD_cons_zero, List.getD_cons_succ, List.all_cons, List.all_nil, Bool.and_true, bt1, bt2, bt3, bt4, if_true]
  cases h0 : us a0
  · simp
  cases h1 : us a1
  · simp
  cases h2 : us a2
  · simp
  cases h3 : us a3
  · simp
  cases h4 : us a4
  · simp
  cases h5 : us a5
  · simp
  cases h6 : us a6
  · simp
  cases h7 : us a7
  · simp
  cases h8 : ss a8
  · simp
  cases h9 : ss a9
  · simp
  cases h10 : ss a10
  · simp
  cases h11 : ss a11
  · simp
  cases h12 : ss a12
  · simp
  cases h13 : ss a13
  · simp
  cases h14 : ss a14
  · simp
  cases h15 : ss a15
  · simp
  cases h16 : ss a16
  · simp
  cases h17 : ss a17
  · simp
  cases h18 : ss a18
  · simp
  cases h19 : ss a19
  · simp
  cases h20 : ss a20
  · simp
  cases h21 : ss a21
  · simp
  cases h22 : ss a22
  · simp
  have c0 := us_b h0
  have c1 := us_b h1
  have c2 := us_b h2
  have c3 := us_b h3
  have c4 := us_b h4
  have c5 := us_b h5
  have c6 := us_b h6
  have c7 := us_b h7
  have c8 := ss_b h8
  have c9 := ss_b h9
  have c10 := ss_b h10
  have c11 := ss_b h11
  have c12 := ss_b h12
  have c13 := ss_b h13
  have c14 := ss_b h14
  have c15 := ss_b h15
  have c16 := ss_b h16
  have c17 := ss_b h17
  have c18 := ss_b h18
  have c19 := ss_b h19
  have c20 := ss_b h20
  have c21 := ss_b h21
  have c22 := ss_b h22
  simp (disch := omega) only [wr]
  rw [x1, x2]
  generalize (us (a0 + a6) && (us (a1 + a7) && (us (a2 + a6) && (us (a3 + a7) && (us (a4 + a6) && (us (a5 + a7))))))) = p, (ss (a8 + a20) && (ss (a9 + a21) && (ss (a10 + a22) && (ss (a11 + a20) && (ss (a12 + a21) && (ss (a13 + a22) && (ss (a14 + a20) && (ss (a15 + a21) && (ss (a16 + a22) && (ss (a17 + a20) && (ss (a18 + a21) && (ss (a19 + a22))))))))))))) = q, areaV [a0, a1, a2, a3, a4, a5] = A, volV [a8, a9, a10, a11, a12, a13, a14, a15, a16, a17, a18, a19] = B
  cases p <;> cases q <;> simp

theorem c_SignMoves (W : World) : Flat Try.prog E W 11 [.g 2, .g 2, .g 2, .g 2, .g 3, .g 3, .g 3, .g 3, .g 3] fun l => tupleV (resV E 20 l [.b] 0 0) := flat_val (cx6_ok W) k_SignMoves v_SignMoves

end Go.Proofs.Ytjnnonhapjdjoaa.Sx
