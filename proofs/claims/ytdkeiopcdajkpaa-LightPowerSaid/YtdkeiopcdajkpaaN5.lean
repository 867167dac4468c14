/- Contracts, reckoned. -/
import Derived.Test.YtdkeiopcdajkpaaN3
import Derived.KernelRfl
set_option linter.unusedVariables false
set_option linter.unusedSimpArgs false
namespace Go.Proofs.Ytdkeiopcdajkpaa.Sx
open Go.RowKit

theorem shine_pow (a0 a1 a2 a3 a4 a5 a6 a8 a9 a10 a11 a12 a13 a14 : Int) : ∃ (e : Int) (d : Bool) (K : Int), 0 ≤ K ∧ K ≤ 1024 ∧ ∀ z, 0 ≤ z → z ≤ 255 → se [a0, a1, a2, a3, a4, a5, a6, z, a8, a9, a10, a11, a12, a13, a14] = e ∧ sv [a0, a1, a2, a3, a4, a5, a6, z, a8, a9, a10, a11, a12, a13, a14] = if d then (K * z).tdiv 1024 else 0 := by
  refine ⟨se [a0, a1, a2, a3, a4, a5, a6, 0, a8, a9, a10, a11, a12, a13, a14], decide (we [a0, a1, a2, a3, a4, a5, a6, 0, a8, a9, a10, a11] = 0 ∧ se [a0, a1, a2, a3, a4, a5, a6, 0, a8, a9, a10, a11, a12, a13, a14] = 0) && !dark [a0, a1, a2, a3, a4, a5, a6, 0, a8, a9, a10, a11, a12, a13, a14], lam [uv 0 [a12, a13, a14], uv 1 [a12, a13, a14], uv 2 [a12, a13, a14], wv 0 [a0, a1, a2, a3, a4, a5, a6, 0, a8, a9, a10, a11], wv 1 [a0, a1, a2, a3, a4, a5, a6, 0, a8, a9, a10, a11], wv 2 [a0, a1, a2, a3, a4, a5, a6, 0, a8, a9, a10, a11]], (lam_bd _).1, (lam_bd _).2, ?_⟩
  intro z h0 h1
  have hr : lr [a0, a1, a2, a3, a4, a5, a6, z, a8] = lr [a0, a1, a2, a3, a4, a5, a6, 0, a8] := by
    rw [Bool.eq_iff_iff, lr_iff, lr_iff]
    exact ⟨fun L => ⟨L.k, by omega, L.c, L.b1, L.b2, L.b3, L.b4, L.b5, L.b6, L.d⟩, fun L => ⟨L.k, by omega, L.c, L.b1, L.b2, L.b3, L.b4, L.b5, L.b6, L.d⟩⟩
  have hw : we [a0, a1, a2, a3, a4, a5, a6, z, a8, a9, a10, a11] = we [a0, a1, a2, a3, a4, a5, a6, 0, a8, a9, a10, a11] := by
    simp only [we, List.take_succ_cons, List.take_zero, List.drop_succ_cons, List.drop_zero, hr, List.getD_cons_zero, lway, List.getD_cons_succ]
  have hv : ∀ k, wv k [a0, a1, a2, a3, a4, a5, a6, z, a8, a9, a10, a11] = wv k [a0, a1, a2, a3, a4, a5, a6, 0, a8, a9, a10, a11] := fun k => by
    simp only [wv, hw, lway, ldir, List.getD_cons_zero, List.getD_cons_succ]
  have hd : dark [a0, a1, a2, a3, a4, a5, a6, z, a8, a9, a10, a11, a12, a13, a14] = dark [a0, a1, a2, a3, a4, a5, a6, 0, a8, a9, a10, a11, a12, a13, a14] := by
    simp only [dark, ldir, List.take_succ_cons, List.take_zero, hv, List.getD_cons_zero, List.getD_cons_succ]
  have he : se [a0, a1, a2, a3, a4, a5, a6, z, a8, a9, a10, a11, a12, a13, a14] = se [a0, a1, a2, a3, a4, a5, a6, 0, a8, a9, a10, a11, a12, a13, a14] := by
    simp only [se, we1, List.take_succ_cons, List.take_zero, List.drop_succ_cons, List.drop_zero, hw]
  refine ⟨he, ?_⟩
  have vs : sv [a0, a1, a2, a3, a4, a5, a6, z, a8, a9, a10, a11, a12, a13, a14] = if we [a0, a1, a2, a3, a4, a5, a6, z, a8, a9, a10, a11] = 0 ∧ se [a0, a1, a2, a3, a4, a5, a6, z, a8, a9, a10, a11, a12, a13, a14] = 0 then (if dark [a0, a1, a2, a3, a4, a5, a6, z, a8, a9, a10, a11, a12, a13, a14] then 0 else (lam [uv 0 [a12, a13, a14], uv 1 [a12, a13, a14], uv 2 [a12, a13, a14], wv 0 [a0, a1, a2, a3, a4, a5, a6, z, a8, a9, a10, a11], wv 1 [a0, a1, a2, a3, a4, a5, a6, z, a8, a9, a10, a11], wv 2 [a0, a1, a2, a3, a4, a5, a6, z, a8, a9, a10, a11]] * z).tdiv 1024) else 0 := rfl
  rw [vs, hw, he, hd, hv, hv, hv]
  cases dark [a0, a1, a2, a3, a4, a5, a6, 0, a8, a9, a10, a11, a12, a13, a14]
  · by_cases c : we [a0, a1, a2, a3, a4, a5, a6, 0, a8, a9, a10, a11] = 0 ∧ se [a0, a1, a2, a3, a4, a5, a6, 0, a8, a9, a10, a11, a12, a13, a14] = 0
    · simp [c]
    · simp only [c, if_false, decide_false, Bool.false_and, Bool.false_eq_true]
  · simp

def R_LightPower : AV := (.bool (.ite (.ite (.lt (.var 7) (.lit 0)) (.blit true) (.lt (.lit 127) (.var 7))) (.app 20 0 .nil) (.ite (.eq (.app 45 1 (.cons (.var 0) (.cons (.var 1) (.cons (.var 2) (.cons (.var 3) (.cons (.var 4) (.cons (.var 5) (.cons (.var 6) (.cons (.var 7) (.cons (.var 8) (.cons (.var 9) (.cons (.var 10) (.cons (.var 11) (.cons (.var 12) (.cons (.var 13) (.cons (.var 14) .nil)))))))))))))))) (.lit 0)) (.ite (.app 20 0 .nil) (.ite (.eq (.app 45 1 (.cons (.var 0) (.cons (.var 1) (.cons (.var 2) (.cons (.var 3) (.cons (.var 4) (.cons (.var 5) (.cons (.var 6) (.cons (.mul (.lit 2) (.var 7)) (.cons (.var 8) (.cons (.var 9) (.cons (.var 10) (.cons (.var 11) (.cons (.var 12) (.cons (.var 13) (.cons (.var 14) .nil)))))))))))))))) (.lit 0)) (.ite (.eq (.app 45 1 (.cons (.var 0) (.cons (.var 1) (.cons (.var 2) (.cons (.var 3) (.cons (.var 4) (.cons (.var 5) (.cons (.var 6) (.cons (.lit 0) (.cons (.var 8) (.cons (.var 9) (.cons (.var 10) (.cons (.var 11) (.cons (.var 12) (.cons (.var 13) (.cons (.var 14) .nil)))))))))))))))) (.lit 0)) (.ite (.eq (.app 45 0 (.cons (.var 0) (.cons (.var 1) (.cons (.var 2) (.cons (.var 3) (.cons (.var 4) (.cons (.var 5) (.cons (.var 6) (.cons (.lit 0) (.cons (.var 8) (.cons (.var 9) (.cons (.var 10) (.cons (.var 11) (.cons (.var 12) (.cons (.var 13) (.cons (.var 14) .nil)))))))))))))))) (.lit 0)) (.ite (.le (.mul (.lit 2) (.app 45 0 (.cons (.var 0) (.cons (.var 1) (.cons (.var 2) (.cons (.var 3) (.cons (.var 4) (.cons (.var 5) (.cons (.var 6) (.cons (.var 7) (.cons (.var 8) (.cons (.var 9) (.cons (.var 10) (.cons (.var 11) (.cons (.var 12) (.cons (.var 13) (.cons (.var 14) .nil))))))))))))))))) (.app 45 0 (.cons (.var 0) (.cons (.var 1) (.cons (.var 2) (.cons (.var 3) (.cons (.var 4) (.cons (.var 5) (.cons (.var 6) (.cons (.mul (.lit 2) (.var 7)) (.cons (.var 8) (.cons (.var 9) (.cons (.var 10) (.cons (.var 11) (.cons (.var 12) (.cons (.var 13) (.cons (.var 14) .nil))))))))))))))))) (.le (.app 45 0 (.cons (.var 0) (.cons (.var 1) (.cons (.var 2) (.cons (.var 3) (.cons (.var 4) (.cons (.var 5) (.cons (.var 6) (.cons (.mul (.lit 2) (.var 7)) (.cons (.var 8) (.cons (.var 9) (.cons (.var 10) (.cons (.var 11) (.cons (.var 12) (.cons (.var 13) (.cons (.var 14) .nil)))))))))))))))) (.add (.mul (.lit 2) (.app 45 0 (.cons (.var 0) (.cons (.var 1) (.cons (.var 2) (.cons (.var 3) (.cons (.var 4) (.cons (.var 5) (.cons (.var 6) (.cons (.var 7) (.cons (.var 8) (.cons (.var 9) (.cons (.var 10) (.cons (.var 11) (.cons (.var 12) (.cons (.var 13) (.cons (.var 14) .nil))))))))))))))))) (.lit 1))) (.blit false)) (.blit false)) (.blit false)) (.blit false)) (.blit false)) (.ite (.app 20 0 .nil) (.ite (.eq (.app 45 1 (.cons (.var 0) (.cons (.var 1) (.cons (.var 2) (.cons (.var 3) (.cons (.var 4) (.cons (.var 5) (.cons (.var 6) (.cons (.mul (.lit 2) (.var 7)) (.cons (.var 8) (.cons (.var 9) (.cons (.var 10) (.cons (.var 11) (.cons (.var 12) (.cons (.var 13) (.cons (.var 14) .nil)))))))))))))))) (.app 45 1 (.cons (.var 0) (.cons (.var 1) (.cons (.var 2) (.cons (.var 3) (.cons (.var 4) (.cons (.var 5) (.cons (.var 6) (.cons (.var 7) (.cons (.var 8) (.cons (.var 9) (.cons (.var 10) (.cons (.var 11) (.cons (.var 12) (.cons (.var 13) (.cons (.var 14) .nil))))))))))))))))) (.eq (.app 45 1 (.cons (.var 0) (.cons (.var 1) (.cons (.var 2) (.cons (.var 3) (.cons (.var 4) (.cons (.var 5) (.cons (.var 6) (.cons (.lit 0) (.cons (.var 8) (.cons (.var 9) (.cons (.var 10) (.cons (.var 11) (.cons (.var 12) (.cons (.var 13) (.cons (.var 14) .nil)))))))))))))))) (.app 45 1 (.cons (.var 0) (.cons (.var 1) (.cons (.var 2) (.cons (.var 3) (.cons (.var 4) (.cons (.var 5) (.cons (.var 6) (.cons (.var 7) (.cons (.var 8) (.cons (.var 9) (.cons (.var 10) (.cons (.var 11) (.cons (.var 12) (.cons (.var 13) (.cons (.var 14) .nil))))))))))))))))) (.blit false)) (.blit false)))))
theorem k_LightPower : acall cn3 20 false 11 [] (argsG [.g 9, .g 3, .g 3] 0 0) (heapG [.g 9, .g 3, .g 3] 0) = .leaf (R_LightPower, heapG [.g 9, .g 3, .g 3] 0) := by kernel_rfl
set_option maxHeartbeats 4000000 in
set_option maxRecDepth 20000 in
theorem v_LightPower : ∀ l : List Int, l.length = lenSh [.g 9, .g 3, .g 3] → AllI l → valOf (E.at l) R_LightPower = some (tupleV (resV E 20 l [.b] 0 0)) := by
  intro l hl hG
  have h0 : l.length = 15 := hl
  clear hl
  obtain ⟨a0, l1, rfl, h1⟩ := cut1 h0
  clear h0
  obtain ⟨a1, l2, rfl, h2⟩ := cut1 h1
  clear h1
  obtain ⟨a2, l3, rfl, h3⟩ := cut1 h2
  clear h2
  obtain ⟨a3, l4, rfl, h4⟩ := cut1 h3
  clear h3
  obtain ⟨a4, l5, rfl, h5⟩ := cut1 h4
  clear h4
  obtain ⟨a5, l6, rfl, h6⟩ := cut1 h5
  clear h5
  obtain ⟨a6, l7, rfl, h7⟩ := cut1 h6
  clear h6
  obtain ⟨a7, l8, rfl, h8⟩ := cut1 h7
  clear h7
  obtain ⟨a8, l9, rfl, h9⟩ := cut1 h8
  clear h8
  obtain ⟨a9, l10, rfl, h10⟩ := cut1 h9
  clear h9
  obtain ⟨a10, l11, rfl, h11⟩ := cut1 h10
  clear h10
  obtain ⟨a11, l12, rfl, h12⟩ := cut1 h11
  clear h11
  obtain ⟨a12, l13, rfl, h13⟩ := cut1 h12
  clear h12
  obtain ⟨a13, l14, rfl, h14⟩ := cut1 h13
  clear h13
  obtain ⟨a14, l15, rfl, h15⟩ := cut1 h14
  clear h14
  obtain rfl := cut0 h15
  clear h15
  simp only [R_LightPower, valOf, vals1, valInts, val1, tupleV, resV, valsI, den, bt1, bt2, bt3, bt4, Env.at, E, fb, fi, List.getD_cons_zero, List.getD_cons_succ, List.all_cons, List.all_nil, Bool.and_true, nr', us', ss', nr2, us2, ss2, nr3, us3, ss3, Bool.and_assoc, Option.map_some, List.all_append, cmps, Wh.fe, Env.b, Env.i, Tree.map, Tree.sel, maxI]
  by_cases hp : a7 < 0 ∨ 127 < a7
  · have gb : (decide (a7 < 0) || decide (127 < a7)) = true := by simpa using hp
    simp only [gb, Bool.true_or]
  have g1 : decide (a7 < 0) = false := by simp; omega
  have g2 : decide (127 < a7) = false := by simp; omega
  have w : IntKind.i64.wrap (2 * a7) = 2 * a7 := wr (by omega)
  obtain ⟨e, d, K, k0, k1, H⟩ := shine_pow a0 a1 a2 a3 a4 a5 a6 a8 a9 a10 a11 a12 a13 a14
  have h1 := H a7 (by omega) (by omega)
  have h2 := H (2 * a7) (by omega) (by omega)
  have h3 := H 0 (by omega) (by omega)
  simp only [g1, g2, w, h1.1, h1.2, h2.1, h2.2, h3.1, h3.2]
  have m0 := Int.mul_nonneg k0 (show 0 ≤ a7 by omega)
  have m1 := Int.mul_le_mul_of_nonneg_right k1 (show 0 ≤ a7 by omega)
  have m2 : K * (2 * a7) = 2 * (K * a7) := by grind
  rw [m2, Int.mul_zero, Int.tdiv_eq_ediv_of_nonneg m0, Int.tdiv_eq_ediv_of_nonneg (show 0 ≤ 2 * (K * a7) by omega)]
  generalize K * a7 = t at *
  by_cases he : e = 0
  · cases d
    · simp [he]
      decide
    · have w1 : IntKind.i64.wrap (2 * (t / 1024)) = 2 * (t / 1024) := wr (by omega)
      have w2 : IntKind.i64.wrap (2 * (t / 1024) + 1) = 2 * (t / 1024) + 1 := wr (by omega)
      simp [he, w1, w2]
      omega
  · have hg : (e == 0) = false := by simpa using he
    simp [hg]

theorem c_LightPower (W : World) : Flat Try.prog E W AllI 11 [.g 9, .g 3, .g 3] fun l => tupleV (resV E 20 l [.b] 0 0) := flat_val (cn3_ok W) k_LightPower v_LightPower

end Go.Proofs.Ytdkeiopcdajkpaa.Sx
