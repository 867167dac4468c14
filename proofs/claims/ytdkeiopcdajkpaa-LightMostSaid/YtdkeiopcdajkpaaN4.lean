/- Contracts, reckoned. -/
import Derived.Test.YtdkeiopcdajkpaaN3
import Derived.KernelRfl
set_option linter.unusedVariables false
set_option linter.unusedSimpArgs false
namespace Go.Proofs.Ytdkeiopcdajkpaa.Sx
open Go.RowKit


def R_LightMost : AV := (.bool (.ite (.eq (.app 45 1 (.cons (.var 0) (.cons (.var 1) (.cons (.var 2) (.cons (.var 3) (.cons (.var 4) (.cons (.var 5) (.cons (.var 6) (.cons (.var 7) (.cons (.var 8) (.cons (.var 9) (.cons (.var 10) (.cons (.var 11) (.cons (.var 12) (.cons (.var 13) (.cons (.var 14) .nil)))))))))))))))) (.lit 0)) (.ite (.eq (.app 44 6 (.cons (.var 0) (.cons (.var 1) (.cons (.var 2) (.cons (.var 3) (.cons (.var 4) (.cons (.var 5) (.cons (.var 6) (.cons (.var 7) (.cons (.var 8) (.cons (.var 9) (.cons (.var 10) (.cons (.var 11) .nil))))))))))))) (.lit 3)) (.ite (.app 20 0 .nil) (.eq (.app 45 0 (.cons (.var 0) (.cons (.var 1) (.cons (.var 2) (.cons (.var 3) (.cons (.var 4) (.cons (.var 5) (.cons (.var 6) (.cons (.var 7) (.cons (.var 8) (.cons (.var 9) (.cons (.var 10) (.cons (.var 11) (.cons (.var 12) (.cons (.var 13) (.cons (.var 14) .nil)))))))))))))))) (.lit 0)) (.blit false)) (.ite (.app 20 0 .nil) (.ite (.eq (.app 44 6 (.cons (.var 0) (.cons (.var 1) (.cons (.var 2) (.cons (.var 3) (.cons (.var 4) (.cons (.var 5) (.cons (.var 6) (.cons (.var 7) (.cons (.var 8) (.cons (.var 9) (.cons (.var 10) (.cons (.var 11) .nil))))))))))))) (.lit 0)) (.ite (.eq (.app 40 3 (.cons (.var 12) (.cons (.var 13) (.cons (.var 14) .nil)))) (.lit 0)) (.ite (.eq (.app 43 1 (.cons (.app 40 0 (.cons (.var 12) (.cons (.var 13) (.cons (.var 14) .nil)))) (.cons (.app 40 1 (.cons (.var 12) (.cons (.var 13) (.cons (.var 14) .nil)))) (.cons (.app 40 2 (.cons (.var 12) (.cons (.var 13) (.cons (.var 14) .nil)))) (.cons (.app 44 0 (.cons (.var 0) (.cons (.var 1) (.cons (.var 2) (.cons (.var 3) (.cons (.var 4) (.cons (.var 5) (.cons (.var 6) (.cons (.var 7) (.cons (.var 8) (.cons (.var 9) (.cons (.var 10) (.cons (.var 11) .nil))))))))))))) (.cons (.app 44 1 (.cons (.var 0) (.cons (.var 1) (.cons (.var 2) (.cons (.var 3) (.cons (.var 4) (.cons (.var 5) (.cons (.var 6) (.cons (.var 7) (.cons (.var 8) (.cons (.var 9) (.cons (.var 10) (.cons (.var 11) .nil))))))))))))) (.cons (.app 44 2 (.cons (.var 0) (.cons (.var 1) (.cons (.var 2) (.cons (.var 3) (.cons (.var 4) (.cons (.var 5) (.cons (.var 6) (.cons (.var 7) (.cons (.var 8) (.cons (.var 9) (.cons (.var 10) (.cons (.var 11) .nil))))))))))))) .nil))))))) (.lit 0)) (.ite (.le (.lit 0) (.app 45 0 (.cons (.var 0) (.cons (.var 1) (.cons (.var 2) (.cons (.var 3) (.cons (.var 4) (.cons (.var 5) (.cons (.var 6) (.cons (.var 7) (.cons (.var 8) (.cons (.var 9) (.cons (.var 10) (.cons (.var 11) (.cons (.var 12) (.cons (.var 13) (.cons (.var 14) .nil))))))))))))))))) (.ite (.le (.app 45 0 (.cons (.var 0) (.cons (.var 1) (.cons (.var 2) (.cons (.var 3) (.cons (.var 4) (.cons (.var 5) (.cons (.var 6) (.cons (.var 7) (.cons (.var 8) (.cons (.var 9) (.cons (.var 10) (.cons (.var 11) (.cons (.var 12) (.cons (.var 13) (.cons (.var 14) .nil)))))))))))))))) (.var 7)) (.ite (.lt (.lit 0) (.app 43 0 (.cons (.app 40 0 (.cons (.var 12) (.cons (.var 13) (.cons (.var 14) .nil)))) (.cons (.app 40 1 (.cons (.var 12) (.cons (.var 13) (.cons (.var 14) .nil)))) (.cons (.app 40 2 (.cons (.var 12) (.cons (.var 13) (.cons (.var 14) .nil)))) (.cons (.app 44 0 (.cons (.var 0) (.cons (.var 1) (.cons (.var 2) (.cons (.var 3) (.cons (.var 4) (.cons (.var 5) (.cons (.var 6) (.cons (.var 7) (.cons (.var 8) (.cons (.var 9) (.cons (.var 10) (.cons (.var 11) .nil))))))))))))) (.cons (.app 44 1 (.cons (.var 0) (.cons (.var 1) (.cons (.var 2) (.cons (.var 3) (.cons (.var 4) (.cons (.var 5) (.cons (.var 6) (.cons (.var 7) (.cons (.var 8) (.cons (.var 9) (.cons (.var 10) (.cons (.var 11) .nil))))))))))))) (.cons (.app 44 2 (.cons (.var 0) (.cons (.var 1) (.cons (.var 2) (.cons (.var 3) (.cons (.var 4) (.cons (.var 5) (.cons (.var 6) (.cons (.var 7) (.cons (.var 8) (.cons (.var 9) (.cons (.var 10) (.cons (.var 11) .nil))))))))))))) .nil)))))))) (.app 46 0 (.cons (.var 0) (.cons (.var 1) (.cons (.var 2) (.cons (.var 3) (.cons (.var 4) (.cons (.var 5) (.cons (.var 6) (.cons (.var 7) (.cons (.var 8) .nil)))))))))) (.ite (.eq (.app 45 0 (.cons (.var 0) (.cons (.var 1) (.cons (.var 2) (.cons (.var 3) (.cons (.var 4) (.cons (.var 5) (.cons (.var 6) (.cons (.var 7) (.cons (.var 8) (.cons (.var 9) (.cons (.var 10) (.cons (.var 11) (.cons (.var 12) (.cons (.var 13) (.cons (.var 14) .nil)))))))))))))))) (.lit 0)) (.app 46 0 (.cons (.var 0) (.cons (.var 1) (.cons (.var 2) (.cons (.var 3) (.cons (.var 4) (.cons (.var 5) (.cons (.var 6) (.cons (.var 7) (.cons (.var 8) .nil)))))))))) (.blit false))) (.blit false)) (.blit false)) (.blit false)) (.blit false)) (.blit false)) (.blit false))) (.ite (.app 20 0 .nil) (.eq (.app 45 0 (.cons (.var 0) (.cons (.var 1) (.cons (.var 2) (.cons (.var 3) (.cons (.var 4) (.cons (.var 5) (.cons (.var 6) (.cons (.var 7) (.cons (.var 8) (.cons (.var 9) (.cons (.var 10) (.cons (.var 11) (.cons (.var 12) (.cons (.var 13) (.cons (.var 14) .nil)))))))))))))))) (.lit 0)) (.blit false))))
theorem k_LightMost : acall cn3 20 false 9 [] (argsG [.g 9, .g 3, .g 3] 0 0) (heapG [.g 9, .g 3, .g 3] 0) = .leaf (R_LightMost, heapG [.g 9, .g 3, .g 3] 0) := by kernel_rfl
set_option maxHeartbeats 4000000 in
set_option maxRecDepth 20000 in
theorem v_LightMost : ∀ l : List Int, l.length = lenSh [.g 9, .g 3, .g 3] → AllI l → valOf (E.at l) R_LightMost = some (tupleV (resV E 20 l [.b] 0 0)) := by
  intro l hl hG
  have h0 : l.length = 15 := hl
  clear hl
  obtain ⟨a0, l1, rfl, h1⟩ := cut1 h0
  clear h0
  obtain ⟨a1, l2, rfl, h2⟩ := cut1 h1
  clear h1
  obtain ⟨a2, l3, rfl, h3⟩ := cut1 h2
  clear h2
  obtain ⟨a3, l4, rfl, h4⟩ := cut1 h3
  clear h3
  obtain ⟨a4, l5, rfl, h5⟩ := cut1 h4
  clear h4
  obtain ⟨a5, l6, rfl, h6⟩ := cut1 h5
  clear h5
  obtain ⟨a6, l7, rfl, h7⟩ := cut1 h6
  clear h6
  obtain ⟨a7, l8, rfl, h8⟩ := cut1 h7
  clear h7
  obtain ⟨a8, l9, rfl, h9⟩ := cut1 h8
  clear h8
  obtain ⟨a9, l10, rfl, h10⟩ := cut1 h9
  clear h9
  obtain ⟨a10, l11, rfl, h11⟩ := cut1 h10
  clear h10
  obtain ⟨a11, l12, rfl, h12⟩ := cut1 h11
  clear h11
  obtain ⟨a12, l13, rfl, h13⟩ := cut1 h12
  clear h12
  obtain ⟨a13, l14, rfl, h14⟩ := cut1 h13
  clear h13
  obtain ⟨a14, l15, rfl, h15⟩ := cut1 h14
  clear h14
  obtain rfl := cut0 h15
  clear h15
  have b0 := lf_un (wv_bd 0 [a0, a1, a2, a3, a4, a5, a6, a7, a8, a9, a10, a11]); have b1 := lf_un (wv_bd 1 [a0, a1, a2, a3, a4, a5, a6, a7, a8, a9, a10, a11]); have b2 := lf_un (wv_bd 2 [a0, a1, a2, a3, a4, a5, a6, a7, a8, a9, a10, a11])
  have u0 := lf_un (uv_bd a12 a13 a14 0 (by decide)); have u1 := lf_un (uv_bd a12 a13 a14 1 (by decide)); have u2 := lf_un (uv_bd a12 a13 a14 2 (by decide))
  simp only [R_LightMost, valOf, vals1, valInts, val1, tupleV, resV, valsI, den, bt1, bt2, bt3, bt4, Env.at, E, fb, fi, List.getD_cons_zero, List.getD_cons_succ, List.all_cons, List.all_nil, Bool.and_true, nr', us', ss', nr2, us2, ss2, nr3, us3, ss3, Bool.and_assoc, Option.map_some, List.all_append, cmps, Wh.fe, Env.b, Env.i, Tree.map, Tree.sel, maxI, b0, b1, b2, u0, u1, u2, Bool.and_self, if_true]
  have es : se [a0, a1, a2, a3, a4, a5, a6, a7, a8, a9, a10, a11, a12, a13, a14] = if we [a0, a1, a2, a3, a4, a5, a6, a7, a8, a9, a10, a11] = 3 then 0 else if we [a0, a1, a2, a3, a4, a5, a6, a7, a8, a9, a10, a11] = 0 then ue [a12, a13, a14] else we [a0, a1, a2, a3, a4, a5, a6, a7, a8, a9, a10, a11] := rfl
  have vs : sv [a0, a1, a2, a3, a4, a5, a6, a7, a8, a9, a10, a11, a12, a13, a14] = if we [a0, a1, a2, a3, a4, a5, a6, a7, a8, a9, a10, a11] = 0 ∧ se [a0, a1, a2, a3, a4, a5, a6, a7, a8, a9, a10, a11, a12, a13, a14] = 0 then (if dark [a0, a1, a2, a3, a4, a5, a6, a7, a8, a9, a10, a11, a12, a13, a14] then 0 else (lam [uv 0 [a12, a13, a14], uv 1 [a12, a13, a14], uv 2 [a12, a13, a14], wv 0 [a0, a1, a2, a3, a4, a5, a6, a7, a8, a9, a10, a11], wv 1 [a0, a1, a2, a3, a4, a5, a6, a7, a8, a9, a10, a11], wv 2 [a0, a1, a2, a3, a4, a5, a6, a7, a8, a9, a10, a11]] * a7).tdiv 1024) else 0 := rfl
  have lb := lam_bd [uv 0 [a12, a13, a14], uv 1 [a12, a13, a14], uv 2 [a12, a13, a14], wv 0 [a0, a1, a2, a3, a4, a5, a6, a7, a8, a9, a10, a11], wv 1 [a0, a1, a2, a3, a4, a5, a6, a7, a8, a9, a10, a11], wv 2 [a0, a1, a2, a3, a4, a5, a6, a7, a8, a9, a10, a11]]
  rcases we_of (a0 := a0) (a1 := a1) (a2 := a2) (a3 := a3) (a4 := a4) (a5 := a5) (a6 := a6) (a7 := a7) (a8 := a8) (a9 := a9) (a10 := a10) (a11 := a11) with h | h | h | h
  · have L := we_lr h
    have lr' := lr_iff.2 L
    have lp := L.p
    have es' : se [a0, a1, a2, a3, a4, a5, a6, a7, a8, a9, a10, a11, a12, a13, a14] = ue [a12, a13, a14] := by rw [es, h]; rfl
    by_cases hn : ue [a12, a13, a14] = 0
    · have e0 : se [a0, a1, a2, a3, a4, a5, a6, a7, a8, a9, a10, a11, a12, a13, a14] = 0 := by rw [es', hn]
      rw [if_pos ⟨h, e0⟩] at vs
      generalize lam [uv 0 [a12, a13, a14], uv 1 [a12, a13, a14], uv 2 [a12, a13, a14], wv 0 [a0, a1, a2, a3, a4, a5, a6, a7, a8, a9, a10, a11], wv 1 [a0, a1, a2, a3, a4, a5, a6, a7, a8, a9, a10, a11], wv 2 [a0, a1, a2, a3, a4, a5, a6, a7, a8, a9, a10, a11]] = K at *
      have key : 0 ≤ sv [a0, a1, a2, a3, a4, a5, a6, a7, a8, a9, a10, a11, a12, a13, a14] ∧ sv [a0, a1, a2, a3, a4, a5, a6, a7, a8, a9, a10, a11, a12, a13, a14] ≤ a7 ∧ (K = 0 → sv [a0, a1, a2, a3, a4, a5, a6, a7, a8, a9, a10, a11, a12, a13, a14] = 0) := by
        rw [vs]; split
        · omega
        · have h0 := Int.mul_nonneg lb.1 lp.1
          have h1 := Int.mul_le_mul_of_nonneg_right lb.2 lp.1
          rw [Int.tdiv_eq_ediv_of_nonneg h0]
          refine ⟨by omega, by omega, ?_⟩
          intro hk; rw [hk]; simp
      by_cases hk : K = 0
      · have := key.2.2 hk
        simp [e0, h, hn, lr', this, lp.1]
      · have : 0 < K := by omega
        simp [e0, h, hn, lr', key.1, key.2.1, this]
    · have e0 : ¬ se [a0, a1, a2, a3, a4, a5, a6, a7, a8, a9, a10, a11, a12, a13, a14] = 0 := by rw [es']; exact hn
      rw [if_neg (fun c => e0 c.2)] at vs
      simp [e0, vs]
  · simp [es, vs, h]
  · simp [es, vs, h]
  · simp [es, vs, h]

theorem c_LightMost (W : World) : Flat Try.prog E W AllI 9 [.g 9, .g 3, .g 3] fun l => tupleV (resV E 20 l [.b] 0 0) := flat_val (cn3_ok W) k_LightMost v_LightMost

end Go.Proofs.Ytdkeiopcdajkpaa.Sx
