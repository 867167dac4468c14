/- Contracts, reckoned. -/
import Derived.Test.YtdkeiopcdajkpaaN1
import Derived.KernelRfl
set_option linter.unusedVariables false
set_option linter.unusedSimpArgs false
namespace Go.Proofs.Ytdkeiopcdajkpaa.Sx
open Go.RowKit

theorem we_lr {a0 a1 a2 a3 a4 a5 a6 a7 a8 a9 a10 a11 : Int} (h : we [a0, a1, a2, a3, a4, a5, a6, a7, a8, a9, a10, a11] = 0) : Lt a0 a1 a2 a3 a4 a5 a6 a7 a8 := by
  apply lr_iff.1
  unfold we at h
  split at h
  · rename_i h1; exact h1
  · cases h
theorem we_of {a0 a1 a2 a3 a4 a5 a6 a7 a8 a9 a10 a11 : Int} : we [a0, a1, a2, a3, a4, a5, a6, a7, a8, a9, a10, a11] = 0 ∨ we [a0, a1, a2, a3, a4, a5, a6, a7, a8, a9, a10, a11] = 1 ∨ we [a0, a1, a2, a3, a4, a5, a6, a7, a8, a9, a10, a11] = 3 ∨ we [a0, a1, a2, a3, a4, a5, a6, a7, a8, a9, a10, a11] = 5 := by
  unfold we; (repeat' split) <;> simp
theorem lam_bd (l : List Int) : 0 ≤ lam l ∧ lam l ≤ 1024 := by
  unfold lam; split
  · rw [Int.tdiv_eq_ediv_of_nonneg (by omega)]; omega
  · exact ⟨by decide, by decide⟩
theorem pow_wr {k p : Int} (hk : 0 ≤ k ∧ k ≤ 1024) (hp : 0 ≤ p ∧ p ≤ 255) : IntKind.i64.wrap ((IntKind.i64.wrap (k * p)).tdiv 1024) = (k * p).tdiv 1024 := by
  have := mul_bd (M := 1024) (N := 255) 261120 (by decide) (x := k) (y := p) (by omega) (by omega)
  have h0 := Int.mul_nonneg hk.1 hp.1
  rw [wr (x := k * p) (by omega), Int.tdiv_eq_ediv_of_nonneg h0]
  exact wr (by omega)
theorem lf_un {x : Int} (h : -1024 ≤ x ∧ x ≤ 1024) : lf x = true := by simp [lf]; omega

def R_shine : AV := (.tuple [(.int (.ite (.eq (.app 44 6 (.cons (.var 0) (.cons (.var 1) (.cons (.var 2) (.cons (.var 3) (.cons (.var 4) (.cons (.var 5) (.cons (.var 6) (.cons (.var 7) (.cons (.var 8) (.cons (.var 9) (.cons (.var 10) (.cons (.var 11) .nil))))))))))))) (.lit 0)) (.ite (.eq (.app 40 3 (.cons (.var 12) (.cons (.var 13) (.cons (.var 14) .nil)))) (.lit 0)) (.ite (.ite (.eq (.var 0) (.lit 3)) (.lt (.app 43 0 (.cons (.app 40 0 (.cons (.var 4) (.cons (.var 5) (.cons (.var 6) .nil)))) (.cons (.app 40 1 (.cons (.var 4) (.cons (.var 5) (.cons (.var 6) .nil)))) (.cons (.app 40 2 (.cons (.var 4) (.cons (.var 5) (.cons (.var 6) .nil)))) (.cons (.sub (.lit 0) (.app 44 0 (.cons (.var 0) (.cons (.var 1) (.cons (.var 2) (.cons (.var 3) (.cons (.var 4) (.cons (.var 5) (.cons (.var 6) (.cons (.var 7) (.cons (.var 8) (.cons (.var 9) (.cons (.var 10) (.cons (.var 11) .nil)))))))))))))) (.cons (.sub (.lit 0) (.app 44 1 (.cons (.var 0) (.cons (.var 1) (.cons (.var 2) (.cons (.var 3) (.cons (.var 4) (.cons (.var 5) (.cons (.var 6) (.cons (.var 7) (.cons (.var 8) (.cons (.var 9) (.cons (.var 10) (.cons (.var 11) .nil)))))))))))))) (.cons (.sub (.lit 0) (.app 44 2 (.cons (.var 0) (.cons (.var 1) (.cons (.var 2) (.cons (.var 3) (.cons (.var 4) (.cons (.var 5) (.cons (.var 6) (.cons (.var 7) (.cons (.var 8) (.cons (.var 9) (.cons (.var 10) (.cons (.var 11) .nil)))))))))))))) .nil))))))) (.var 8)) (.blit false)) (.lit 0) (.quo (.mul (.app 43 0 (.cons (.app 40 0 (.cons (.var 12) (.cons (.var 13) (.cons (.var 14) .nil)))) (.cons (.app 40 1 (.cons (.var 12) (.cons (.var 13) (.cons (.var 14) .nil)))) (.cons (.app 40 2 (.cons (.var 12) (.cons (.var 13) (.cons (.var 14) .nil)))) (.cons (.app 44 0 (.cons (.var 0) (.cons (.var 1) (.cons (.var 2) (.cons (.var 3) (.cons (.var 4) (.cons (.var 5) (.cons (.var 6) (.cons (.var 7) (.cons (.var 8) (.cons (.var 9) (.cons (.var 10) (.cons (.var 11) .nil))))))))))))) (.cons (.app 44 1 (.cons (.var 0) (.cons (.var 1) (.cons (.var 2) (.cons (.var 3) (.cons (.var 4) (.cons (.var 5) (.cons (.var 6) (.cons (.var 7) (.cons (.var 8) (.cons (.var 9) (.cons (.var 10) (.cons (.var 11) .nil))))))))))))) (.cons (.app 44 2 (.cons (.var 0) (.cons (.var 1) (.cons (.var 2) (.cons (.var 3) (.cons (.var 4) (.cons (.var 5) (.cons (.var 6) (.cons (.var 7) (.cons (.var 8) (.cons (.var 9) (.cons (.var 10) (.cons (.var 11) .nil))))))))))))) .nil))))))) (.var 7)) (.lit 1024))) (.lit 0)) (.lit 0))), (.int (.ite (.eq (.app 44 6 (.cons (.var 0) (.cons (.var 1) (.cons (.var 2) (.cons (.var 3) (.cons (.var 4) (.cons (.var 5) (.cons (.var 6) (.cons (.var 7) (.cons (.var 8) (.cons (.var 9) (.cons (.var 10) (.cons (.var 11) .nil))))))))))))) (.lit 0)) (.ite (.eq (.app 40 3 (.cons (.var 12) (.cons (.var 13) (.cons (.var 14) .nil)))) (.lit 0)) (.ite (.ite (.eq (.var 0) (.lit 3)) (.lt (.app 43 0 (.cons (.app 40 0 (.cons (.var 4) (.cons (.var 5) (.cons (.var 6) .nil)))) (.cons (.app 40 1 (.cons (.var 4) (.cons (.var 5) (.cons (.var 6) .nil)))) (.cons (.app 40 2 (.cons (.var 4) (.cons (.var 5) (.cons (.var 6) .nil)))) (.cons (.sub (.lit 0) (.app 44 0 (.cons (.var 0) (.cons (.var 1) (.cons (.var 2) (.cons (.var 3) (.cons (.var 4) (.cons (.var 5) (.cons (.var 6) (.cons (.var 7) (.cons (.var 8) (.cons (.var 9) (.cons (.var 10) (.cons (.var 11) .nil)))))))))))))) (.cons (.sub (.lit 0) (.app 44 1 (.cons (.var 0) (.cons (.var 1) (.cons (.var 2) (.cons (.var 3) (.cons (.var 4) (.cons (.var 5) (.cons (.var 6) (.cons (.var 7) (.cons (.var 8) (.cons (.var 9) (.cons (.var 10) (.cons (.var 11) .nil)))))))))))))) (.cons (.sub (.lit 0) (.app 44 2 (.cons (.var 0) (.cons (.var 1) (.cons (.var 2) (.cons (.var 3) (.cons (.var 4) (.cons (.var 5) (.cons (.var 6) (.cons (.var 7) (.cons (.var 8) (.cons (.var 9) (.cons (.var 10) (.cons (.var 11) .nil)))))))))))))) .nil))))))) (.var 8)) (.blit false)) (.lit 0) (.app 43 1 (.cons (.app 40 0 (.cons (.var 12) (.cons (.var 13) (.cons (.var 14) .nil)))) (.cons (.app 40 1 (.cons (.var 12) (.cons (.var 13) (.cons (.var 14) .nil)))) (.cons (.app 40 2 (.cons (.var 12) (.cons (.var 13) (.cons (.var 14) .nil)))) (.cons (.app 44 0 (.cons (.var 0) (.cons (.var 1) (.cons (.var 2) (.cons (.var 3) (.cons (.var 4) (.cons (.var 5) (.cons (.var 6) (.cons (.var 7) (.cons (.var 8) (.cons (.var 9) (.cons (.var 10) (.cons (.var 11) .nil))))))))))))) (.cons (.app 44 1 (.cons (.var 0) (.cons (.var 1) (.cons (.var 2) (.cons (.var 3) (.cons (.var 4) (.cons (.var 5) (.cons (.var 6) (.cons (.var 7) (.cons (.var 8) (.cons (.var 9) (.cons (.var 10) (.cons (.var 11) .nil))))))))))))) (.cons (.app 44 2 (.cons (.var 0) (.cons (.var 1) (.cons (.var 2) (.cons (.var 3) (.cons (.var 4) (.cons (.var 5) (.cons (.var 6) (.cons (.var 7) (.cons (.var 8) (.cons (.var 9) (.cons (.var 10) (.cons (.var 11) .nil))))))))))))) .nil)))))))) (.app 40 3 (.cons (.var 12) (.cons (.var 13) (.cons (.var 14) .nil))))) (.ite (.eq (.app 44 6 (.cons (.var 0) (.cons (.var 1) (.cons (.var 2) (.cons (.var 3) (.cons (.var 4) (.cons (.var 5) (.cons (.var 6) (.cons (.var 7) (.cons (.var 8) (.cons (.var 9) (.cons (.var 10) (.cons (.var 11) .nil))))))))))))) (.lit 3)) (.lit 0) (.app 44 6 (.cons (.var 0) (.cons (.var 1) (.cons (.var 2) (.cons (.var 3) (.cons (.var 4) (.cons (.var 5) (.cons (.var 6) (.cons (.var 7) (.cons (.var 8) (.cons (.var 9) (.cons (.var 10) (.cons (.var 11) .nil))))))))))))))))])
theorem k_shine : acall cn1 20 false 28 [] (argsG [.g 9, .g 3, .g 3] 0 0) (heapG [.g 9, .g 3, .g 3] 0) = .leaf (R_shine, heapG [.g 9, .g 3, .g 3] 0) := by kernel_rfl
set_option maxHeartbeats 4000000 in
set_option maxRecDepth 20000 in
theorem v_shine : ∀ l : List Int, l.length = lenSh [.g 9, .g 3, .g 3] → AllI l → valOf (E.at l) R_shine = some (tupleV (resV E 45 l [.i, .i] 0 0)) := by
  intro l hl hG
  have h0 : l.length = 15 := hl
  clear hl
  obtain ⟨a0, l1, rfl, h1⟩ := cut1 h0
  clear h0
  obtain ⟨a1, l2, rfl, h2⟩ := cut1 h1
  clear h1
  obtain ⟨a2, l3, rfl, h3⟩ := cut1 h2
  clear h2
  obtain ⟨a3, l4, rfl, h4⟩ := cut1 h3
  clear h3
  obtain ⟨a4, l5, rfl, h5⟩ := cut1 h4
  clear h4
  obtain ⟨a5, l6, rfl, h6⟩ := cut1 h5
  clear h5
  obtain ⟨a6, l7, rfl, h7⟩ := cut1 h6
  clear h6
  obtain ⟨a7, l8, rfl, h8⟩ := cut1 h7
  clear h7
  obtain ⟨a8, l9, rfl, h9⟩ := cut1 h8
  clear h8
  obtain ⟨a9, l10, rfl, h10⟩ := cut1 h9
  clear h9
  obtain ⟨a10, l11, rfl, h11⟩ := cut1 h10
  clear h10
  obtain ⟨a11, l12, rfl, h12⟩ := cut1 h11
  clear h11
  obtain ⟨a12, l13, rfl, h13⟩ := cut1 h12
  clear h12
  obtain ⟨a13, l14, rfl, h14⟩ := cut1 h13
  clear h13
  obtain ⟨a14, l15, rfl, h15⟩ := cut1 h14
  clear h14
  obtain rfl := cut0 h15
  clear h15
  have b0 := wv_bd 0 [a0, a1, a2, a3, a4, a5, a6, a7, a8, a9, a10, a11]; have b1 := wv_bd 1 [a0, a1, a2, a3, a4, a5, a6, a7, a8, a9, a10, a11]; have b2 := wv_bd 2 [a0, a1, a2, a3, a4, a5, a6, a7, a8, a9, a10, a11]
  have x0 : IntKind.i64.wrap (0 - wv 0 [a0, a1, a2, a3, a4, a5, a6, a7, a8, a9, a10, a11]) = 0 - wv 0 [a0, a1, a2, a3, a4, a5, a6, a7, a8, a9, a10, a11] := wr (by omega)
  have x1 : IntKind.i64.wrap (0 - wv 1 [a0, a1, a2, a3, a4, a5, a6, a7, a8, a9, a10, a11]) = 0 - wv 1 [a0, a1, a2, a3, a4, a5, a6, a7, a8, a9, a10, a11] := wr (by omega)
  have x2 : IntKind.i64.wrap (0 - wv 2 [a0, a1, a2, a3, a4, a5, a6, a7, a8, a9, a10, a11]) = 0 - wv 2 [a0, a1, a2, a3, a4, a5, a6, a7, a8, a9, a10, a11] := wr (by omega)
  have u0 := lf_un (uv_bd a12 a13 a14 0 (by decide)); have u1 := lf_un (uv_bd a12 a13 a14 1 (by decide)); have u2 := lf_un (uv_bd a12 a13 a14 2 (by decide))
  have v0 := lf_un b0; have v1 := lf_un b1; have v2 := lf_un b2
  simp only [R_shine, valOf, vals1, valInts, val1, tupleV, resV, valsI, den, bt1, bt2, bt3, bt4, Env.at, E, fb, fi, List.getD_cons_zero, List.getD_cons_succ, List.all_cons, List.all_nil, Bool.and_true, nr', us', ss', nr2, us2, ss2, nr3, us3, ss3, Bool.and_assoc, Option.map_some, List.all_append, cmps, Wh.fe, Env.b, Env.i, Tree.map, Tree.sel, maxI, sv, se, we1, dark, ldir, uu, x0, x1, x2, u0, u1, u2, v0, v1, v2, Bool.and_self, if_true, List.take_succ_cons, List.take_zero, List.drop_succ_cons, List.drop_zero, List.cons_append, List.nil_append]
  rcases we_of (a0 := a0) (a1 := a1) (a2 := a2) (a3 := a3) (a4 := a4) (a5 := a5) (a6 := a6) (a7 := a7) (a8 := a8) (a9 := a9) (a10 := a10) (a11 := a11) with h | h | h | h
  · have L := we_lr h
    have lp := L.p
    have lb := lam_bd [uv 0 [a12, a13, a14], uv 1 [a12, a13, a14], uv 2 [a12, a13, a14], wv 0 [a0, a1, a2, a3, a4, a5, a6, a7, a8, a9, a10, a11], wv 1 [a0, a1, a2, a3, a4, a5, a6, a7, a8, a9, a10, a11], wv 2 [a0, a1, a2, a3, a4, a5, a6, a7, a8, a9, a10, a11]]
    have pw := pow_wr lb lp
    by_cases hn : ue [a12, a13, a14] = 0
    · simp [h, hn, pw] <;> (by_cases h3 : a0 = 3 <;> simp [h3])
    · have hg : (ue [a12, a13, a14] == 0) = false := by simpa using hn
      simp [h, hn, hg]
  · simp [h]
  · simp [h]
  · simp [h]

theorem c_shine (W : World) : Flat Try.prog E W AllI 28 [.g 9, .g 3, .g 3] fun l => tupleV (resV E 45 l [.i, .i] 0 0) := flat_val (cn1_ok W) k_shine v_shine

def R_rshine : AV := (.tuple [(.int (.ite (.eq (.app 44 6 (.cons (.var 0) (.cons (.var 1) (.cons (.var 2) (.cons (.var 3) (.cons (.var 4) (.cons (.var 5) (.cons (.var 6) (.cons (.var 7) (.cons (.var 8) (.cons (.var 9) (.cons (.var 10) (.cons (.var 11) .nil))))))))))))) (.lit 3)) (.lit 0) (.ite (.eq (.app 44 6 (.cons (.var 0) (.cons (.var 1) (.cons (.var 2) (.cons (.var 3) (.cons (.var 4) (.cons (.var 5) (.cons (.var 6) (.cons (.var 7) (.cons (.var 8) (.cons (.var 9) (.cons (.var 10) (.cons (.var 11) .nil))))))))))))) (.lit 0)) (.ite (.eq (.app 40 3 (.cons (.var 12) (.cons (.var 13) (.cons (.var 14) .nil)))) (.lit 0)) (.ite (.eq (.var 0) (.lit 3)) (.ite (.lt (.app 43 0 (.cons (.app 40 0 (.cons (.var 4) (.cons (.var 5) (.cons (.var 6) .nil)))) (.cons (.app 40 1 (.cons (.var 4) (.cons (.var 5) (.cons (.var 6) .nil)))) (.cons (.app 40 2 (.cons (.var 4) (.cons (.var 5) (.cons (.var 6) .nil)))) (.cons (.sub (.lit 0) (.app 44 0 (.cons (.var 0) (.cons (.var 1) (.cons (.var 2) (.cons (.var 3) (.cons (.var 4) (.cons (.var 5) (.cons (.var 6) (.cons (.var 7) (.cons (.var 8) (.cons (.var 9) (.cons (.var 10) (.cons (.var 11) .nil)))))))))))))) (.cons (.sub (.lit 0) (.app 44 1 (.cons (.var 0) (.cons (.var 1) (.cons (.var 2) (.cons (.var 3) (.cons (.var 4) (.cons (.var 5) (.cons (.var 6) (.cons (.var 7) (.cons (.var 8) (.cons (.var 9) (.cons (.var 10) (.cons (.var 11) .nil)))))))))))))) (.cons (.sub (.lit 0) (.app 44 2 (.cons (.var 0) (.cons (.var 1) (.cons (.var 2) (.cons (.var 3) (.cons (.var 4) (.cons (.var 5) (.cons (.var 6) (.cons (.var 7) (.cons (.var 8) (.cons (.var 9) (.cons (.var 10) (.cons (.var 11) .nil)))))))))))))) .nil))))))) (.var 8)) (.lit 0) (.quo (.mul (.app 43 0 (.cons (.app 40 0 (.cons (.var 12) (.cons (.var 13) (.cons (.var 14) .nil)))) (.cons (.app 40 1 (.cons (.var 12) (.cons (.var 13) (.cons (.var 14) .nil)))) (.cons (.app 40 2 (.cons (.var 12) (.cons (.var 13) (.cons (.var 14) .nil)))) (.cons (.app 44 0 (.cons (.var 0) (.cons (.var 1) (.cons (.var 2) (.cons (.var 3) (.cons (.var 4) (.cons (.var 5) (.cons (.var 6) (.cons (.var 7) (.cons (.var 8) (.cons (.var 9) (.cons (.var 10) (.cons (.var 11) .nil))))))))))))) (.cons (.app 44 1 (.cons (.var 0) (.cons (.var 1) (.cons (.var 2) (.cons (.var 3) (.cons (.var 4) (.cons (.var 5) (.cons (.var 6) (.cons (.var 7) (.cons (.var 8) (.cons (.var 9) (.cons (.var 10) (.cons (.var 11) .nil))))))))))))) (.cons (.app 44 2 (.cons (.var 0) (.cons (.var 1) (.cons (.var 2) (.cons (.var 3) (.cons (.var 4) (.cons (.var 5) (.cons (.var 6) (.cons (.var 7) (.cons (.var 8) (.cons (.var 9) (.cons (.var 10) (.cons (.var 11) .nil))))))))))))) .nil))))))) (.var 7)) (.lit 1024))) (.quo (.mul (.app 43 0 (.cons (.app 40 0 (.cons (.var 12) (.cons (.var 13) (.cons (.var 14) .nil)))) (.cons (.app 40 1 (.cons (.var 12) (.cons (.var 13) (.cons (.var 14) .nil)))) (.cons (.app 40 2 (.cons (.var 12) (.cons (.var 13) (.cons (.var 14) .nil)))) (.cons (.app 44 0 (.cons (.var 0) (.cons (.var 1) (.cons (.var 2) (.cons (.var 3) (.cons (.var 4) (.cons (.var 5) (.cons (.var 6) (.cons (.var 7) (.cons (.var 8) (.cons (.var 9) (.cons (.var 10) (.cons (.var 11) .nil))))))))))))) (.cons (.app 44 1 (.cons (.var 0) (.cons (.var 1) (.cons (.var 2) (.cons (.var 3) (.cons (.var 4) (.cons (.var 5) (.cons (.var 6) (.cons (.var 7) (.cons (.var 8) (.cons (.var 9) (.cons (.var 10) (.cons (.var 11) .nil))))))))))))) (.cons (.app 44 2 (.cons (.var 0) (.cons (.var 1) (.cons (.var 2) (.cons (.var 3) (.cons (.var 4) (.cons (.var 5) (.cons (.var 6) (.cons (.var 7) (.cons (.var 8) (.cons (.var 9) (.cons (.var 10) (.cons (.var 11) .nil))))))))))))) .nil))))))) (.var 7)) (.lit 1024))) (.lit 0)) (.lit 0)))), (.int (.ite (.eq (.app 44 6 (.cons (.var 0) (.cons (.var 1) (.cons (.var 2) (.cons (.var 3) (.cons (.var 4) (.cons (.var 5) (.cons (.var 6) (.cons (.var 7) (.cons (.var 8) (.cons (.var 9) (.cons (.var 10) (.cons (.var 11) .nil))))))))))))) (.lit 3)) (.lit 0) (.ite (.eq (.app 44 6 (.cons (.var 0) (.cons (.var 1) (.cons (.var 2) (.cons (.var 3) (.cons (.var 4) (.cons (.var 5) (.cons (.var 6) (.cons (.var 7) (.cons (.var 8) (.cons (.var 9) (.cons (.var 10) (.cons (.var 11) .nil))))))))))))) (.lit 0)) (.ite (.eq (.app 40 3 (.cons (.var 12) (.cons (.var 13) (.cons (.var 14) .nil)))) (.lit 0)) (.lit 0) (.app 40 3 (.cons (.var 12) (.cons (.var 13) (.cons (.var 14) .nil))))) (.app 44 6 (.cons (.var 0) (.cons (.var 1) (.cons (.var 2) (.cons (.var 3) (.cons (.var 4) (.cons (.var 5) (.cons (.var 6) (.cons (.var 7) (.cons (.var 8) (.cons (.var 9) (.cons (.var 10) (.cons (.var 11) .nil))))))))))))))))])
theorem k_rshine : acall cn1 20 false 29 [] (argsG [.g 9, .g 3, .g 3] 0 0) (heapG [.g 9, .g 3, .g 3] 0) = .leaf (R_rshine, heapG [.g 9, .g 3, .g 3] 0) := by kernel_rfl
set_option maxHeartbeats 4000000 in
set_option maxRecDepth 20000 in
theorem v_rshine : ∀ l : List Int, l.length = lenSh [.g 9, .g 3, .g 3] → AllI l → valOf (E.at l) R_rshine = some (tupleV (resV E 45 l [.i, .i] 0 0)) := by
  intro l hl hG
  have h0 : l.length = 15 := hl
  clear hl
  obtain ⟨a0, l1, rfl, h1⟩ := cut1 h0
  clear h0
  obtain ⟨a1, l2, rfl, h2⟩ := cut1 h1
  clear h1
  obtain ⟨a2, l3, rfl, h3⟩ := cut1 h2
  clear h2
  obtain ⟨a3, l4, rfl, h4⟩ := cut1 h3
  clear h3
  obtain ⟨a4, l5, rfl, h5⟩ := cut1 h4
  clear h4
  obtain ⟨a5, l6, rfl, h6⟩ := cut1 h5
  clear h5
  obtain ⟨a6, l7, rfl, h7⟩ := cut1 h6
  clear h6
  obtain ⟨a7, l8, rfl, h8⟩ := cut1 h7
  clear h7
  obtain ⟨a8, l9, rfl, h9⟩ := cut1 h8
  clear h8
  obtain ⟨a9, l10, rfl, h10⟩ := cut1 h9
  clear h9
  obtain ⟨a10, l11, rfl, h11⟩ := cut1 h10
  clear h10
  obtain ⟨a11, l12, rfl, h12⟩ := cut1 h11
  clear h11
  obtain ⟨a12, l13, rfl, h13⟩ := cut1 h12
  clear h12
  obtain ⟨a13, l14, rfl, h14⟩ := cut1 h13
  clear h13
  obtain ⟨a14, l15, rfl, h15⟩ := cut1 h14
  clear h14
  obtain rfl := cut0 h15
  clear h15
  have b0 := wv_bd 0 [a0, a1, a2, a3, a4, a5, a6, a7, a8, a9, a10, a11]; have b1 := wv_bd 1 [a0, a1, a2, a3, a4, a5, a6, a7, a8, a9, a10, a11]; have b2 := wv_bd 2 [a0, a1, a2, a3, a4, a5, a6, a7, a8, a9, a10, a11]
  have x0 : IntKind.i64.wrap (0 - wv 0 [a0, a1, a2, a3, a4, a5, a6, a7, a8, a9, a10, a11]) = 0 - wv 0 [a0, a1, a2, a3, a4, a5, a6, a7, a8, a9, a10, a11] := wr (by omega)
  have x1 : IntKind.i64.wrap (0 - wv 1 [a0, a1, a2, a3, a4, a5, a6, a7, a8, a9, a10, a11]) = 0 - wv 1 [a0, a1, a2, a3, a4, a5, a6, a7, a8, a9, a10, a11] := wr (by omega)
  have x2 : IntKind.i64.wrap (0 - wv 2 [a0, a1, a2, a3, a4, a5, a6, a7, a8, a9, a10, a11]) = 0 - wv 2 [a0, a1, a2, a3, a4, a5, a6, a7, a8, a9, a10, a11] := wr (by omega)
  have u0 := lf_un (uv_bd a12 a13 a14 0 (by decide)); have u1 := lf_un (uv_bd a12 a13 a14 1 (by decide)); have u2 := lf_un (uv_bd a12 a13 a14 2 (by decide))
  have v0 := lf_un b0; have v1 := lf_un b1; have v2 := lf_un b2
  simp only [R_rshine, valOf, vals1, valInts, val1, tupleV, resV, valsI, den, bt1, bt2, bt3, bt4, Env.at, E, fb, fi, List.getD_cons_zero, List.getD_cons_succ, List.all_cons, List.all_nil, Bool.and_true, nr', us', ss', nr2, us2, ss2, nr3, us3, ss3, Bool.and_assoc, Option.map_some, List.all_append, cmps, Wh.fe, Env.b, Env.i, Tree.map, Tree.sel, maxI, sv, se, we1, dark, ldir, uu, x0, x1, x2, u0, u1, u2, v0, v1, v2, Bool.and_self, if_true, List.take_succ_cons, List.take_zero, List.drop_succ_cons, List.drop_zero, List.cons_append, List.nil_append]
  rcases we_of (a0 := a0) (a1 := a1) (a2 := a2) (a3 := a3) (a4 := a4) (a5 := a5) (a6 := a6) (a7 := a7) (a8 := a8) (a9 := a9) (a10 := a10) (a11 := a11) with h | h | h | h
  · have L := we_lr h
    have lp := L.p
    have lb := lam_bd [uv 0 [a12, a13, a14], uv 1 [a12, a13, a14], uv 2 [a12, a13, a14], wv 0 [a0, a1, a2, a3, a4, a5, a6, a7, a8, a9, a10, a11], wv 1 [a0, a1, a2, a3, a4, a5, a6, a7, a8, a9, a10, a11], wv 2 [a0, a1, a2, a3, a4, a5, a6, a7, a8, a9, a10, a11]]
    have pw := pow_wr lb lp
    by_cases hn : ue [a12, a13, a14] = 0
    · simp [h, hn, pw] <;> (by_cases h3 : a0 = 3 <;> simp [h3])
    · have hg : (ue [a12, a13, a14] == 0) = false := by simpa using hn
      simp [h, hn, hg]
  · simp [h]
  · simp [h]
  · simp [h]

theorem c_rshine (W : World) : Flat Try.prog E W AllI 29 [.g 9, .g 3, .g 3] fun l => tupleV (resV E 45 l [.i, .i] 0 0) := flat_val (cn1_ok W) k_rshine v_rshine

noncomputable def cn2 : Cx := ⟨cn1.ty, cn1.fn, [flatCon 28 [.g 9, .g 3, .g 3] [.i, .i] 45 (rangesOk ok2), flatCon 29 [.g 9, .g 3, .g 3] [.i, .i] 45 (rangesOk ok2)] ++ cn1.con, cn1.inl, cn1.eqs⟩
theorem cn2_ok (W : World) : ∀ l, AllI l → CxOk Try.prog (E.at l) W cn2 :=
  cx_more (cn1_ok W) (List.forall_mem_cons.2 ⟨flat_conI ok2_I (c_shine W), List.forall_mem_cons.2 ⟨flat_conI ok2_I (c_rshine W), (fun _ h => by cases h)⟩⟩)
end Go.Proofs.Ytdkeiopcdajkpaa.Sx
