/- Contracts, reckoned. -/
import Derived.Test.YtdkeiopcdajkpaaN3
import Derived.KernelRfl
set_option linter.unusedVariables false
set_option linter.unusedSimpArgs false
namespace Go.Proofs.Ytdkeiopcdajkpaa.Sx
open Go.RowKit

theorem shine_cone (a1 a2 a3 a4 a5 a6 a7 a8 a9 a10 a11 a12 a13 a14 : Int) (h8 : 0 ≤ a8 ∧ a8 ≤ 1024) : ∃ (e m c : Int), 0 ≤ m ∧ (e = 0 → se [2, a1, a2, a3, a4, a5, a6, a7, a8, a9, a10, a11, a12, a13, a14] = 0 ∧ sv [2, a1, a2, a3, a4, a5, a6, a7, a8, a9, a10, a11, a12, a13, a14] = m) ∧ ∀ z, 0 ≤ z → z ≤ 1024 → se [3, a1, a2, a3, a4, a5, a6, a7, z, a9, a10, a11, a12, a13, a14] = e ∧ sv [3, a1, a2, a3, a4, a5, a6, a7, z, a9, a10, a11, a12, a13, a14] = if c < z then 0 else m := by
  have vz : ∀ z, sv [3, a1, a2, a3, a4, a5, a6, a7, z, a9, a10, a11, a12, a13, a14] = if we [3, a1, a2, a3, a4, a5, a6, a7, z, a9, a10, a11] = 0 ∧ se [3, a1, a2, a3, a4, a5, a6, a7, z, a9, a10, a11, a12, a13, a14] = 0 then (if dark [3, a1, a2, a3, a4, a5, a6, a7, z, a9, a10, a11, a12, a13, a14] then 0 else (lam [uv 0 [a12, a13, a14], uv 1 [a12, a13, a14], uv 2 [a12, a13, a14], wv 0 [3, a1, a2, a3, a4, a5, a6, a7, z, a9, a10, a11], wv 1 [3, a1, a2, a3, a4, a5, a6, a7, z, a9, a10, a11], wv 2 [3, a1, a2, a3, a4, a5, a6, a7, z, a9, a10, a11]] * a7).tdiv 1024) else 0 := fun z => rfl
  have ez : ∀ z, se [3, a1, a2, a3, a4, a5, a6, a7, z, a9, a10, a11, a12, a13, a14] = if we [3, a1, a2, a3, a4, a5, a6, a7, z, a9, a10, a11] = 3 then 0 else if we [3, a1, a2, a3, a4, a5, a6, a7, z, a9, a10, a11] = 0 then ue [a12, a13, a14] else we [3, a1, a2, a3, a4, a5, a6, a7, z, a9, a10, a11] := fun z => rfl
  have dz' : ∀ z, dark [3, a1, a2, a3, a4, a5, a6, a7, z, a9, a10, a11, a12, a13, a14] = decide (lam [uv 0 [a4, a5, a6], uv 1 [a4, a5, a6], uv 2 [a4, a5, a6], 0 - wv 0 [3, a1, a2, a3, a4, a5, a6, a7, z, a9, a10, a11], 0 - wv 1 [3, a1, a2, a3, a4, a5, a6, a7, z, a9, a10, a11], 0 - wv 2 [3, a1, a2, a3, a4, a5, a6, a7, z, a9, a10, a11]] < z) := fun z => rfl
  have vm : sv [2, a1, a2, a3, a4, a5, a6, a7, a8, a9, a10, a11, a12, a13, a14] = if we [2, a1, a2, a3, a4, a5, a6, a7, a8, a9, a10, a11] = 0 ∧ se [2, a1, a2, a3, a4, a5, a6, a7, a8, a9, a10, a11, a12, a13, a14] = 0 then (if dark [2, a1, a2, a3, a4, a5, a6, a7, a8, a9, a10, a11, a12, a13, a14] then 0 else (lam [uv 0 [a12, a13, a14], uv 1 [a12, a13, a14], uv 2 [a12, a13, a14], wv 0 [2, a1, a2, a3, a4, a5, a6, a7, a8, a9, a10, a11], wv 1 [2, a1, a2, a3, a4, a5, a6, a7, a8, a9, a10, a11], wv 2 [2, a1, a2, a3, a4, a5, a6, a7, a8, a9, a10, a11]] * a7).tdiv 1024) else 0 := rfl
  have em : se [2, a1, a2, a3, a4, a5, a6, a7, a8, a9, a10, a11, a12, a13, a14] = if we [2, a1, a2, a3, a4, a5, a6, a7, a8, a9, a10, a11] = 3 then 0 else if we [2, a1, a2, a3, a4, a5, a6, a7, a8, a9, a10, a11] = 0 then ue [a12, a13, a14] else we [2, a1, a2, a3, a4, a5, a6, a7, a8, a9, a10, a11] := rfl
  have dm : dark [2, a1, a2, a3, a4, a5, a6, a7, a8, a9, a10, a11, a12, a13, a14] = false := rfl
  have hr : ∀ z, 0 ≤ z → z ≤ 1024 → lr [3, a1, a2, a3, a4, a5, a6, a7, z] = lr [3, a1, a2, a3, a4, a5, a6, a7, 0] := fun z h0 h1 => by
    rw [Bool.eq_iff_iff, lr_iff, lr_iff]
    exact ⟨fun L => ⟨L.k, L.p, by omega, L.b1, L.b2, L.b3, L.b4, L.b5, L.b6, L.d⟩, fun L => ⟨L.k, L.p, by omega, L.b1, L.b2, L.b3, L.b4, L.b5, L.b6, L.d⟩⟩
  have hw : ∀ z, 0 ≤ z → z ≤ 1024 → we [3, a1, a2, a3, a4, a5, a6, a7, z, a9, a10, a11] = we [3, a1, a2, a3, a4, a5, a6, a7, 0, a9, a10, a11] := fun z h0 h1 => by
    simp only [we, List.take_succ_cons, List.take_zero, List.drop_succ_cons, List.drop_zero, hr z h0 h1, List.getD_cons_zero, lway, List.getD_cons_succ]
  have hv : ∀ k z, 0 ≤ z → z ≤ 1024 → wv k [3, a1, a2, a3, a4, a5, a6, a7, z, a9, a10, a11] = wv k [3, a1, a2, a3, a4, a5, a6, a7, 0, a9, a10, a11] := fun k z h0 h1 => by
    simp only [wv, hw z h0 h1, lway, ldir, List.getD_cons_zero, List.getD_cons_succ]
  have hr2 : lr [3, a1, a2, a3, a4, a5, a6, a7, 0] = true → lr [2, a1, a2, a3, a4, a5, a6, a7, a8] = true := fun h => by
    have L := lr_iff.1 h
    exact lr_iff.2 ⟨by omega, L.p, h8, L.b1, L.b2, L.b3, L.b4, L.b5, L.b6, .inl rfl⟩
  have hw2 : lr [3, a1, a2, a3, a4, a5, a6, a7, 0] = true → we [2, a1, a2, a3, a4, a5, a6, a7, a8, a9, a10, a11] = we [3, a1, a2, a3, a4, a5, a6, a7, 0, a9, a10, a11] := fun h => by
    simp only [we, List.take_succ_cons, List.take_zero, List.drop_succ_cons, List.drop_zero, h, hr2 h, List.getD_cons_zero, lway, List.getD_cons_succ, show ¬ (3 : Int) = 1 by decide, show ¬ (2 : Int) = 1 by decide, if_true, if_false]
  have hv2 : ∀ k, lr [3, a1, a2, a3, a4, a5, a6, a7, 0] = true → wv k [2, a1, a2, a3, a4, a5, a6, a7, a8, a9, a10, a11] = wv k [3, a1, a2, a3, a4, a5, a6, a7, 0, a9, a10, a11] := fun k h => by
    simp only [wv, hw2 h, lway, ldir, List.getD_cons_zero, List.getD_cons_succ, show ¬ (3 : Int) = 1 by decide, show ¬ (2 : Int) = 1 by decide, if_false]
  have lb := lam_bd [uv 0 [a12, a13, a14], uv 1 [a12, a13, a14], uv 2 [a12, a13, a14], wv 0 [3, a1, a2, a3, a4, a5, a6, a7, 0, a9, a10, a11], wv 1 [3, a1, a2, a3, a4, a5, a6, a7, 0, a9, a10, a11], wv 2 [3, a1, a2, a3, a4, a5, a6, a7, 0, a9, a10, a11]]
  by_cases hc : we [3, a1, a2, a3, a4, a5, a6, a7, 0, a9, a10, a11] = 0 ∧ ue [a12, a13, a14] = 0
  · have L := we_lr hc.1
    have lO := lr_iff.2 L
    have h0 := Int.mul_nonneg lb.1 L.p.1
    refine ⟨0, (lam [uv 0 [a12, a13, a14], uv 1 [a12, a13, a14], uv 2 [a12, a13, a14], wv 0 [3, a1, a2, a3, a4, a5, a6, a7, 0, a9, a10, a11], wv 1 [3, a1, a2, a3, a4, a5, a6, a7, 0, a9, a10, a11], wv 2 [3, a1, a2, a3, a4, a5, a6, a7, 0, a9, a10, a11]] * a7).tdiv 1024, lam [uv 0 [a4, a5, a6], uv 1 [a4, a5, a6], uv 2 [a4, a5, a6], 0 - wv 0 [3, a1, a2, a3, a4, a5, a6, a7, 0, a9, a10, a11], 0 - wv 1 [3, a1, a2, a3, a4, a5, a6, a7, 0, a9, a10, a11], 0 - wv 2 [3, a1, a2, a3, a4, a5, a6, a7, 0, a9, a10, a11]], ?_, fun _ => ?_, fun z z0 z1 => ?_⟩
    · rw [Int.tdiv_eq_ediv_of_nonneg h0]; omega
    · have e : se [2, a1, a2, a3, a4, a5, a6, a7, a8, a9, a10, a11, a12, a13, a14] = 0 := by rw [em, hw2 lO, hc.1, hc.2]; rfl
      refine ⟨e, ?_⟩
      rw [vm, e, hw2 lO, dm, hv2 0 lO, hv2 1 lO, hv2 2 lO, hc.1]; rfl
    · have e : se [3, a1, a2, a3, a4, a5, a6, a7, z, a9, a10, a11, a12, a13, a14] = 0 := by rw [ez z, hw z z0 z1, hc.1, hc.2]; rfl
      refine ⟨e, ?_⟩
      rw [vz z, e, dz' z, hw z z0 z1, hv 0 z z0 z1, hv 1 z z0 z1, hv 2 z z0 z1, hc.1]
      simp
  · refine ⟨if we [3, a1, a2, a3, a4, a5, a6, a7, 0, a9, a10, a11] = 3 then 0 else if we [3, a1, a2, a3, a4, a5, a6, a7, 0, a9, a10, a11] = 0 then ue [a12, a13, a14] else we [3, a1, a2, a3, a4, a5, a6, a7, 0, a9, a10, a11], 0, 0, by omega, fun he => ?_, fun z z0 z1 => ⟨by rw [ez z, hw z z0 z1], ?_⟩⟩
    · have h3 : we [3, a1, a2, a3, a4, a5, a6, a7, 0, a9, a10, a11] = 3 := by
        split at he
        · assumption
        · split at he
          · rename_i hz; exact absurd ⟨hz, he⟩ hc
          · rename_i hz; exact absurd he hz
      have lO : lr [3, a1, a2, a3, a4, a5, a6, a7, 0] = true := by
        unfold we at h3
        split at h3
        · rename_i h1; exact h1
        · cases h3
      have e : se [2, a1, a2, a3, a4, a5, a6, a7, a8, a9, a10, a11, a12, a13, a14] = 0 := by rw [em, hw2 lO, h3]; rfl
      refine ⟨e, ?_⟩
      rw [vm, hw2 lO, h3]; rfl
    · rw [vz z, ez z, hw z z0 z1, if_neg]
      · split <;> rfl
      · rintro ⟨p, q⟩
        rw [p] at q
        exact hc ⟨p, by simpa using q⟩

def R_LightSpot : AV := (.bool (.ite (.ite (.eq (.var 0) (.lit 3)) (.ite (.lt (.var 15) (.lit 0)) (.blit true) (.ite (.lt (.var 8) (.var 15)) (.blit true) (.lt (.lit 1024) (.var 8)))) (.blit true)) (.app 20 0 .nil) (.ite (.eq (.app 45 1 (.cons (.var 0) (.cons (.var 1) (.cons (.var 2) (.cons (.var 3) (.cons (.var 4) (.cons (.var 5) (.cons (.var 6) (.cons (.var 7) (.cons (.var 8) (.cons (.var 9) (.cons (.var 10) (.cons (.var 11) (.cons (.var 12) (.cons (.var 13) (.cons (.var 14) .nil)))))))))))))))) (.lit 0)) (.ite (.app 20 0 .nil) (.ite (.eq (.app 45 1 (.cons (.var 0) (.cons (.var 1) (.cons (.var 2) (.cons (.var 3) (.cons (.var 4) (.cons (.var 5) (.cons (.var 6) (.cons (.var 7) (.cons (.var 15) (.cons (.var 9) (.cons (.var 10) (.cons (.var 11) (.cons (.var 12) (.cons (.var 13) (.cons (.var 14) .nil)))))))))))))))) (.lit 0)) (.ite (.eq (.app 45 1 (.cons (.lit 2) (.cons (.var 1) (.cons (.var 2) (.cons (.var 3) (.cons (.var 4) (.cons (.var 5) (.cons (.var 6) (.cons (.var 7) (.cons (.var 8) (.cons (.var 9) (.cons (.var 10) (.cons (.var 11) (.cons (.var 12) (.cons (.var 13) (.cons (.var 14) .nil)))))))))))))))) (.lit 0)) (.ite (.le (.app 45 0 (.cons (.var 0) (.cons (.var 1) (.cons (.var 2) (.cons (.var 3) (.cons (.var 4) (.cons (.var 5) (.cons (.var 6) (.cons (.var 7) (.cons (.var 8) (.cons (.var 9) (.cons (.var 10) (.cons (.var 11) (.cons (.var 12) (.cons (.var 13) (.cons (.var 14) .nil)))))))))))))))) (.app 45 0 (.cons (.var 0) (.cons (.var 1) (.cons (.var 2) (.cons (.var 3) (.cons (.var 4) (.cons (.var 5) (.cons (.var 6) (.cons (.var 7) (.cons (.var 15) (.cons (.var 9) (.cons (.var 10) (.cons (.var 11) (.cons (.var 12) (.cons (.var 13) (.cons (.var 14) .nil))))))))))))))))) (.ite (.le (.app 45 0 (.cons (.var 0) (.cons (.var 1) (.cons (.var 2) (.cons (.var 3) (.cons (.var 4) (.cons (.var 5) (.cons (.var 6) (.cons (.var 7) (.cons (.var 15) (.cons (.var 9) (.cons (.var 10) (.cons (.var 11) (.cons (.var 12) (.cons (.var 13) (.cons (.var 14) .nil)))))))))))))))) (.app 45 0 (.cons (.lit 2) (.cons (.var 1) (.cons (.var 2) (.cons (.var 3) (.cons (.var 4) (.cons (.var 5) (.cons (.var 6) (.cons (.var 7) (.cons (.var 8) (.cons (.var 9) (.cons (.var 10) (.cons (.var 11) (.cons (.var 12) (.cons (.var 13) (.cons (.var 14) .nil))))))))))))))))) (.ite (.eq (.app 45 0 (.cons (.var 0) (.cons (.var 1) (.cons (.var 2) (.cons (.var 3) (.cons (.var 4) (.cons (.var 5) (.cons (.var 6) (.cons (.var 7) (.cons (.var 8) (.cons (.var 9) (.cons (.var 10) (.cons (.var 11) (.cons (.var 12) (.cons (.var 13) (.cons (.var 14) .nil)))))))))))))))) (.lit 0)) (.ite (.eq (.app 45 0 (.cons (.var 0) (.cons (.var 1) (.cons (.var 2) (.cons (.var 3) (.cons (.var 4) (.cons (.var 5) (.cons (.var 6) (.cons (.var 7) (.cons (.var 15) (.cons (.var 9) (.cons (.var 10) (.cons (.var 11) (.cons (.var 12) (.cons (.var 13) (.cons (.var 14) .nil)))))))))))))))) (.lit 0)) (.blit true) (.eq (.app 45 0 (.cons (.var 0) (.cons (.var 1) (.cons (.var 2) (.cons (.var 3) (.cons (.var 4) (.cons (.var 5) (.cons (.var 6) (.cons (.var 7) (.cons (.var 15) (.cons (.var 9) (.cons (.var 10) (.cons (.var 11) (.cons (.var 12) (.cons (.var 13) (.cons (.var 14) .nil)))))))))))))))) (.app 45 0 (.cons (.lit 2) (.cons (.var 1) (.cons (.var 2) (.cons (.var 3) (.cons (.var 4) (.cons (.var 5) (.cons (.var 6) (.cons (.var 7) (.cons (.var 8) (.cons (.var 9) (.cons (.var 10) (.cons (.var 11) (.cons (.var 12) (.cons (.var 13) (.cons (.var 14) .nil)))))))))))))))))) (.ite (.eq (.app 45 0 (.cons (.var 0) (.cons (.var 1) (.cons (.var 2) (.cons (.var 3) (.cons (.var 4) (.cons (.var 5) (.cons (.var 6) (.cons (.var 7) (.cons (.var 8) (.cons (.var 9) (.cons (.var 10) (.cons (.var 11) (.cons (.var 12) (.cons (.var 13) (.cons (.var 14) .nil)))))))))))))))) (.app 45 0 (.cons (.lit 2) (.cons (.var 1) (.cons (.var 2) (.cons (.var 3) (.cons (.var 4) (.cons (.var 5) (.cons (.var 6) (.cons (.var 7) (.cons (.var 8) (.cons (.var 9) (.cons (.var 10) (.cons (.var 11) (.cons (.var 12) (.cons (.var 13) (.cons (.var 14) .nil))))))))))))))))) (.ite (.eq (.app 45 0 (.cons (.var 0) (.cons (.var 1) (.cons (.var 2) (.cons (.var 3) (.cons (.var 4) (.cons (.var 5) (.cons (.var 6) (.cons (.var 7) (.cons (.var 15) (.cons (.var 9) (.cons (.var 10) (.cons (.var 11) (.cons (.var 12) (.cons (.var 13) (.cons (.var 14) .nil)))))))))))))))) (.lit 0)) (.blit true) (.eq (.app 45 0 (.cons (.var 0) (.cons (.var 1) (.cons (.var 2) (.cons (.var 3) (.cons (.var 4) (.cons (.var 5) (.cons (.var 6) (.cons (.var 7) (.cons (.var 15) (.cons (.var 9) (.cons (.var 10) (.cons (.var 11) (.cons (.var 12) (.cons (.var 13) (.cons (.var 14) .nil)))))))))))))))) (.app 45 0 (.cons (.lit 2) (.cons (.var 1) (.cons (.var 2) (.cons (.var 3) (.cons (.var 4) (.cons (.var 5) (.cons (.var 6) (.cons (.var 7) (.cons (.var 8) (.cons (.var 9) (.cons (.var 10) (.cons (.var 11) (.cons (.var 12) (.cons (.var 13) (.cons (.var 14) .nil)))))))))))))))))) (.blit false))) (.blit false)) (.blit false)) (.blit false)) (.blit false)) (.blit false)) (.ite (.app 20 0 .nil) (.eq (.app 45 1 (.cons (.var 0) (.cons (.var 1) (.cons (.var 2) (.cons (.var 3) (.cons (.var 4) (.cons (.var 5) (.cons (.var 6) (.cons (.var 7) (.cons (.var 15) (.cons (.var 9) (.cons (.var 10) (.cons (.var 11) (.cons (.var 12) (.cons (.var 13) (.cons (.var 14) .nil)))))))))))))))) (.app 45 1 (.cons (.var 0) (.cons (.var 1) (.cons (.var 2) (.cons (.var 3) (.cons (.var 4) (.cons (.var 5) (.cons (.var 6) (.cons (.var 7) (.cons (.var 8) (.cons (.var 9) (.cons (.var 10) (.cons (.var 11) (.cons (.var 12) (.cons (.var 13) (.cons (.var 14) .nil))))))))))))))))) (.blit false)))))
theorem k_LightSpot : acall cn3 20 false 10 [] (argsG [.g 9, .g 3, .g 3, .i] 0 0) (heapG [.g 9, .g 3, .g 3, .i] 0) = .leaf (R_LightSpot, heapG [.g 9, .g 3, .g 3, .i] 0) := by kernel_rfl
set_option maxHeartbeats 4000000 in
set_option maxRecDepth 20000 in
theorem v_LightSpot : ∀ l : List Int, l.length = lenSh [.g 9, .g 3, .g 3, .i] → AllI l → valOf (E.at l) R_LightSpot = some (tupleV (resV E 20 l [.b] 0 0)) := by
  intro l hl hG
  have h0 : l.length = 16 := hl
  clear hl
  obtain ⟨a0, l1, rfl, h1⟩ := cut1 h0
  clear h0
  obtain ⟨a1, l2, rfl, h2⟩ := cut1 h1
  clear h1
  obtain ⟨a2, l3, rfl, h3⟩ := cut1 h2
  clear h2
  obtain ⟨a3, l4, rfl, h4⟩ := cut1 h3
  clear h3
  obtain ⟨a4, l5, rfl, h5⟩ := cut1 h4
  clear h4
  obtain ⟨a5, l6, rfl, h6⟩ := cut1 h5
  clear h5
  obtain ⟨a6, l7, rfl, h7⟩ := cut1 h6
  clear h6
  obtain ⟨a7, l8, rfl, h8⟩ := cut1 h7
  clear h7
  obtain ⟨a8, l9, rfl, h9⟩ := cut1 h8
  clear h8
  obtain ⟨a9, l10, rfl, h10⟩ := cut1 h9
  clear h9
  obtain ⟨a10, l11, rfl, h11⟩ := cut1 h10
  clear h10
  obtain ⟨a11, l12, rfl, h12⟩ := cut1 h11
  clear h11
  obtain ⟨a12, l13, rfl, h13⟩ := cut1 h12
  clear h12
  obtain ⟨a13, l14, rfl, h14⟩ := cut1 h13
  clear h13
  obtain ⟨a14, l15, rfl, h15⟩ := cut1 h14
  clear h14
  obtain ⟨a15, l16, rfl, h16⟩ := cut1 h15
  clear h15
  obtain rfl := cut0 h16
  clear h16
  simp only [R_LightSpot, valOf, vals1, valInts, val1, tupleV, resV, valsI, den, bt1, bt2, bt3, bt4, Env.at, E, fb, fi, List.getD_cons_zero, List.getD_cons_succ, List.all_cons, List.all_nil, Bool.and_true, nr', us', ss', nr2, us2, ss2, nr3, us3, ss3, Bool.and_assoc, Option.map_some, List.all_append, cmps, Wh.fe, Env.b, Env.i, Tree.map, Tree.sel, maxI]
  by_cases hp : ¬ a0 = 3 ∨ a15 < 0 ∨ a8 < a15 ∨ 1024 < a8
  · have gb : (!(a0 == 3) || (decide (a15 < 0) || (decide (a8 < a15) || decide (1024 < a8)))) = true := by simpa using hp
    simp only [gb, Bool.true_or]
  have k : a0 = 3 := by omega
  subst k
  have g1 : decide (a15 < 0) = false := by simp; omega
  have g2 : decide (a8 < a15) = false := by simp; omega
  have g3 : decide (1024 < a8) = false := by simp; omega
  obtain ⟨e, m, c, m0, h2, H⟩ := shine_cone a1 a2 a3 a4 a5 a6 a7 a8 a9 a10 a11 a12 a13 a14 (by omega)
  have h1 := H a8 (by omega) (by omega)
  have h3 := H a15 (by omega) (by omega)
  simp only [g1, g2, g3, h1.1, h1.2, h3.1, h3.2]
  by_cases he : e = 0
  · have h2' := h2 he
    simp only [h2'.1, h2'.2, he]
    by_cases p : c < a15
    · have q : c < a8 := by omega
      simp [p, q, m0]
    · by_cases q : c < a8
      · simp [p, q, m0]
      · simp [p, q]
  · have hg : (e == 0) = false := by simpa using he
    simp [hg]

theorem c_LightSpot (W : World) : Flat Try.prog E W AllI 10 [.g 9, .g 3, .g 3, .i] fun l => tupleV (resV E 20 l [.b] 0 0) := flat_val (cn3_ok W) k_LightSpot v_LightSpot

end Go.Proofs.Ytdkeiopcdajkpaa.Sx
