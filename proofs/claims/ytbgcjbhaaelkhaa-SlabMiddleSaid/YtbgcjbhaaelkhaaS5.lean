/- Contracts, reckoned. -/
import Derived.Test.YtbgcjbhaaelkhaaS4
import Derived.Test.YtbgcjbhaaelkhaaFw
import Derived.Test.YtbgcjbhaaelkhaaSm
import Derived.KernelRfl
set_option linter.unusedVariables false
set_option linter.unusedSimpArgs false
namespace Go.Proofs.Ytbgcjbhaaelkhaa.Sx
open Go.RowKit


def R_SlabMiddle : AV := (.bool (.ite (.ite (.lt (.var 3) (.lit (-1000))) (.blit true) (.ite (.lt (.lit 1000) (.var 3)) (.blit true) (.ite (.lt (.var 4) (.lit (-1000))) (.blit true) (.ite (.lt (.lit 1000) (.var 4)) (.blit true) (.ite (.lt (.var 5) (.lit (-1000))) (.blit true) (.ite (.lt (.lit 1000) (.var 5)) (.blit true) (.no (.ite (.app 53 0 (.cons (.var 6) (.cons (.var 7) (.cons (.var 8) (.cons (.var 9) (.cons (.var 10) (.cons (.var 11) .nil))))))) (.ite (.ite (.lt (.var 0) (.var 6)) (.blit true) (.lt (.var 9) (.var 0))) (.blit false) (.ite (.ite (.lt (.var 1) (.var 7)) (.blit true) (.lt (.var 10) (.var 1))) (.blit false) (.no (.ite (.lt (.var 2) (.var 8)) (.blit true) (.lt (.var 11) (.var 2)))))) (.blit false))))))))) (.app 20 0 .nil) (.ite (.app 20 0 .nil) (.ite (.eq (.app 54 0 (.cons (.sub (.var 0) (.var 3)) (.cons (.sub (.var 1) (.var 4)) (.cons (.sub (.var 2) (.var 5)) (.cons (.add (.var 0) (.var 3)) (.cons (.add (.var 1) (.var 4)) (.cons (.add (.var 2) (.var 5)) (.cons (.var 6) (.cons (.var 7) (.cons (.var 8) (.cons (.var 9) (.cons (.var 10) (.cons (.var 11) .nil))))))))))))) (.lit 0)) (.ite (.app 54 0 (.cons (.sub (.var 0) (.var 3)) (.cons (.sub (.var 1) (.var 4)) (.cons (.sub (.var 2) (.var 5)) (.cons (.add (.var 0) (.var 3)) (.cons (.add (.var 1) (.var 4)) (.cons (.add (.var 2) (.var 5)) (.cons (.var 6) (.cons (.var 7) (.cons (.var 8) (.cons (.var 9) (.cons (.var 10) (.cons (.var 11) .nil))))))))))))) (.ite (.eq (.app 54 0 (.cons (.add (.var 0) (.mul (.lit 3) (.var 3))) (.cons (.add (.var 1) (.mul (.lit 3) (.var 4))) (.cons (.add (.var 2) (.mul (.lit 3) (.var 5))) (.cons (.sub (.var 0) (.var 3)) (.cons (.sub (.var 1) (.var 4)) (.cons (.sub (.var 2) (.var 5)) (.cons (.var 6) (.cons (.var 7) (.cons (.var 8) (.cons (.var 9) (.cons (.var 10) (.cons (.var 11) .nil))))))))))))) (.lit 0)) (.app 54 0 (.cons (.add (.var 0) (.mul (.lit 3) (.var 3))) (.cons (.add (.var 1) (.mul (.lit 3) (.var 4))) (.cons (.add (.var 2) (.mul (.lit 3) (.var 5))) (.cons (.sub (.var 0) (.var 3)) (.cons (.sub (.var 1) (.var 4)) (.cons (.sub (.var 2) (.var 5)) (.cons (.var 6) (.cons (.var 7) (.cons (.var 8) (.cons (.var 9) (.cons (.var 10) (.cons (.var 11) .nil))))))))))))) (.blit true)) (.blit false)) (.ite (.eq (.app 54 0 (.cons (.add (.var 0) (.mul (.lit 3) (.var 3))) (.cons (.add (.var 1) (.mul (.lit 3) (.var 4))) (.cons (.add (.var 2) (.mul (.lit 3) (.var 5))) (.cons (.sub (.var 0) (.var 3)) (.cons (.sub (.var 1) (.var 4)) (.cons (.sub (.var 2) (.var 5)) (.cons (.var 6) (.cons (.var 7) (.cons (.var 8) (.cons (.var 9) (.cons (.var 10) (.cons (.var 11) .nil))))))))))))) (.lit 0)) (.app 54 0 (.cons (.add (.var 0) (.mul (.lit 3) (.var 3))) (.cons (.add (.var 1) (.mul (.lit 3) (.var 4))) (.cons (.add (.var 2) (.mul (.lit 3) (.var 5))) (.cons (.sub (.var 0) (.var 3)) (.cons (.sub (.var 1) (.var 4)) (.cons (.sub (.var 2) (.var 5)) (.cons (.var 6) (.cons (.var 7) (.cons (.var 8) (.cons (.var 9) (.cons (.var 10) (.cons (.var 11) .nil))))))))))))) (.blit true))) (.blit false))))
theorem k_SlabMiddle : acall cs4 20 false 13 [] (argsG [.g 3, .g 3, .g 6] 0 0) (heapG [.g 3, .g 3, .g 6] 0) = .leaf (R_SlabMiddle, heapG [.g 3, .g 3, .g 6] 0) := by kernel_rfl
set_option maxHeartbeats 4000000 in
set_option maxRecDepth 20000 in
theorem v_SlabMiddle : ∀ l : List Int, l.length = lenSh [.g 3, .g 3, .g 6] → Any l → valOf (E.at l) R_SlabMiddle = some (tupleV (resV E 20 l [.b] 0 0)) := by
  intro l hl hG
  have h0 : l.length = 12 := hl
  clear hl
  obtain ⟨a0, l1, rfl, h1⟩ := cut1 h0
  clear h0
  obtain ⟨a1, l2, rfl, h2⟩ := cut1 h1
  clear h1
  obtain ⟨a2, l3, rfl, h3⟩ := cut1 h2
  clear h2
  obtain ⟨a3, l4, rfl, h4⟩ := cut1 h3
  clear h3
  obtain ⟨a4, l5, rfl, h5⟩ := cut1 h4
  clear h4
  obtain ⟨a5, l6, rfl, h6⟩ := cut1 h5
  clear h5
  obtain ⟨a6, l7, rfl, h7⟩ := cut1 h6
  clear h6
  obtain ⟨a7, l8, rfl, h8⟩ := cut1 h7
  clear h7
  obtain ⟨a8, l9, rfl, h9⟩ := cut1 h8
  clear h8
  obtain ⟨a9, l10, rfl, h10⟩ := cut1 h9
  clear h9
  obtain ⟨a10, l11, rfl, h11⟩ := cut1 h10
  clear h10
  obtain ⟨a11, l12, rfl, h12⟩ := cut1 h11
  clear h11
  obtain rfl := cut0 h12
  clear h12
  simp only [R_SlabMiddle, valOf, vals1, valInts, val1, tupleV, resV, valsI, den, bt1, bt2, bt3, bt4, Env.at, E, fb, fi, List.getD_cons_zero, List.getD_cons_succ, List.all_cons, List.all_nil, Bool.and_true, nr', us', ss', nr2, us2, ss2, nr3, us3, ss3, Bool.and_assoc, Option.map_some, List.all_append, List.take_succ_cons, List.take_zero, List.drop_succ_cons, List.drop_zero]
  by_cases g3 : a3 < -1000
  · simp [g3]
  by_cases k3 : 1000 < a3
  · simp [k3]
  by_cases g4 : a4 < -1000
  · simp [g4]
  by_cases k4 : 1000 < a4
  · simp [k4]
  by_cases g5 : a5 < -1000
  · simp [g5]
  by_cases k5 : 1000 < a5
  · simp [k5]
  cases k : sis [a6, a7, a8, a9, a10, a11]
  · simp
  by_cases i0 : a0 < a6
  · simp [i0]
  by_cases j0 : a9 < a0
  · simp [j0]
  by_cases i1 : a1 < a7
  · simp [i1]
  by_cases j1 : a10 < a1
  · simp [j1]
  by_cases i2 : a2 < a8
  · simp [i2]
  by_cases j2 : a11 < a2
  · simp [j2]
  have b := sis_iff.1 k
  have b0 := b.sl0; have b1 := b.sl1; have b2 := b.sl2; have b3 := b.sh0; have b4 := b.sh1; have b5 := b.sh2
  unfold Sm at b0 b1 b2 b3 b4 b5
  have u0 : IntKind.i64.wrap (a0 - a3) = a0 - a3 := wr (by omega)
  have v0 : IntKind.i64.wrap (a0 + a3) = a0 + a3 := wr (by omega)
  have x0 : IntKind.i64.wrap (3 * a3) = 3 * a3 := wr (by omega)
  have y0 : IntKind.i64.wrap (a0 + 3 * a3) = a0 + 3 * a3 := wr (by omega)
  have u1 : IntKind.i64.wrap (a1 - a4) = a1 - a4 := wr (by omega)
  have v1 : IntKind.i64.wrap (a1 + a4) = a1 + a4 := wr (by omega)
  have x1 : IntKind.i64.wrap (3 * a4) = 3 * a4 := wr (by omega)
  have y1 : IntKind.i64.wrap (a1 + 3 * a4) = a1 + 3 * a4 := wr (by omega)
  have u2 : IntKind.i64.wrap (a2 - a5) = a2 - a5 := wr (by omega)
  have v2 : IntKind.i64.wrap (a2 + a5) = a2 + a5 := wr (by omega)
  have x2 : IntKind.i64.wrap (3 * a5) = 3 * a5 := wr (by omega)
  have y2 : IntKind.i64.wrap (a2 + 3 * a5) = a2 + 3 * a5 := wr (by omega)
  simp only [u0, u1, u2, v0, v1, v2, x0, x1, x2, y0, y1, y2]
  have m0 : (ss (a0 - a3) && (ss (a1 - a4) && (ss (a2 - a5) && (ss (a0 + a3) && (ss (a1 + a4) && (ss (a2 + a5))))))) = true → meetB [a0 - a3, a1 - a4, a2 - a5, a0 + a3, a1 + a4, a2 + a5, a6, a7, a8, a9, a10, a11] = true := fun h => by
    simp only [Bool.and_eq_true, sm_iff] at h
    obtain ⟨s0, s1, s2, s3, s4, s5⟩ := h
    exact (meet_iff s0 s1 s2 s3 s4 s5 b.sl0 b.sl1 b.sl2 b.sh0 b.sh1 b.sh2).2 ⟨1, 2, by decide, by decide, by decide, (at_mid (by omega)).1, (at_mid (by omega)).1, (at_mid (by omega)).1⟩
  have t0 : ∀ X : Bool, (ss (a0 - a3) && (ss (a1 - a4) && (ss (a2 - a5) && (ss (a0 + a3) && (ss (a1 + a4) && (ss (a2 + a5) && (X))))))) = ((ss (a0 - a3) && (ss (a1 - a4) && (ss (a2 - a5) && (ss (a0 + a3) && (ss (a1 + a4) && (ss (a2 + a5))))))) && X) := fun X => by simp only [Bool.and_assoc]
  have m1 : (ss (a0 + 3 * a3) && (ss (a1 + 3 * a4) && (ss (a2 + 3 * a5) && (ss (a0 - a3) && (ss (a1 - a4) && (ss (a2 - a5))))))) = true → meetB [a0 + 3 * a3, a1 + 3 * a4, a2 + 3 * a5, a0 - a3, a1 - a4, a2 - a5, a6, a7, a8, a9, a10, a11] = true := fun h => by
    simp only [Bool.and_eq_true, sm_iff] at h
    obtain ⟨s0, s1, s2, s3, s4, s5⟩ := h
    exact (meet_iff s0 s1 s2 s3 s4 s5 b.sl0 b.sl1 b.sl2 b.sh0 b.sh1 b.sh2).2 ⟨3, 4, by decide, by decide, by decide, (at_mid (by omega)).2, (at_mid (by omega)).2, (at_mid (by omega)).2⟩
  have t1 : ∀ X : Bool, (ss (a0 + 3 * a3) && (ss (a1 + 3 * a4) && (ss (a2 + 3 * a5) && (ss (a0 - a3) && (ss (a1 - a4) && (ss (a2 - a5) && (X))))))) = ((ss (a0 + 3 * a3) && (ss (a1 + 3 * a4) && (ss (a2 + 3 * a5) && (ss (a0 - a3) && (ss (a1 - a4) && (ss (a2 - a5))))))) && X) := fun X => by simp only [Bool.and_assoc]
  simp only [t0, t1]
  generalize (ss (a0 - a3) && (ss (a1 - a4) && (ss (a2 - a5) && (ss (a0 + a3) && (ss (a1 + a4) && (ss (a2 + a5))))))) = c0 at *
  generalize (ss (a0 + 3 * a3) && (ss (a1 + 3 * a4) && (ss (a2 + 3 * a5) && (ss (a0 - a3) && (ss (a1 - a4) && (ss (a2 - a5))))))) = c1 at *
  generalize meetB [a0 - a3, a1 - a4, a2 - a5, a0 + a3, a1 + a4, a2 + a5, a6, a7, a8, a9, a10, a11] = z0 at *
  generalize meetB [a0 + 3 * a3, a1 + 3 * a4, a2 + 3 * a5, a0 - a3, a1 - a4, a2 - a5, a6, a7, a8, a9, a10, a11] = z1 at *
  simp only [Bool.true_and, g3, g4, g5, k3, k4, k5, i0, i1, i2, j0, j1, j2, decide_false, Bool.false_or, Bool.not_false, Bool.not_true, Bool.or_false]
  cases c0
  · cases c1
    · rfl
    · rw [m1 rfl]; rfl
  · rw [m0 rfl]
    cases c1
    · rfl
    · rw [m1 rfl]; rfl

theorem c_SlabMiddle (W : World) : Flat Try.prog E W Any 13 [.g 3, .g 3, .g 6] fun l => tupleV (resV E 20 l [.b] 0 0) := flat_val (cs4_ok W) k_SlabMiddle v_SlabMiddle

end Go.Proofs.Ytbgcjbhaaelkhaa.Sx
