/- Contracts, reckoned. -/
import Derived.Test.YtfpnkcmplmkghaaMo2
import Derived.Test.YtfpnkcmplmkghaaMz
import Derived.KernelRfl
set_option linter.unusedVariables false
set_option linter.unusedSimpArgs false
namespace Go.Proofs.Ytfpnkcmplmkghaa.Sx
open Go.RowKit


def S0_MeetSquare : SE := (.cons (.var 3) (.cons (.var 4) (.cons (.var 5) (.cons (.var 6) (.cons (.var 7) (.cons (.var 8) .nil))))))
def S1_MeetSquare : SE := (.app 61 0 (.cons (.var 0) (.cons (.var 1) (.cons (.var 2) S0_MeetSquare))))
def S2_MeetSquare : SE := (.app 61 0 (.cons (.var 0) (.cons (.var 1) (.cons (.add (.var 2) (.lit 1)) S0_MeetSquare))))
def S3_MeetSquare : SE := (.ite (.eq (.app 57 1 (.cons (.var 9) (.cons (.var 10) S0_MeetSquare))) (.lit 0)) (.ite (.lt (.lit 0) (.app 57 0 (.cons (.var 9) (.cons (.var 10) S0_MeetSquare)))) S1_MeetSquare S1_MeetSquare) S1_MeetSquare)
def R_MeetSquare : AV := (.bool (.ite (.eq S1_MeetSquare (.lit 0)) (.ite (.ite (.eq (.app 57 1 (.cons (.var 9) (.cons (.var 10) S0_MeetSquare))) (.lit 0)) (.ite (.lt (.lit 0) (.app 57 0 (.cons (.var 9) (.cons (.var 10) S0_MeetSquare)))) (.no S1_MeetSquare) (.blit false)) (.blit false)) (.ite (.ite (.le (.var 0) (.var 9)) (.ite (.le (.var 1) (.var 10)) (.ite (.le (.sub (.var 9) (.var 2)) (.var 0)) (.le (.sub (.var 10) (.var 2)) (.var 1)) (.blit false)) (.blit false)) (.blit false)) (.blit false) (.ite (.app 20 0 .nil) (.ite (.eq S2_MeetSquare (.lit 0)) (.ite (.ite (.le (.var 0) (.var 9)) (.ite (.le (.var 1) (.var 10)) (.ite (.le (.sub (.var 9) (.var 2)) (.var 0)) S3_MeetSquare S3_MeetSquare) S3_MeetSquare) S3_MeetSquare) S2_MeetSquare (.blit true)) (.blit true)) (.blit false))) (.ite (.app 20 0 .nil) (.ite (.eq S2_MeetSquare (.lit 0)) (.ite S3_MeetSquare S2_MeetSquare (.blit true)) (.blit true)) (.blit false))) (.ite (.app 20 0 .nil) (.no S1_MeetSquare) (.blit false))))
theorem k_MeetSquare : acall cm5 20 false 9 [] (argsG [.g 2, .i, .g 6, .g 2] 0 0) (heapG [.g 2, .i, .g 6, .g 2] 0) = .leaf (R_MeetSquare, heapG [.g 2, .i, .g 6, .g 2] 0) := by kernel_rfl
set_option maxHeartbeats 4000000 in
set_option maxRecDepth 20000 in
theorem v_MeetSquare : ∀ l : List Int, l.length = lenSh [.g 2, .i, .g 6, .g 2] → Any l → valOf (E.at l) R_MeetSquare = some (tupleV (resV E 20 l [.b] 0 0)) := by
  intro l hl hG
  have h0 : l.length = 11 := hl
  clear hl
  obtain ⟨a0, l1, rfl, h1⟩ := cut1 h0
  clear h0
  obtain ⟨a1, l2, rfl, h2⟩ := cut1 h1
  clear h1
  obtain ⟨a2, l3, rfl, h3⟩ := cut1 h2
  clear h2
  obtain ⟨a3, l4, rfl, h4⟩ := cut1 h3
  clear h3
  obtain ⟨a4, l5, rfl, h5⟩ := cut1 h4
  clear h4
  obtain ⟨a5, l6, rfl, h6⟩ := cut1 h5
  clear h5
  obtain ⟨a6, l7, rfl, h7⟩ := cut1 h6
  clear h6
  obtain ⟨a7, l8, rfl, h8⟩ := cut1 h7
  clear h7
  obtain ⟨a8, l9, rfl, h9⟩ := cut1 h8
  clear h8
  obtain ⟨a9, l10, rfl, h10⟩ := cut1 h9
  clear h9
  obtain ⟨a10, l11, rfl, h11⟩ := cut1 h10
  clear h10
  obtain rfl := cut0 h11
  clear h11
  simp only [R_MeetSquare, S0_MeetSquare, S1_MeetSquare, S2_MeetSquare, S3_MeetSquare, valOf, val1, tupleV, resV, den, Env.at, E, List.getD_cons_zero, List.getD_cons_succ, F570, F571, F59b, F59i, F60b, F60i, F61b, F61i, show ∀ l, fb 56 0 l = rgt l from fun _ => rfl, show ∀ k l, fb 20 k l = true from fun _ _ => rfl, bt1, bt2, bt3, bt4]
  cases hg : sqg [a0, a1, a2]
  · simp
  · obtain ⟨c1, c2, ux, uy, vx, vy⟩ := sqg_b hg
    have w1 : IntKind.i64.wrap (a2 + 1) = a2 + 1 := wr (by omega)
    simp only [w1]
    cases h : rgt [a3, a4, a5, a6, a7, a8]
    · simp
    · have hm : sqg [a0, a1, a2 + 1] = true → sqB [a0, a1, a2, a3, a4, a5, a6, a7, a8] = true → sqB [a0, a1, a2 + 1, a3, a4, a5, a6, a7, a8] = true := sq_more h hg
      cases hp : (us a9 && us a10)
      · generalize sqg [a0, a1, a2 + 1] = g2 at *
        generalize sqB [a0, a1, a2, a3, a4, a5, a6, a7, a8] = s1 at *
        generalize sqB [a0, a1, a2 + 1, a3, a4, a5, a6, a7, a8] = s2 at *
        cases g2 <;> cases s1 <;> cases s2 <;> simp at hm ⊢
      · simp only [Bool.and_eq_true] at hp
        have b9 := us_b hp.1
        have b10 := us_b hp.2
        have w2 : IntKind.i64.wrap (a9 - a2) = a9 - a2 := wr (by omega)
        have w3 : IntKind.i64.wrap (a10 - a2) = a10 - a2 := wr (by omega)
        simp only [w2, w3]
        have hh : inV [a9, a10, a3, a4, a5, a6, a7, a8] ≠ 0 → a0 ≤ a9 → a9 ≤ a0 + a2 → a1 ≤ a10 → a10 ≤ a1 + a2 → sqB [a0, a1, a2, a3, a4, a5, a6, a7, a8] = true := sq_has h hg hp.1 hp.2
        generalize sqg [a0, a1, a2 + 1] = g2 at *
        generalize sqB [a0, a1, a2, a3, a4, a5, a6, a7, a8] = s1 at *
        generalize sqB [a0, a1, a2 + 1, a3, a4, a5, a6, a7, a8] = s2 at *
        generalize inV [a9, a10, a3, a4, a5, a6, a7, a8] = v at *
        cases g2 <;> cases s1 <;> cases s2 <;> simp at hm hh ⊢
        all_goals (intros; omega)

theorem c_MeetSquare (W : World) : Flat Try.prog E W Any 9 [.g 2, .i, .g 6, .g 2] fun l => tupleV (resV E 20 l [.b] 0 0) := flat_val (cm5_ok W) k_MeetSquare v_MeetSquare

end Go.Proofs.Ytfpnkcmplmkghaa.Sx
