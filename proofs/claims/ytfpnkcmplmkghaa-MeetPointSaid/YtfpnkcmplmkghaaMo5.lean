/- Contracts, reckoned. -/
import Derived.Test.YtfpnkcmplmkghaaMo2
import Derived.Test.YtfpnkcmplmkghaaMz
import Derived.KernelRfl
set_option linter.unusedVariables false
set_option linter.unusedSimpArgs false
namespace Go.Proofs.Ytfpnkcmplmkghaa.Sx
open Go.RowKit


def S0_MeetPoint : SE := (.cons (.var 8) (.cons (.var 9) (.cons (.var 10) (.cons (.var 11) (.cons (.var 12) (.cons (.var 13) .nil))))))
def S1_MeetPoint : SE := (.eq (.app 57 1 (.cons (.var 0) (.cons (.var 1) (.cons (.var 2) (.cons (.var 3) (.cons (.var 4) (.cons (.var 5) (.cons (.var 6) (.cons (.var 7) .nil))))))))) (.lit 0))
def S2_MeetPoint : SE := (.app 59 0 (.cons (.var 2) (.cons (.var 3) (.cons (.var 4) (.cons (.var 5) (.cons (.var 6) (.cons (.var 7) S0_MeetPoint)))))))
def S3_MeetPoint : SE := (.app 60 0 (.cons (.var 2) (.cons (.var 3) (.cons (.var 4) (.cons (.var 5) (.cons (.var 6) (.cons (.var 7) S0_MeetPoint)))))))
def S4_MeetPoint : SE := (.ite S1_MeetPoint S3_MeetPoint S3_MeetPoint)
def S5_MeetPoint : SE := (.ite (.eq (.app 57 0 (.cons (.var 0) (.cons (.var 1) (.cons (.var 2) (.cons (.var 3) (.cons (.var 4) (.cons (.var 5) (.cons (.var 6) (.cons (.var 7) .nil))))))))) (.lit 0)) (.blit true) (.ite (.eq (.app 57 0 (.cons (.var 0) (.cons (.var 1) S0_MeetPoint))) (.lit 0)) (.blit true) S4_MeetPoint))
def R_MeetPoint : AV := (.bool (.ite (.eq S2_MeetPoint (.lit 0)) (.ite (.ite S1_MeetPoint (.no (.eq (.app 57 1 (.cons (.var 0) (.cons (.var 1) S0_MeetPoint))) (.lit 0))) (.blit true)) (.ite (.app 20 0 .nil) (.ite (.eq S3_MeetPoint (.lit 0)) (.ite (.ite S1_MeetPoint S2_MeetPoint S2_MeetPoint) S4_MeetPoint (.blit true)) (.blit false)) (.blit false)) (.ite (.app 20 0 .nil) (.ite (.eq S3_MeetPoint (.lit 0)) (.ite (.ite S1_MeetPoint S2_MeetPoint S2_MeetPoint) (.ite S4_MeetPoint (.ite (.eq (.app 57 0 (.cons (.var 0) (.cons (.var 1) (.cons (.var 2) (.cons (.var 3) (.cons (.var 4) (.cons (.var 5) (.cons (.var 6) (.cons (.var 7) .nil))))))))) (.lit 2)) (.ite (.eq (.app 57 0 (.cons (.var 0) (.cons (.var 1) S0_MeetPoint))) (.lit 2)) S5_MeetPoint S5_MeetPoint) S5_MeetPoint) (.blit false)) (.ite (.eq (.app 57 0 (.cons (.var 0) (.cons (.var 1) (.cons (.var 2) (.cons (.var 3) (.cons (.var 4) (.cons (.var 5) (.cons (.var 6) (.cons (.var 7) .nil))))))))) (.lit 2)) (.ite (.eq (.app 57 0 (.cons (.var 0) (.cons (.var 1) S0_MeetPoint))) (.lit 2)) (.blit false) S5_MeetPoint) S5_MeetPoint)) (.blit false)) (.blit false))) (.ite (.app 20 0 .nil) (.ite (.eq S3_MeetPoint S2_MeetPoint) (.ite S2_MeetPoint (.blit false) (.ite S3_MeetPoint (.blit false) (.ite (.app 56 0 (.cons (.var 2) (.cons (.var 3) (.cons (.var 4) (.cons (.var 5) (.cons (.var 6) (.cons (.var 7) .nil))))))) (.no (.app 56 0 S0_MeetPoint)) (.blit true)))) (.blit false)) (.blit false))))
theorem k_MeetPoint : acall cm5 20 false 6 [] (argsG [.g 2, .g 6, .g 6] 0 0) (heapG [.g 2, .g 6, .g 6] 0) = .leaf (R_MeetPoint, heapG [.g 2, .g 6, .g 6] 0) := by kernel_rfl
set_option maxHeartbeats 4000000 in
set_option maxRecDepth 20000 in
theorem v_MeetPoint : ∀ l : List Int, l.length = lenSh [.g 2, .g 6, .g 6] → Any l → valOf (E.at l) R_MeetPoint = some (tupleV (resV E 20 l [.b] 0 0)) := by
  intro l hl hG
  have h0 : l.length = 14 := hl
  clear hl
  obtain ⟨a0, l1, rfl, h1⟩ := cut1 h0
  clear h0
  obtain ⟨a1, l2, rfl, h2⟩ := cut1 h1
  clear h1
  obtain ⟨a2, l3, rfl, h3⟩ := cut1 h2
  clear h2
  obtain ⟨a3, l4, rfl, h4⟩ := cut1 h3
  clear h3
  obtain ⟨a4, l5, rfl, h5⟩ := cut1 h4
  clear h4
  obtain ⟨a5, l6, rfl, h6⟩ := cut1 h5
  clear h5
  obtain ⟨a6, l7, rfl, h7⟩ := cut1 h6
  clear h6
  obtain ⟨a7, l8, rfl, h8⟩ := cut1 h7
  clear h7
  obtain ⟨a8, l9, rfl, h9⟩ := cut1 h8
  clear h8
  obtain ⟨a9, l10, rfl, h10⟩ := cut1 h9
  clear h9
  obtain ⟨a10, l11, rfl, h11⟩ := cut1 h10
  clear h10
  obtain ⟨a11, l12, rfl, h12⟩ := cut1 h11
  clear h11
  obtain ⟨a12, l13, rfl, h13⟩ := cut1 h12
  clear h12
  obtain ⟨a13, l14, rfl, h14⟩ := cut1 h13
  clear h13
  obtain rfl := cut0 h14
  clear h14
  simp only [R_MeetPoint, S0_MeetPoint, S1_MeetPoint, S2_MeetPoint, S3_MeetPoint, S4_MeetPoint, S5_MeetPoint, valOf, val1, tupleV, resV, den, Env.at, E, List.getD_cons_zero, List.getD_cons_succ, F570, F571, F59b, F59i, F60b, F60i, F61b, F61i, show ∀ l, fb 56 0 l = rgt l from fun _ => rfl, show ∀ k l, fb 20 k l = true from fun _ _ => rfl, bt1, bt2, bt3, bt4]
  have q1 : rgt [a2, a3, a4, a5, a6, a7] = true → rgt [a8, a9, a10, a11, a12, a13] = true → (us a0 && us a1) = true → inV [a0, a1, a2, a3, a4, a5, a6, a7] = 2 → inV [a0, a1, a8, a9, a10, a11, a12, a13] = 2 → bothB 1 [a2, a3, a4, a5, a6, a7, a8, a9, a10, a11, a12, a13] = true := P1
  have q2 : rgt [a2, a3, a4, a5, a6, a7] = true → rgt [a8, a9, a10, a11, a12, a13] = true → (us a0 && us a1) = true → inV [a0, a1, a2, a3, a4, a5, a6, a7] ≠ 0 → inV [a0, a1, a8, a9, a10, a11, a12, a13] ≠ 0 → bothB 0 [a2, a3, a4, a5, a6, a7, a8, a9, a10, a11, a12, a13] = true := P2
  have q3 : bothB 1 [a2, a3, a4, a5, a6, a7, a8, a9, a10, a11, a12, a13] = true → bothB 0 [a2, a3, a4, a5, a6, a7, a8, a9, a10, a11, a12, a13] = true := P3
  generalize rgt [a2, a3, a4, a5, a6, a7] = ra at *
  generalize rgt [a8, a9, a10, a11, a12, a13] = rb at *
  generalize (us a0 && us a1) = s at *
  generalize inV [a0, a1, a2, a3, a4, a5, a6, a7] = ia at *
  generalize inV [a0, a1, a8, a9, a10, a11, a12, a13] = ib at *
  generalize bothB 1 [a2, a3, a4, a5, a6, a7, a8, a9, a10, a11, a12, a13] = o at *
  generalize bothB 0 [a2, a3, a4, a5, a6, a7, a8, a9, a10, a11, a12, a13] = t at *
  cases ra <;> cases rb <;> cases s <;> cases o <;> cases t <;> simp at q1 q2 q3 ⊢
  all_goals (simp_all)
  all_goals omega

theorem c_MeetPoint (W : World) : Flat Try.prog E W Any 6 [.g 2, .g 6, .g 6] fun l => tupleV (resV E 20 l [.b] 0 0) := flat_val (cm5_ok W) k_MeetPoint v_MeetPoint

end Go.Proofs.Ytfpnkcmplmkghaa.Sx
