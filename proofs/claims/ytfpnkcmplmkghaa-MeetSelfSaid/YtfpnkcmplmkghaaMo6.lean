/- Contracts, reckoned. -/
import Derived.Test.YtfpnkcmplmkghaaMo2
import Derived.Test.YtfpnkcmplmkghaaMz
import Derived.KernelRfl
set_option linter.unusedVariables false
set_option linter.unusedSimpArgs false
namespace Go.Proofs.Ytfpnkcmplmkghaa.Sx
open Go.RowKit


def S0_MeetSelf : SE := (.cons (.var 0) (.cons (.var 1) (.cons (.var 2) (.cons (.var 3) (.cons (.var 4) (.cons (.var 5) .nil))))))
def S1_MeetSelf : SE := (.cons (.lit 1) S0_MeetSelf)
def S2_MeetSelf : SE := (.cons (.var 4) (.cons (.var 5) S0_MeetSelf))
def S3_MeetSelf : SE := (.app 59 0 (.cons (.var 0) (.cons (.var 1) (.cons (.var 2) (.cons (.var 3) S2_MeetSelf)))))
def S4_MeetSelf : SE := (.app 60 0 (.cons (.var 0) (.cons (.var 1) (.cons (.var 2) (.cons (.var 3) (.cons (.var 4) (.cons (.var 5) (.cons (.var 6) (.cons (.var 7) (.cons (.var 8) (.cons (.var 9) (.cons (.var 10) (.cons (.var 11) .nil)))))))))))))
def S5_MeetSelf : SE := (.lt (.ite (.lt (.ite (.lt (.var 0) (.var 2)) (.var 2) (.var 0)) (.var 4)) (.var 4) (.ite (.lt (.var 0) (.var 2)) (.var 2) (.var 0))) (.ite (.lt (.var 10) (.ite (.lt (.var 8) (.var 6)) (.var 8) (.var 6))) (.var 10) (.ite (.lt (.var 8) (.var 6)) (.var 8) (.var 6))))
def S6_MeetSelf : SE := (.ite (.eq (.app 57 1 (.cons (.var 0) (.cons (.var 1) S0_MeetSelf))) (.lit 0)) (.ite (.eq (.app 57 0 (.cons (.var 0) (.cons (.var 1) S0_MeetSelf))) (.lit 1)) (.ite (.eq (.app 61 0 (.cons (.var 0) (.cons (.var 1) S1_MeetSelf))) (.lit 0)) S3_MeetSelf S3_MeetSelf) S3_MeetSelf) S3_MeetSelf)
def S7_MeetSelf : SE := (.ite (.eq (.app 57 1 (.cons (.var 2) (.cons (.var 3) S0_MeetSelf))) (.lit 0)) (.ite (.eq (.app 57 0 (.cons (.var 2) (.cons (.var 3) S0_MeetSelf))) (.lit 1)) (.ite (.eq (.app 61 0 (.cons (.var 2) (.cons (.var 3) S1_MeetSelf))) (.lit 0)) S6_MeetSelf S6_MeetSelf) S6_MeetSelf) S6_MeetSelf)
def R_MeetSelf : AV := (.bool (.ite (.eq S3_MeetSelf (.lit 0)) (.ite (.ite (.eq (.app 57 1 (.cons (.var 0) (.cons (.var 1) S0_MeetSelf))) (.lit 0)) (.ite (.eq (.app 57 0 (.cons (.var 0) (.cons (.var 1) S0_MeetSelf))) (.lit 1)) (.ite (.eq (.app 61 0 (.cons (.var 0) (.cons (.var 1) S1_MeetSelf))) (.lit 0)) (.no (.app 61 0 (.cons (.var 0) (.cons (.var 1) S1_MeetSelf)))) (.blit false)) (.blit true)) (.blit true)) (.blit false) (.ite (.ite (.eq (.app 57 1 (.cons (.var 2) (.cons (.var 3) S0_MeetSelf))) (.lit 0)) (.ite (.eq (.app 57 0 (.cons (.var 2) (.cons (.var 3) S0_MeetSelf))) (.lit 1)) (.ite (.eq (.app 61 0 (.cons (.var 2) (.cons (.var 3) S1_MeetSelf))) (.lit 0)) (.no (.app 61 0 (.cons (.var 2) (.cons (.var 3) S1_MeetSelf)))) (.blit false)) (.blit true)) (.blit true)) (.blit false) (.ite (.ite (.eq (.app 57 1 S2_MeetSelf) (.lit 0)) (.ite (.eq (.app 57 0 S2_MeetSelf) (.lit 1)) (.ite (.eq (.app 61 0 (.cons (.var 4) (.cons (.var 5) S1_MeetSelf))) (.lit 0)) (.no (.app 61 0 (.cons (.var 4) (.cons (.var 5) S1_MeetSelf)))) (.blit false)) (.blit true)) (.blit true)) (.blit false) (.ite (.app 20 0 .nil) (.ite (.ite S5_MeetSelf (.ite (.eq (.app 57 1 S2_MeetSelf) (.lit 0)) (.ite (.eq (.app 57 0 S2_MeetSelf) (.lit 1)) (.ite (.eq (.app 61 0 (.cons (.var 4) (.cons (.var 5) S1_MeetSelf))) (.lit 0)) S7_MeetSelf S7_MeetSelf) S7_MeetSelf) S7_MeetSelf) (.ite (.eq (.app 57 1 S2_MeetSelf) (.lit 0)) (.ite (.eq (.app 57 0 S2_MeetSelf) (.lit 1)) (.ite (.eq (.app 61 0 (.cons (.var 4) (.cons (.var 5) S1_MeetSelf))) (.lit 0)) S7_MeetSelf S7_MeetSelf) S7_MeetSelf) S7_MeetSelf)) (.ite (.app 56 0 S0_MeetSelf) (.ite (.eq S4_MeetSelf (.lit 0)) (.ite (.ite S5_MeetSelf (.blit true) (.lt (.ite (.lt (.ite (.lt (.var 1) (.var 3)) (.var 3) (.var 1)) (.var 5)) (.var 5) (.ite (.lt (.var 1) (.var 3)) (.var 3) (.var 1))) (.ite (.lt (.var 11) (.ite (.lt (.var 9) (.var 7)) (.var 9) (.var 7))) (.var 11) (.ite (.lt (.var 9) (.var 7)) (.var 9) (.var 7))))) (.no (.ite S5_MeetSelf S4_MeetSelf S4_MeetSelf)) (.blit true)) (.blit true)) (.blit false)) (.blit false)) (.blit false))))) (.ite (.app 20 0 .nil) (.ite (.app 56 0 S0_MeetSelf) (.blit false) (.no S3_MeetSelf)) (.blit false))))
theorem k_MeetSelf : acall cm5 20 false 8 [] (argsG [.g 6, .g 6] 0 0) (heapG [.g 6, .g 6] 0) = .leaf (R_MeetSelf, heapG [.g 6, .g 6] 0) := by kernel_rfl
set_option maxHeartbeats 4000000 in
set_option maxRecDepth 20000 in
theorem v_MeetSelf : ∀ l : List Int, l.length = lenSh [.g 6, .g 6] → Any l → valOf (E.at l) R_MeetSelf = some (tupleV (resV E 20 l [.b] 0 0)) := by
  intro l hl hG
  have h0 : l.length = 12 := hl
  clear hl
  obtain ⟨a0, l1, rfl, h1⟩ := cut1 h0
  clear h0
  obtain ⟨a1, l2, rfl, h2⟩ := cut1 h1
  clear h1
  obtain ⟨a2, l3, rfl, h3⟩ := cut1 h2
  clear h2
  obtain ⟨a3, l4, rfl, h4⟩ := cut1 h3
  clear h3
  obtain ⟨a4, l5, rfl, h5⟩ := cut1 h4
  clear h4
  obtain ⟨a5, l6, rfl, h6⟩ := cut1 h5
  clear h5
  obtain ⟨a6, l7, rfl, h7⟩ := cut1 h6
  clear h6
  obtain ⟨a7, l8, rfl, h8⟩ := cut1 h7
  clear h7
  obtain ⟨a8, l9, rfl, h9⟩ := cut1 h8
  clear h8
  obtain ⟨a9, l10, rfl, h10⟩ := cut1 h9
  clear h9
  obtain ⟨a10, l11, rfl, h11⟩ := cut1 h10
  clear h10
  obtain ⟨a11, l12, rfl, h12⟩ := cut1 h11
  clear h11
  obtain rfl := cut0 h12
  clear h12
  simp only [R_MeetSelf, S0_MeetSelf, S1_MeetSelf, S2_MeetSelf, S3_MeetSelf, S4_MeetSelf, S5_MeetSelf, S6_MeetSelf, S7_MeetSelf, valOf, val1, tupleV, resV, den, Env.at, E, List.getD_cons_zero, List.getD_cons_succ, F570, F571, F59b, F59i, F60b, F60i, F61b, F61i, show ∀ l, fb 56 0 l = rgt l from fun _ => rfl, show ∀ k l, fb 20 k l = true from fun _ _ => rfl, bt1, bt2, bt3, bt4, mnE, mxE]
  cases h : rgt [a0, a1, a2, a3, a4, a5]
  · simp
  · obtain ⟨⟨u0, u1, u2, u3, u4, u5⟩, hA⟩ := rgt_iff.1 h
    obtain ⟨c0, c1, c2⟩ := corners h
    have s1 := self1 h
    obtain ⟨z0, z1, z2⟩ := selfsq h
    simp only [u0, u1, u2, u3, u4, u5, c0, c1, c2, s1, z0, z1, z2]
    generalize sqg [a0, a1, 1] = g0, sqg [a2, a3, 1] = g1, sqg [a4, a5, 1] = g2
    cases hb : rgt [a6, a7, a8, a9, a10, a11]
    · cases g0 <;> cases g1 <;> cases g2 <;> simp
    · by_cases hs : max (max a0 a2) a4 < min (min a6 a8) a10 ∨ max (max a1 a3) a5 < min (min a7 a9) a11
      · have h0 := apart0 h hb hs
        cases g0 <;> cases g1 <;> cases g2 <;> simp [h0]
      · have h1 : decide (max (max a0 a2) a4 < min (min a6 a8) a10) = false := by simpa using (fun h => hs (.inl h))
        have h2 : decide (max (max a1 a3) a5 < min (min a7 a9) a11) = false := by simpa using (fun h => hs (.inr h))
        rw [h1, h2]
        cases g0 <;> cases g1 <;> cases g2 <;> simp

theorem c_MeetSelf (W : World) : Flat Try.prog E W Any 8 [.g 6, .g 6] fun l => tupleV (resV E 20 l [.b] 0 0) := flat_val (cm5_ok W) k_MeetSelf v_MeetSelf

end Go.Proofs.Ytfpnkcmplmkghaa.Sx
