/- Contracts, reckoned. -/
import Derived.Test.YtfpnkcmplmkghaaMo2
import Derived.Test.YtfpnkcmplmkghaaMx
import Derived.KernelRfl
set_option linter.unusedVariables false
set_option linter.unusedSimpArgs false
namespace Go.Proofs.Ytfpnkcmplmkghaa.Sx
open Go.RowKit


def R_MeetTurns : AV := (.bool (.ite (.app 20 0 .nil) (.ite (.eq (.app 57 0 (.cons (.var 0) (.cons (.var 1) (.cons (.var 2) (.cons (.var 3) (.cons (.var 4) (.cons (.var 5) (.cons (.var 6) (.cons (.var 7) .nil))))))))) (.app 57 0 (.cons (.var 0) (.cons (.var 1) (.cons (.var 4) (.cons (.var 5) (.cons (.var 6) (.cons (.var 7) (.cons (.var 2) (.cons (.var 3) .nil)))))))))) (.ite (.eq (.app 57 1 (.cons (.var 0) (.cons (.var 1) (.cons (.var 2) (.cons (.var 3) (.cons (.var 4) (.cons (.var 5) (.cons (.var 6) (.cons (.var 7) .nil))))))))) (.app 57 1 (.cons (.var 0) (.cons (.var 1) (.cons (.var 4) (.cons (.var 5) (.cons (.var 6) (.cons (.var 7) (.cons (.var 2) (.cons (.var 3) .nil)))))))))) (.ite (.ite (.app 59 0 (.cons (.var 2) (.cons (.var 3) (.cons (.var 4) (.cons (.var 5) (.cons (.var 6) (.cons (.var 7) (.cons (.var 8) (.cons (.var 9) (.cons (.var 10) (.cons (.var 11) (.cons (.var 12) (.cons (.var 13) .nil))))))))))))) (.app 59 0 (.cons (.var 10) (.cons (.var 11) (.cons (.var 8) (.cons (.var 9) (.cons (.var 12) (.cons (.var 13) (.cons (.var 4) (.cons (.var 5) (.cons (.var 6) (.cons (.var 7) (.cons (.var 2) (.cons (.var 3) .nil))))))))))))) (.no (.app 59 0 (.cons (.var 10) (.cons (.var 11) (.cons (.var 8) (.cons (.var 9) (.cons (.var 12) (.cons (.var 13) (.cons (.var 4) (.cons (.var 5) (.cons (.var 6) (.cons (.var 7) (.cons (.var 2) (.cons (.var 3) .nil))))))))))))))) (.ite (.eq (.app 59 0 (.cons (.var 2) (.cons (.var 3) (.cons (.var 4) (.cons (.var 5) (.cons (.var 6) (.cons (.var 7) (.cons (.var 8) (.cons (.var 9) (.cons (.var 10) (.cons (.var 11) (.cons (.var 12) (.cons (.var 13) .nil))))))))))))) (.app 59 0 (.cons (.var 10) (.cons (.var 11) (.cons (.var 8) (.cons (.var 9) (.cons (.var 12) (.cons (.var 13) (.cons (.var 4) (.cons (.var 5) (.cons (.var 6) (.cons (.var 7) (.cons (.var 2) (.cons (.var 3) .nil)))))))))))))) (.ite (.ite (.app 60 0 (.cons (.var 2) (.cons (.var 3) (.cons (.var 4) (.cons (.var 5) (.cons (.var 6) (.cons (.var 7) (.cons (.var 8) (.cons (.var 9) (.cons (.var 10) (.cons (.var 11) (.cons (.var 12) (.cons (.var 13) .nil))))))))))))) (.app 60 0 (.cons (.var 10) (.cons (.var 11) (.cons (.var 8) (.cons (.var 9) (.cons (.var 12) (.cons (.var 13) (.cons (.var 4) (.cons (.var 5) (.cons (.var 6) (.cons (.var 7) (.cons (.var 2) (.cons (.var 3) .nil))))))))))))) (.no (.app 60 0 (.cons (.var 10) (.cons (.var 11) (.cons (.var 8) (.cons (.var 9) (.cons (.var 12) (.cons (.var 13) (.cons (.var 4) (.cons (.var 5) (.cons (.var 6) (.cons (.var 7) (.cons (.var 2) (.cons (.var 3) .nil))))))))))))))) (.ite (.eq (.app 60 0 (.cons (.var 2) (.cons (.var 3) (.cons (.var 4) (.cons (.var 5) (.cons (.var 6) (.cons (.var 7) (.cons (.var 8) (.cons (.var 9) (.cons (.var 10) (.cons (.var 11) (.cons (.var 12) (.cons (.var 13) .nil))))))))))))) (.app 60 0 (.cons (.var 10) (.cons (.var 11) (.cons (.var 8) (.cons (.var 9) (.cons (.var 12) (.cons (.var 13) (.cons (.var 4) (.cons (.var 5) (.cons (.var 6) (.cons (.var 7) (.cons (.var 2) (.cons (.var 3) .nil)))))))))))))) (.ite (.ite (.app 61 0 (.cons (.var 0) (.cons (.var 1) (.cons (.lit 4) (.cons (.var 2) (.cons (.var 3) (.cons (.var 4) (.cons (.var 5) (.cons (.var 6) (.cons (.var 7) .nil)))))))))) (.app 61 0 (.cons (.var 0) (.cons (.var 1) (.cons (.lit 4) (.cons (.var 4) (.cons (.var 5) (.cons (.var 6) (.cons (.var 7) (.cons (.var 2) (.cons (.var 3) .nil)))))))))) (.no (.app 61 0 (.cons (.var 0) (.cons (.var 1) (.cons (.lit 4) (.cons (.var 4) (.cons (.var 5) (.cons (.var 6) (.cons (.var 7) (.cons (.var 2) (.cons (.var 3) .nil)))))))))))) (.eq (.app 61 0 (.cons (.var 0) (.cons (.var 1) (.cons (.lit 4) (.cons (.var 2) (.cons (.var 3) (.cons (.var 4) (.cons (.var 5) (.cons (.var 6) (.cons (.var 7) .nil)))))))))) (.app 61 0 (.cons (.var 0) (.cons (.var 1) (.cons (.lit 4) (.cons (.var 4) (.cons (.var 5) (.cons (.var 6) (.cons (.var 7) (.cons (.var 2) (.cons (.var 3) .nil))))))))))) (.blit false)) (.blit false)) (.blit false)) (.blit false)) (.blit false)) (.blit false)) (.blit false)) (.blit false)))
theorem k_MeetTurns : acall cm5 20 false 7 [] (argsG [.g 2, .g 6, .g 6] 0 0) (heapG [.g 2, .g 6, .g 6] 0) = .leaf (R_MeetTurns, heapG [.g 2, .g 6, .g 6] 0) := by kernel_rfl
set_option maxHeartbeats 4000000 in
set_option maxRecDepth 20000 in
theorem v_MeetTurns : ∀ l : List Int, l.length = lenSh [.g 2, .g 6, .g 6] → Any l → valOf (E.at l) R_MeetTurns = some (tupleV (resV E 20 l [.b] 0 0)) := by
  intro l hl hG
  have h0 : l.length = 14 := hl
  clear hl
  obtain ⟨a0, l1, rfl, h1⟩ := cut1 h0
  clear h0
  obtain ⟨a1, l2, rfl, h2⟩ := cut1 h1
  clear h1
  obtain ⟨a2, l3, rfl, h3⟩ := cut1 h2
  clear h2
  obtain ⟨a3, l4, rfl, h4⟩ := cut1 h3
  clear h3
  obtain ⟨a4, l5, rfl, h5⟩ := cut1 h4
  clear h4
  obtain ⟨a5, l6, rfl, h6⟩ := cut1 h5
  clear h5
  obtain ⟨a6, l7, rfl, h7⟩ := cut1 h6
  clear h6
  obtain ⟨a7, l8, rfl, h8⟩ := cut1 h7
  clear h7
  obtain ⟨a8, l9, rfl, h9⟩ := cut1 h8
  clear h8
  obtain ⟨a9, l10, rfl, h10⟩ := cut1 h9
  clear h9
  obtain ⟨a10, l11, rfl, h11⟩ := cut1 h10
  clear h10
  obtain ⟨a11, l12, rfl, h12⟩ := cut1 h11
  clear h11
  obtain ⟨a12, l13, rfl, h13⟩ := cut1 h12
  clear h12
  obtain ⟨a13, l14, rfl, h14⟩ := cut1 h13
  clear h13
  obtain rfl := cut0 h14
  clear h14
  simp only [R_MeetTurns, valOf, val1, tupleV, resV, den, Env.at, E, List.getD_cons_zero, List.getD_cons_succ]
  rw [f57_rot a2 a3 a4 a5 a6 a7, e57_rot a2 a3 a4 a5 a6 a7, f59_turn a2 a3 a4 a5 a6 a7 a8 a9, g59_turn a2 a3 a4 a5 a6 a7 a8 a9, f60_turn a2 a3 a4 a5 a6 a7 a8 a9, g60_turn a2 a3 a4 a5 a6 a7 a8 a9, f61_rot a2 a3 a4 a5 a6 a7, g61_rot a2 a3 a4 a5 a6 a7]
  simp only [show fb 20 0 [] = true from rfl, beq_self_eq_true]
  have hb : ∀ b : Bool, (if b = true then b else !b) = true := by decide
  simp only [hb]
  rfl

theorem c_MeetTurns (W : World) : Flat Try.prog E W Any 7 [.g 2, .g 6, .g 6] fun l => tupleV (resV E 20 l [.b] 0 0) := flat_val (cm5_ok W) k_MeetTurns v_MeetTurns

end Go.Proofs.Ytfpnkcmplmkghaa.Sx
