/- Contracts, reckoned. -/
import Derived.Test.YtdkeiopcdajkpaaM5
import Derived.Test.YtdkeiopcdajkpaaFp
import Derived.Test.YtdkeiopcdajkpaaFs
import Derived.KernelRfl
set_option linter.unusedVariables false
set_option linter.unusedSimpArgs false
namespace Go.Proofs.Ytdkeiopcdajkpaa.Sx
open Go.RowKit


def R_FrameAlong : AV := (.bool (.ite (.ite (.lt (.var 0) (.lit 1)) (.blit true) (.ite (.lt (.lit 1048576) (.var 0)) (.blit true) (.ite (.lt (.var 1) (.lit 0)) (.blit true) (.lt (.lit 2) (.var 1))))) (.app 20 0 .nil) (.ite (.app 20 0 .nil) (.ite (.eq (.app 40 3 (.cons (.ite (.eq (.var 1) (.lit 2)) (.lit 0) (.ite (.eq (.var 1) (.lit 1)) (.lit 0) (.var 0))) (.cons (.ite (.eq (.var 1) (.lit 2)) (.lit 0) (.ite (.eq (.var 1) (.lit 1)) (.var 0) (.lit 0))) (.cons (.ite (.eq (.var 1) (.lit 2)) (.var 0) (.lit 0)) .nil)))) (.lit 0)) (.ite (.ite (.eq (.app 40 0 (.cons (.ite (.eq (.var 1) (.lit 2)) (.lit 0) (.ite (.eq (.var 1) (.lit 1)) (.lit 0) (.var 0))) (.cons (.ite (.eq (.var 1) (.lit 2)) (.lit 0) (.ite (.eq (.var 1) (.lit 1)) (.var 0) (.lit 0))) (.cons (.ite (.eq (.var 1) (.lit 2)) (.var 0) (.lit 0)) .nil)))) (.ite (.eq (.var 1) (.lit 2)) (.lit 0) (.ite (.eq (.var 1) (.lit 1)) (.lit 0) (.lit 1024)))) (.ite (.eq (.app 40 1 (.cons (.ite (.eq (.var 1) (.lit 2)) (.lit 0) (.ite (.eq (.var 1) (.lit 1)) (.lit 0) (.var 0))) (.cons (.ite (.eq (.var 1) (.lit 2)) (.lit 0) (.ite (.eq (.var 1) (.lit 1)) (.var 0) (.lit 0))) (.cons (.ite (.eq (.var 1) (.lit 2)) (.var 0) (.lit 0)) .nil)))) (.ite (.eq (.var 1) (.lit 2)) (.lit 0) (.ite (.eq (.var 1) (.lit 1)) (.lit 1024) (.lit 0)))) (.eq (.app 40 2 (.cons (.ite (.eq (.var 1) (.lit 2)) (.lit 0) (.ite (.eq (.var 1) (.lit 1)) (.lit 0) (.var 0))) (.cons (.ite (.eq (.var 1) (.lit 2)) (.lit 0) (.ite (.eq (.var 1) (.lit 1)) (.var 0) (.lit 0))) (.cons (.ite (.eq (.var 1) (.lit 2)) (.var 0) (.lit 0)) .nil)))) (.ite (.eq (.var 1) (.lit 2)) (.lit 1024) (.lit 0))) (.blit false)) (.blit false)) (.ite (.eq (.app 42 3 (.cons (.ite (.eq (.var 1) (.lit 2)) (.lit 0) (.ite (.eq (.var 1) (.lit 1)) (.lit 0) (.var 0))) (.cons (.ite (.eq (.var 1) (.lit 2)) (.lit 0) (.ite (.eq (.var 1) (.lit 1)) (.var 0) (.lit 0))) (.cons (.ite (.eq (.var 1) (.lit 2)) (.var 0) (.lit 0)) (.cons (.lit 0) (.cons (.lit 0) .nil)))))) (.app 40 3 (.cons (.ite (.eq (.var 1) (.lit 2)) (.lit 0) (.ite (.eq (.var 1) (.lit 1)) (.lit 0) (.var 0))) (.cons (.ite (.eq (.var 1) (.lit 2)) (.lit 0) (.ite (.eq (.var 1) (.lit 1)) (.var 0) (.lit 0))) (.cons (.ite (.eq (.var 1) (.lit 2)) (.var 0) (.lit 0)) .nil))))) (.ite (.ite (.eq (.app 42 0 (.cons (.ite (.eq (.var 1) (.lit 2)) (.lit 0) (.ite (.eq (.var 1) (.lit 1)) (.lit 0) (.var 0))) (.cons (.ite (.eq (.var 1) (.lit 2)) (.lit 0) (.ite (.eq (.var 1) (.lit 1)) (.var 0) (.lit 0))) (.cons (.ite (.eq (.var 1) (.lit 2)) (.var 0) (.lit 0)) (.cons (.lit 0) (.cons (.lit 0) .nil)))))) (.ite (.eq (.var 1) (.lit 2)) (.lit 0) (.ite (.eq (.var 1) (.lit 1)) (.lit 0) (.lit 1024)))) (.ite (.eq (.app 42 1 (.cons (.ite (.eq (.var 1) (.lit 2)) (.lit 0) (.ite (.eq (.var 1) (.lit 1)) (.lit 0) (.var 0))) (.cons (.ite (.eq (.var 1) (.lit 2)) (.lit 0) (.ite (.eq (.var 1) (.lit 1)) (.var 0) (.lit 0))) (.cons (.ite (.eq (.var 1) (.lit 2)) (.var 0) (.lit 0)) (.cons (.lit 0) (.cons (.lit 0) .nil)))))) (.ite (.eq (.var 1) (.lit 2)) (.lit 0) (.ite (.eq (.var 1) (.lit 1)) (.lit 1024) (.lit 0)))) (.eq (.app 42 2 (.cons (.ite (.eq (.var 1) (.lit 2)) (.lit 0) (.ite (.eq (.var 1) (.lit 1)) (.lit 0) (.var 0))) (.cons (.ite (.eq (.var 1) (.lit 2)) (.lit 0) (.ite (.eq (.var 1) (.lit 1)) (.var 0) (.lit 0))) (.cons (.ite (.eq (.var 1) (.lit 2)) (.var 0) (.lit 0)) (.cons (.lit 0) (.cons (.lit 0) .nil)))))) (.ite (.eq (.var 1) (.lit 2)) (.lit 1024) (.lit 0))) (.blit false)) (.blit false)) (.ite (.eq (.app 40 3 (.cons (.var 2) (.cons (.var 3) (.cons (.var 4) .nil)))) (.app 42 3 (.cons (.var 2) (.cons (.var 3) (.cons (.var 4) (.cons (.lit 0) (.cons (.lit 0) .nil))))))) (.ite (.eq (.app 40 0 (.cons (.var 2) (.cons (.var 3) (.cons (.var 4) .nil)))) (.app 42 0 (.cons (.var 2) (.cons (.var 3) (.cons (.var 4) (.cons (.lit 0) (.cons (.lit 0) .nil))))))) (.ite (.eq (.app 40 1 (.cons (.var 2) (.cons (.var 3) (.cons (.var 4) .nil)))) (.app 42 1 (.cons (.var 2) (.cons (.var 3) (.cons (.var 4) (.cons (.lit 0) (.cons (.lit 0) .nil))))))) (.eq (.app 40 2 (.cons (.var 2) (.cons (.var 3) (.cons (.var 4) .nil)))) (.app 42 2 (.cons (.var 2) (.cons (.var 3) (.cons (.var 4) (.cons (.lit 0) (.cons (.lit 0) .nil))))))) (.blit false)) (.blit false)) (.blit false)) (.blit false)) (.blit false)) (.blit false)) (.blit false)) (.blit false))))
theorem k_FrameAlong : acall cm5 20 false 5 [] (argsG [.i, .i, .g 3] 0 0) (heapG [.i, .i, .g 3] 0) = .leaf (R_FrameAlong, heapG [.i, .i, .g 3] 0) := by kernel_rfl
set_option maxHeartbeats 4000000 in
set_option maxRecDepth 20000 in
theorem v_FrameAlong : ∀ l : List Int, l.length = lenSh [.i, .i, .g 3] → AllI l → valOf (E.at l) R_FrameAlong = some (tupleV (resV E 20 l [.b] 0 0)) := by
  intro l hl hG
  have h0 : l.length = 5 := hl
  clear hl
  obtain ⟨a0, l1, rfl, h1⟩ := cut1 h0
  clear h0
  obtain ⟨a1, l2, rfl, h2⟩ := cut1 h1
  clear h1
  obtain ⟨a2, l3, rfl, h3⟩ := cut1 h2
  clear h2
  obtain ⟨a3, l4, rfl, h4⟩ := cut1 h3
  clear h3
  obtain ⟨a4, l5, rfl, h5⟩ := cut1 h4
  clear h4
  obtain rfl := cut0 h5
  clear h5
  simp only [R_FrameAlong, valOf, vals1, valInts, val1, tupleV, resV, valsI, den, bt1, bt2, bt3, bt4, Env.at, E, fb, fi, List.getD_cons_zero, List.getD_cons_succ, List.all_cons, List.all_nil, Bool.and_true, nr', us', ss', nr2, us2, ss2, nr3, us3, ss3, Bool.and_assoc, Option.map_some, List.all_append, cmps, Wh.fe]
  by_cases g : a0 < 1 ∨ 1048576 < a0 ∨ a1 < 0 ∨ 2 < a1
  · have gb : (decide (a0 < 1) || (decide (1048576 < a0) || (decide (a1 < 0) || decide (2 < a1)))) = true := by simpa using g
    simp only [gb, Bool.true_or]
  · obtain ⟨⟨x0, x1, x2, x3⟩, ⟨y0, y1, y2, y3⟩, ⟨z0, z1, z2, z3'⟩⟩ := un_along (n := a0) (by omega)
    have D := fun a b c => (dir_on a b c).1
    have D0 := fun a b c => (dir_on a b c).2 0 (by decide)
    have D1 := fun a b c => (dir_on a b c).2 1 (by decide)
    have D2 := fun a b c => (dir_on a b c).2 2 (by decide)
    have g1 : ¬ a0 < 1 := by omega
    have g2 : ¬ 1048576 < a0 := by omega
    have k : a1 = 0 ∨ a1 = 1 ∨ a1 = 2 := by omega
    rcases k with rfl | rfl | rfl
    · simp [D, D0, D1, D2, x0, x1, x2, x3, g1, g2]
    · simp [D, D0, D1, D2, y0, y1, y2, y3, g1, g2]
    · simp [D, D0, D1, D2, z0, z1, z2, z3', g1, g2]

theorem c_FrameAlong (W : World) : Flat Try.prog E W AllI 5 [.i, .i, .g 3] fun l => tupleV (resV E 20 l [.b] 0 0) := flat_val (cm5_ok W) k_FrameAlong v_FrameAlong

end Go.Proofs.Ytdkeiopcdajkpaa.Sx
