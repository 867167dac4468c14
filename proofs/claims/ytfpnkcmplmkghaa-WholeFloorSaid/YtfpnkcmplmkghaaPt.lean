/- The example of chapter 2 holds. -/
import Derived.Test.YtfpnkcmplmkghaaGc
import Derived.Test.YtfpnkcmplmkghaaSq
set_option linter.unusedVariables false
namespace Go.Proofs.Ytfpnkcmplmkghaa
open Go.RowKit

namespace Wh
set_option maxHeartbeats 2000000 in
theorem parted_any (w : World) :
    Calls Try.prog 15 #[] w fun e w' => e = .returned (.bool true) ∧ Gr w w' := by
  have a1 : fq 7 2 = 3 := by decide +kernel
  have a2 : fr 7 2 = 1 := by decide +kernel
  have a3 : fe 7 2 = 0 := by decide +kernel
  have b1 : fq (-7) 2 = -4 := by decide +kernel
  have b2 : fr (-7) 2 = 1 := by decide +kernel
  have b3 : fe (-7) 2 = 0 := by decide +kernel
  have c1 : fq 7 (-2) = -4 := by decide +kernel
  have c2 : fr 7 (-2) = -1 := by decide +kernel
  have c3 : fe 7 (-2) = 0 := by decide +kernel
  have d1 : cq 7 2 = 4 := by decide +kernel
  have e1 : fq 1 0 = 0 := by decide +kernel
  have e2 : fr 1 0 = 0 := by decide +kernel
  have e3 : fe 1 0 = 3 := by decide +kernel
  have f1 : clv 9 1 5 = 5 := by decide +kernel
  have f2 : cle 1 5 = 0 := by decide +kernel
  have g1 : gv [12, -18] = 6 := by decide +kernel
  have g2 : ge [12, -18] = 0 := by decide +kernel
  have r1 : rt 99 = 9 := rt_eq ⟨by decide, by decide, by decide⟩
  go_enter Try.func15, Try.ntmps15
  go_wp2_with (first
    | (go_at_call 14; refine (floor_any _ _ (by unfold I; omega) (by unfold I; omega) _).mono ?_; rintro e w' ⟨rfl, n, rfl⟩)
    | (go_at_call 66; refine (ceil_any _ _ (by unfold I; omega) (by unfold I; omega) _).mono ?_; rintro e w' ⟨rfl, n, rfl⟩) | fail)
  refine (gcd_any _ 2 2 [12, -18] _ (by exact row_new _ [12, -18] _ (by decide) (by decide))).mono ?_; rintro e w' ⟨rfl, n, rfl⟩; rw [g1, g2]
  clear a1 a2 a3 b1 b2 b3 c1 c2 c3 d1 g1 g2
  go_wp2_with (first
    | (go_at_call 68; refine (sqrt_any _ (by omega) (by omega) _).mono ?_; rintro e w' ⟨rfl, hb⟩; rw [r1])
    | fail)
  refine (floor_any _ _ (by unfold I; omega) (by unfold I; omega) _).mono ?_; rintro e w' ⟨rfl, n, rfl⟩
  rw [e1, e2, e3]
  clear e1 e2 e3
  go_wp2_with fail
  refine (clamp_any _ _ _ _).mono ?_; rintro e w' ⟨rfl, rfl⟩
  rw [f1, f2]
  clear f1 f2
  have HB := Lib.hid hb; clear hb
  clear r1
  go_wp2_with fail
  go_ret
  refine ⟨rfl, ?_⟩
  exact Gr.dn (Gr.trans (Gr.dn (Gr.alloc (Gr.dn (Gr.refl _) _) _) _) HB.out) _
end Wh
end Go.Proofs.Ytfpnkcmplmkghaa
