/- The walk of WholeFloor. -/
import Derived.Test.YtfpnkcmplmkghaaPt
import Derived.Test.YtfpnkcmplmkghaaBv
set_option linter.unusedVariables false
namespace Go.Proofs.Ytfpnkcmplmkghaa
open Go.RowKit
open Wh

set_option maxHeartbeats 2000000 in
theorem walk_WholeFloor (w : World) (a : Int) (_ : I a) (b : Int) (_ : I b) :
    Calls Try.prog 3 #[.int .i64 a, .int .i64 b] w fun e w' => e = .returned (.bool true) ∧ Gr w w' := by
  rename_i ha hb
  by_cases h0 : fe a b = 0
  · have hq : fq a b = a.fdiv b := by unfold fq; rw [if_pos h0]
    have hr : fr a b = a.fmod b := by unfold fr; rw [if_pos h0]
    have hnb := (fe_ok.1 h0).1
    have hi := fdiv_I ha hb hnb (fe_ok.1 h0).2
    have hdiv : a = b * a.fdiv b + a.fmod b := (Int.mul_fdiv_add_fmod a b).symm
    by_cases hp : 0 < b
    · have h1 := Int.fmod_nonneg_of_pos a hp; have h2 := Int.fmod_lt_of_pos a hp
      have hi2 : I (a.fmod b) := by unfold I at *; omega
      have H1 := Lib.hid hq; have H2 := Lib.hid hr; have H3 := Lib.hid h0
      have HA := Lib.hid ha; have HB := Lib.hid hb; have HQ := Lib.hid hi; have HR := Lib.hid hi2; have HD := Lib.hid hdiv
      clear hq hr h0 ha hb hi hi2 hdiv
      generalize a.fdiv b = q at *
      generalize a.fmod b = r at *
      go_enter Try.func3, Try.ntmps3
      go_wp2_with fail
      refine (floor_any a b HA.out HB.out _).mono ?_; rintro e w1 ⟨rfl, n, rfl⟩; rw [H1.out, H2.out, H3.out]
      go_wp2_with fail
      refine (Bg.rtimes_any a b q r HA.out HB.out HQ.out HR.out HD.out _).mono ?_; rintro e w2 ⟨rfl, hg2⟩
      have HG2 := Lib.hid hg2; clear hg2
      go_wp2_with fail
      refine (parted_any _).mono ?_; rintro e w' ⟨rfl, hg⟩
      have HG := Lib.hid hg; clear hg
      go_wp2_with fail
      go_ret
      exact ⟨rfl, (Gr.trans (Gr.dn (Gr.refl _) _) HG2.out).trans HG.out⟩
    · have hn : b < 0 := by omega
      have e : a.fmod b = -((-a).fmod (-b)) := by rw [Int.neg_fmod_neg, Int.neg_neg]
      have h1 := Int.fmod_nonneg_of_pos (-a) (show 0 < -b by omega); have h2 := Int.fmod_lt_of_pos (-a) (show 0 < -b by omega)
      have h3 : a.fmod b ≤ 0 := by omega
      have h4 : b < a.fmod b := by omega
      clear e h1 h2
      have hi2 : I (a.fmod b) := by unfold I at *; omega
      have H1 := Lib.hid hq; have H2 := Lib.hid hr; have H3 := Lib.hid h0
      have HA := Lib.hid ha; have HB := Lib.hid hb; have HQ := Lib.hid hi; have HR := Lib.hid hi2; have HD := Lib.hid hdiv
      clear hq hr h0 ha hb hi hi2 hdiv
      generalize a.fdiv b = q at *
      generalize a.fmod b = r at *
      go_enter Try.func3, Try.ntmps3
      go_wp2_with fail
      refine (floor_any a b HA.out HB.out _).mono ?_; rintro e w1 ⟨rfl, n, rfl⟩; rw [H1.out, H2.out, H3.out]
      go_wp2_with fail
      refine (Bg.rtimes_any a b q r HA.out HB.out HQ.out HR.out HD.out _).mono ?_; rintro e w2 ⟨rfl, hg2⟩
      have HG2 := Lib.hid hg2; clear hg2
      go_wp2_with fail
      refine (parted_any _).mono ?_; rintro e w' ⟨rfl, hg⟩
      have HG := Lib.hid hg; clear hg
      go_wp2_with fail
      go_ret
      exact ⟨rfl, (Gr.trans (Gr.dn (Gr.refl _) _) HG2.out).trans HG.out⟩
  · have hq : fq a b = 0 := by unfold fq; rw [if_neg h0]
    have hr : fr a b = 0 := by unfold fr; rw [if_neg h0]
    have hb' : b = 0 ∨ b = -1 := by
      apply Classical.byContradiction; intro hc
      exact h0 (fe_ok.2 ⟨by omega, by omega⟩)
    have h1 : (fe a b != 0) = true := by simpa using h0
    have h2 : (fe a b == 0) = false := by simpa using h0
    have H1 := Lib.hid hq; have H2 := Lib.hid hr
    have HA := Lib.hid ha; have HB := Lib.hid hb
    clear h0 hq hr ha hb
    generalize hE : fe a b = E at *
    have HE := Lib.hid hE; clear hE
    rcases hb' with rfl | rfl
    all_goals
      go_enter Try.func3, Try.ntmps3
      go_wp2_with fail
      refine (floor_any a _ HA.out HB.out _).mono ?_; rintro e w1 ⟨rfl, n, rfl⟩; rw [H1.out, H2.out, HE.out]
      go_wp2_with fail
      refine (parted_any _).mono ?_; rintro e w' ⟨rfl, hg⟩
      have HG := Lib.hid hg; clear hg
      go_wp2_with fail
      go_ret
      exact ⟨rfl, Gr.trans (Gr.dn (Gr.refl _) _) HG.out⟩
end Go.Proofs.Ytfpnkcmplmkghaa
