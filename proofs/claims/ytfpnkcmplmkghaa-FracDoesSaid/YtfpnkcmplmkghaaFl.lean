/- The contracts of package whole: over, Floor, Ceil, Clamp. -/
import Derived.Test.YtfpnkcmplmkghaaRows
import Derived.Test.YtfpnkcmplmkghaaWhPl
import Derived.WalkKit
import Derived.WalkSpells
import Derived.Deep.QuietTactic
import Derived.BigQuiet
import Derived.RowKit3
import Derived.Lib.Hide
namespace Go.Proofs.Ytfpnkcmplmkghaa
open Go.RowKit

set_option linter.unusedVariables false
namespace Wh

theorem over_any (a b : Int) (w : World) :
    Calls Try.prog 65 #[.int .i64 a, .int .i64 b] w fun e w' => e = .returned (.int .i64 (fe a b)) ∧ w = w' := by
  by_cases h0 : b = 0
  · have e : fe a b = 3 := by unfold fe; rw [if_pos h0]
    rw [e]; subst h0; clear e
    go_enter Try.func65, Try.ntmps65
    go_wp2
    go_ret
    exact ⟨rfl, rfl⟩
  · have hb : (b == 0) = false := by simpa using h0
    by_cases h1 : a = -9223372036854775808
    · by_cases h2 : b = -1
      · have e : fe a b = 4 := by unfold fe; rw [if_neg h0, if_pos ⟨h1, h2⟩]
        rw [e]; subst h1; subst h2; clear e h0 hb
        go_enter Try.func65, Try.ntmps65
        go_wp2
        go_ret
        exact ⟨rfl, rfl⟩
      · have e : fe a b = 0 := by unfold fe; rw [if_neg h0, if_neg (fun h => h2 h.2)]
        have hb2 : (b == -1) = false := by simpa using h2
        rw [e]; subst h1; clear e
        go_enter Try.func65, Try.ntmps65
        go_wp2
        go_ret
        exact ⟨rfl, rfl⟩
    · have e : fe a b = 0 := by unfold fe; rw [if_neg h0, if_neg (fun h => h1 h.1)]
      have hb2 : (a == -9223372036854775808) = false := by simpa using h1
      rw [e]; clear e
      go_enter Try.func65, Try.ntmps65
      go_wp2
      go_ret
      exact ⟨rfl, rfl⟩

theorem floor_any (a b : Int) (ha : I a) (hb : I b) (w : World) :
    Calls Try.prog 14 #[.int .i64 a, .int .i64 b] w fun e w' => e = .returned (.tuple #[.int .i64 (fq a b), .int .i64 (fr a b), .int .i64 (fe a b)]) ∧ Drew w w' := by
  by_cases h0 : fe a b = 0
  · obtain ⟨n0, nw⟩ := fe_ok.1 h0
    have e1 : fq a b = a.fdiv b := by unfold fq; rw [if_pos h0]
    have e2 : fr a b = a.fmod b := by unfold fr; rw [if_pos h0]
    rw [e1, e2]; clear e1 e2
    obtain ⟨q1, q2⟩ := tdiv_I ha n0 nw
    obtain ⟨r1, r2⟩ := tmod_I (a := a) hb n0
    have hx := xor_neg ⟨r1, r2⟩ hb
    have hlt := tmod_lt (a := a) n0
    have hqq := Int.mul_tdiv_add_tmod a b
    have hs := fdiv_same (a := a) n0
    have hl := fdiv_less (a := a) n0
    have HE := Lib.hid h0; clear h0
    have HX := Lib.hid hx; have HL := Lib.hid hlt; have HQ := Lib.hid hqq; have HS := Lib.hid hs; have HD := Lib.hid hl; clear hx hlt hqq hs hl
    have HB := Lib.hid hb; have HA := Lib.hid ha; have HW := Lib.hid nw; clear hb ha nw
    go_enter Try.func14, Try.ntmps14
    go_wp2_with (go_at_call 65; refine (over_any a b _).mono ?_; rintro e w' ⟨rfl, rfl⟩; rw [HE.out])
    go_quiet (fail)
    go_wp2
    · have hz : a.tmod b = 0 := by assumption
      go_ret3
      obtain ⟨s1, s2⟩ := HS.out (Or.inl hz)
      exact ⟨ret3 s1.symm (by rw [s2, hz]) HE.out.symm, _, rfl⟩
    · have hz : ¬ a.tmod b = 0 := by assumption
      have hx : (a.tmod b != 0) = true ∧ bits BinOp.xor IntKind.i64 (a.tmod b) b < 0 := by assumption
      obtain ⟨s1, s2⟩ := HD.out hz (HX.out.1 hx.2)
      have i1 : I (a.fdiv b) := fdiv_I HA.out HB.out n0 HW.out
      have i2 : I (a.fmod b) := fmod_I HB.out n0
      rw [s1] at i1; rw [s2] at i2
      rw [IntWalk.wrap64_in _ i1, IntWalk.wrap64_in _ i2]
      go_ret3
      exact ⟨ret3 s1.symm s2.symm HE.out.symm, _, rfl⟩
    · have hz : ¬ a.tmod b = 0 := by assumption
      have hx : (a.tmod b != 0) = false ∨ 0 ≤ bits BinOp.xor IntKind.i64 (a.tmod b) b := by assumption
      have hy : a.tmod b < 0 ↔ b < 0 := by
        rcases hx with h | h
        · simp at h; exact absurd h hz
        · exact Classical.byContradiction fun hh => by have := HX.out.2 hh; omega
      obtain ⟨s1, s2⟩ := HS.out (Or.inr hy)
      go_ret3
      exact ⟨ret3 s1.symm s2.symm HE.out.symm, _, rfl⟩
  · have e1 : fq a b = 0 := by unfold fq; rw [if_neg h0]
    have e2 : fr a b = 0 := by unfold fr; rw [if_neg h0]
    rw [e1, e2]; clear e1 e2
    have hne : (fe a b != 0) = true := by simpa using h0
    clear h0 ha hb
    go_enter Try.func14, Try.ntmps14
    go_wp2_with (go_at_call 65; refine (over_any a b _).mono ?_; rintro e w' ⟨rfl, rfl⟩)
    go_ret3
    exact ⟨rfl, 0, rfl⟩

end Wh
end Go.Proofs.Ytfpnkcmplmkghaa
