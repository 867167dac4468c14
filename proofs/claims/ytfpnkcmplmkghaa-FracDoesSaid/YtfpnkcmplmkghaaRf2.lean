/- The contracts of the reference's Floor, Ceil, Gcd, Sqrt, Clamp (limewashref02). -/
import Derived.Test.YtfpnkcmplmkghaaGd
set_option linter.unusedVariables false
namespace Go.Proofs.Ytfpnkcmplmkghaa
open Go.RowKit
namespace Wh

theorem rfloor_any (a b : Int) (ha : I a) (hb : I b) (w : World) :
    Calls Try.prog 92 #[.int .i64 a, .int .i64 b] w fun e w' => e = .returned (.tuple #[.int .i64 (fq a b), .int .i64 (fr a b), .int .i64 (fe a b)]) ∧ w = w' := by
  by_cases h0 : fe a b = 0
  · obtain ⟨n0, nw⟩ := fe_ok.1 h0
    have e1 : fq a b = a.fdiv b := by unfold fq; rw [if_pos h0]
    have e2 : fr a b = a.fmod b := by unfold fr; rw [if_pos h0]
    rw [e1, e2, h0]; clear e1 e2
    obtain ⟨q1, q2⟩ := tdiv_I ha n0 nw
    obtain ⟨r1, r2⟩ := tmod_I (a := a) hb n0
    have hs := fdiv_same (a := a) n0
    have hl := fdiv_less (a := a) n0
    have i1 := fdiv_I ha hb n0 nw
    have i2 := fmod_I (a := a) hb n0
    have HS := Lib.hid hs; have HD := Lib.hid hl; clear hs hl
    have I1 := Lib.hid i1; have I2 := Lib.hid i2; clear i1 i2
    have HB := Lib.hid hb; have HA := Lib.hid ha; clear hb ha h0
    have nb : (b == 0) = false := by simpa using n0
    have nw2 : (a == -9223372036854775808) = false ∨ ((a == -9223372036854775808) = true ∧ (b == -1) = false) := by
      by_cases h : a = -9223372036854775808
      · right; exact ⟨by simpa using h, by simpa using fun hh => nw ⟨h, hh⟩⟩
      · left; simpa using h
    clear nw
    by_cases hz : a.tmod b = 0
    · obtain ⟨s1, s2⟩ := HS.out (Or.inl hz)
      rw [s1, s2, hz]
      have hz1 : (a.tmod b != 0) = false := by simp [hz]
      have HZ := Lib.hid hz; clear hz s1 s2
      rcases nw2 with h | ⟨h3, h⟩
      all_goals
        go_enter Try.func92, Try.ntmps92
        go_wp2
        go_ret3
        exact ⟨ret3 rfl HZ.out rfl, rfl⟩
    · have hz1 : (a.tmod b != 0) = true := by simpa using hz
      by_cases hs : (a.tmod b < 0 ↔ b < 0)
      · obtain ⟨s1, s2⟩ := HS.out (Or.inr hs)
        rw [s1, s2]
        clear s1 s2
        obtain ⟨x, hx⟩ : ∃ x, decide (a.tmod b < 0) = x := ⟨_, rfl⟩
        obtain ⟨y, hy⟩ : ∃ y, decide (b < 0) = y := ⟨_, rfl⟩
        have hxy : x = y ↔ (a.tmod b < 0 ↔ b < 0) := by rw [← hx, ← hy]; simp
        cases x <;> cases y
        all_goals first
          | (exfalso; simp at hxy; omega)
          | (clear hs hxy
             rcases nw2 with h | ⟨h3, h⟩
             all_goals
               go_enter Try.func92, Try.ntmps92
               go_wp2
               go_ret3
               exact ⟨rfl, rfl⟩)
      · obtain ⟨s1, s2⟩ := HD.out hz hs
        have i1 := I1.out; have i2 := I2.out
        rw [s1] at i1; rw [s2] at i2
        obtain ⟨j1, j2⟩ := i1; obtain ⟨j3, j4⟩ := i2
        rw [s1, s2]
        clear s1 s2
        obtain ⟨x, hx⟩ : ∃ x, decide (a.tmod b < 0) = x := ⟨_, rfl⟩
        obtain ⟨y, hy⟩ : ∃ y, decide (b < 0) = y := ⟨_, rfl⟩
        have hxy : x = y ↔ (a.tmod b < 0 ↔ b < 0) := by rw [← hx, ← hy]; simp
        cases x <;> cases y
        all_goals first
          | (exfalso; simp at hxy; omega)
          | (clear hs hxy
             rcases nw2 with h | ⟨h3, h⟩
             all_goals
               go_enter Try.func92, Try.ntmps92
               go_wp2
               go_ret3
               exact ⟨rfl, rfl⟩)
  · have e1 : fq a b = 0 := by unfold fq; rw [if_neg h0]
    have e2 : fr a b = 0 := by unfold fr; rw [if_neg h0]
    rw [e1, e2]; clear e1 e2
    by_cases hb0 : b = 0
    · subst hb0
      have e : fe a 0 = 3 := rfl
      rw [e]; clear e h0
      go_enter Try.func92, Try.ntmps92
      go_wp2
      go_ret3
      exact ⟨rfl, rfl⟩
    · have hc : a = -9223372036854775808 ∧ b = -1 := Classical.byContradiction fun h => h0 (fe_ok.2 ⟨hb0, h⟩)
      obtain ⟨rfl, rfl⟩ := hc
      have e : fe (-9223372036854775808) (-1) = 4 := by decide
      rw [e]; clear e h0 hb0
      go_enter Try.func92, Try.ntmps92
      go_wp2
      go_ret3
      exact ⟨rfl, rfl⟩
end Wh
end Go.Proofs.Ytfpnkcmplmkghaa
