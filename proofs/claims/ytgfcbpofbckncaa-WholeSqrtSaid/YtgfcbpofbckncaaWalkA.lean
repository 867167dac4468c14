/- The walks of WholeClamp, WholeCeil, WholeSqrt. -/
import Derived.Test.YtgfcbpofbckncaaPt
set_option linter.unusedVariables false
namespace Go.Proofs.Ytgfcbpofbckncaa
open Go.RowKit
open Wh

set_option maxHeartbeats 1000000 in
theorem walk_WholeClamp (w : World) (n : Int) (_ : I n) (low : Int) (_ : I low) (most : Int) (_ : I most) :
    Calls Try.prog 8 #[.int .i64 n, .int .i64 low, .int .i64 most] w fun e w' => e = .returned (.bool true) ∧ Gr w w' := by
  by_cases h : most < low
  · have e1 : cle low most = 1 := by unfold cle; rw [if_pos h]
    have e2 : clv n low most = 0 := by unfold clv; rw [if_pos h]
    go_enter Try.func8, Try.ntmps8
    go_wp2_with (first
      | (go_at_call 18; refine (clamp_any _ _ _ _).mono ?_; rintro e w' ⟨rfl, rfl⟩)
      | (go_at_call 20; refine (parted_any _).mono ?_; rintro e w' ⟨rfl, hg⟩))
    go_ret
    exact ⟨rfl, hg⟩
  · have e1 : cle low most = 0 := by unfold cle; rw [if_neg h]
    obtain ⟨c, hc, hcc⟩ : ∃ c, clv n low most = c ∧ clv c low most = c ∧ ((n < low ∧ c = low) ∨ (most < n ∧ c = most) ∨ (low ≤ n ∧ n ≤ most ∧ c = n)) := by
      refine ⟨_, rfl, ?_⟩
      unfold clv; rw [if_neg h, if_neg h]; constructor <;> omega
    obtain ⟨hd, hh⟩ := hcc
    have EC := Lib.hid hc; have ED := Lib.hid hd; clear hc hd
    rcases hh with ⟨h1, rfl⟩ | ⟨h1, rfl⟩ | ⟨h1, h2, rfl⟩
    all_goals
      go_enter Try.func8, Try.ntmps8
      go_wp2_with fail
      refine (clamp_any _ _ _ _).mono ?_; rintro e w' ⟨rfl, rfl⟩; rw [EC.out]
      go_wp2_with fail
      refine (clamp_any _ _ _ _).mono ?_; rintro e w' ⟨rfl, rfl⟩; rw [ED.out]
      go_wp2_with fail
      refine (parted_any _).mono ?_; rintro e w' ⟨rfl, hg⟩
      have HG := Lib.hid hg; clear hg
      go_wp2_with fail
      go_ret
      exact ⟨rfl, HG.out⟩

set_option maxHeartbeats 1000000 in
theorem walk_WholeSqrt (w : World) (n : Int) (_ : I n) :
    Calls Try.prog 7 #[.int .i64 n] w fun e w' => e = .returned (.bool true) ∧ Gr w w' := by
  rename_i hn
  by_cases h : n < 0
  · clear hn
    go_enter Try.func7, Try.ntmps7
    go_wp2_with fail
    refine (sqrt_neg n h _).mono ?_; rintro e w1 ⟨rfl, hg⟩
    have HG := Lib.hid hg; clear hg
    go_wp2_with fail
    refine (parted_any _).mono ?_; rintro e w' ⟨rfl, hg⟩
    have HG' := Lib.hid hg; clear hg
    go_wp2_with fail
    go_ret
    exact ⟨rfl, HG.out.trans HG'.out⟩
  · have h0 : 0 ≤ n := by omega
    obtain ⟨hl, hu⟩ := hn
    obtain ⟨b0, b1⟩ := rt_le h0 hu
    have hr := rt_root h0
    obtain ⟨q0, q1⟩ := sq_bd b0 b1
    have hs : rt (rt n * rt n) = rt n := rt_eq ⟨b0, Int.le_refl _, by rw [Int.mul_add, Int.add_mul]; omega⟩
    have hsq : rt n < 3037000499 → -9223372036854775808 ≤ (rt n + 1) * (rt n + 1) ∧ (rt n + 1) * (rt n + 1) ≤ 9223372036854775807 := fun hlt => by
      obtain ⟨x, y⟩ := sq_bd (r := rt n + 1) (by omega) (by omega); omega
    have hr1 := hr.2.1
    have hr2 := hr.2.2
    clear hr
    obtain ⟨r, hrt⟩ : ∃ r, rt n = r := ⟨_, rfl⟩
    rw [hrt] at b0 b1 q0 q1 hs hsq hr1 hr2
    have ER := Lib.hid hrt; clear hrt
    have HS := Lib.hid hs; clear hs
    have hsqI : r * r ≤ 9223372036854775807 := by omega
    by_cases hlt : r < 3037000499
    · obtain ⟨t0, t1⟩ := hsq hlt
      clear hsq
      go_enter Try.func7, Try.ntmps7
      go_wp2_with fail
      refine (sqrt_any n h0 hu _).mono ?_; rintro e w1 ⟨rfl, hg⟩; rw [ER.out]
      have HG := Lib.hid hg; clear hg
      go_wp2_with fail
      refine (sqrt_any (r * r) q0 hsqI _).mono ?_; rintro e w1 ⟨rfl, hg⟩; rw [HS.out]
      have HG1 := Lib.hid hg; clear hg
      go_wp2_with fail
      refine (parted_any _).mono ?_; rintro e w' ⟨rfl, hg⟩
      have HG2 := Lib.hid hg; clear hg
      go_wp2_with fail
      go_ret
      exact ⟨rfl, (HG.out.trans HG1.out).trans HG2.out⟩
    · clear hsq
      go_enter Try.func7, Try.ntmps7
      go_wp2_with fail
      refine (sqrt_any n h0 hu _).mono ?_; rintro e w1 ⟨rfl, hg⟩; rw [ER.out]
      have HG := Lib.hid hg; clear hg
      go_wp2_with fail
      refine (sqrt_any (r * r) q0 hsqI _).mono ?_; rintro e w1 ⟨rfl, hg⟩; rw [HS.out]
      have HG1 := Lib.hid hg; clear hg
      go_wp2_with fail
      refine (parted_any _).mono ?_; rintro e w' ⟨rfl, hg⟩
      have HG2 := Lib.hid hg; clear hg
      go_wp2_with fail
      go_ret
      exact ⟨rfl, (HG.out.trans HG1.out).trans HG2.out⟩

set_option maxHeartbeats 1000000 in
theorem walk_WholeCeil (w : World) (a : Int) (_ : I a) (b : Int) (_ : I b) :
    Calls Try.prog 5 #[.int .i64 a, .int .i64 b] w fun e w' => e = .returned (.bool true) ∧ Gr w w' := by
  rename_i ha hb
  by_cases h0 : fe a b = 0
  · have hq : fq a b = a.fdiv b := by unfold fq; rw [if_pos h0]
    have hr : fr a b = a.fmod b := by unfold fr; rw [if_pos h0]
    have hnb := (fe_ok.1 h0).1
    have hi := fdiv_I ha hb hnb (fe_ok.1 h0).2
    by_cases hz : a.fmod b = 0
    · have hc : cq a b = a.fdiv b := by unfold cq; rw [if_pos h0, if_pos hz]
      rw [hz] at hr
      generalize a.fdiv b = q at *
      have H1 := Lib.hid hq; have H2 := Lib.hid hr; have H3 := Lib.hid h0; have H4 := Lib.hid hc
      have HA := Lib.hid ha; have HB := Lib.hid hb
      clear hq hr h0 hc hnb hi hz ha hb
      go_enter Try.func5, Try.ntmps5
      go_wp2_with fail
      refine (floor_any a b HA.out HB.out _).mono ?_; rintro e w1 ⟨rfl, n, rfl⟩; rw [H1.out, H2.out, H3.out]
      go_wp2_with fail
      refine (ceil_any a b HA.out HB.out _).mono ?_; rintro e w1 ⟨rfl, m, rfl⟩; rw [H4.out, H3.out]
      go_wp2_with fail
      refine (parted_any _).mono ?_; rintro e w' ⟨rfl, hg⟩
      have HG := Lib.hid hg; clear hg
      go_wp2_with fail
      go_ret
      exact ⟨rfl, Gr.trans (Gr.dn (Gr.refl _) _) HG.out⟩
    · have hc : cq a b = a.fdiv b + 1 := by unfold cq; rw [if_pos h0, if_neg hz]
      obtain ⟨i1, i2⟩ := fq_I ha hnb hb hz
      generalize a.fdiv b = q at *
      have hz2 : (a.fmod b == 0) = false := by simpa using hz
      have hz3 : (a.fmod b != 0) = true := by simpa using hz
      generalize a.fmod b = r at *
      have H1 := Lib.hid hq; have H2 := Lib.hid hr; have H3 := Lib.hid h0; have H4 := Lib.hid hc
      have HA := Lib.hid ha; have HB := Lib.hid hb
      clear hq hr h0 hc hnb ha hb
      obtain ⟨j1, j2⟩ := hi
      go_enter Try.func5, Try.ntmps5
      go_wp2_with fail
      refine (floor_any a b HA.out HB.out _).mono ?_; rintro e w1 ⟨rfl, n, rfl⟩; rw [H1.out, H2.out, H3.out]
      go_wp2_with fail
      refine (ceil_any a b HA.out HB.out _).mono ?_; rintro e w1 ⟨rfl, m, rfl⟩; rw [H4.out, H3.out]
      go_wp2_with fail
      refine (parted_any _).mono ?_; rintro e w' ⟨rfl, hg⟩
      have HG := Lib.hid hg; clear hg
      go_wp2_with fail
      go_ret
      exact ⟨retb (decide_eq_true (by omega)), Gr.trans (Gr.dn (Gr.refl _) _) HG.out⟩
  · have hc : cq a b = 0 := by unfold cq; rw [if_neg h0]
    have h1 : (fe a b != 0) = true := by simpa using h0
    have h2 : (fe a b == 0) = false := by simpa using h0
    have H4 := Lib.hid hc
    have HA := Lib.hid ha; have HB := Lib.hid hb
    clear h0 hc ha hb
    generalize hE : fe a b = E at *
    have HE := Lib.hid hE; clear hE
    go_enter Try.func5, Try.ntmps5
    go_wp2_with fail
    refine (floor_any a b HA.out HB.out _).mono ?_; rintro e w1 ⟨rfl, n, rfl⟩; rw [HE.out]
    go_wp2_with fail
    refine (ceil_any a b HA.out HB.out _).mono ?_; rintro e w1 ⟨rfl, m, rfl⟩; rw [H4.out, HE.out]
    go_wp2_with fail
    refine (parted_any _).mono ?_; rintro e w' ⟨rfl, hg⟩
    have HG := Lib.hid hg; clear hg
    go_wp2_with fail
    go_ret
    exact ⟨rfl, Gr.trans (Gr.dn (Gr.refl _) _) HG.out⟩
end Go.Proofs.Ytgfcbpofbckncaa
