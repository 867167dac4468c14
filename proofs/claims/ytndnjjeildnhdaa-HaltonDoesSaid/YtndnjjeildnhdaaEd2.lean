/- The walk of HaltonDoes. -/
import Derived.Test.YtndnjjeildnhdaaEd1
set_option linter.unusedVariables false
set_option linter.unusedSimpArgs false
namespace Go.Proofs.Ytndnjjeildnhdaa
open Go.RowKit
open Mt Ro
namespace Mt
def lnD (n : Int) : Nat := if 0 ≤ n ∧ n ≤ 64 then n.toNat else 0
def erD (n : Int) : Int := if 0 ≤ n ∧ n ≤ 64 then 0 else 1
theorem lnD_le (n : Int) : lnD n ≤ 64 := by unfold lnD; split <;> omega
theorem disc_both (n : Int) (h : n ≤ 64 ∨ 256 < n) (w : World) : Calls Try.prog 12 #[.int .i64 n] w fun e w' => ∃ (a : Option Addr) (cap : Nat), e = .returned (.tuple #[.slice a (lnD n) cap, .int .i64 (erD n)]) ∧ Row2 w' a (lnD n) cap (pts (lnD n)) ∧ Gr w w' := by
  by_cases h0 : 0 ≤ n ∧ n ≤ 64
  · have e1 : lnD n = n.toNat := by unfold lnD; rw [if_pos h0]
    have e2 : erD n = 0 := by unfold erD; rw [if_pos h0]
    rw [e1, e2]
    have e3 : n = ((n.toNat : Nat) : Int) := by omega
    have := disc_any n.toNat (by omega) w
    rw [← e3] at this
    exact this
  · have e1 : lnD n = 0 := by unfold lnD; rw [if_neg h0]
    have e2 : erD n = 1 := by unfold erD; rw [if_neg h0]
    rw [e1, e2]
    refine (disc_bad n (by omega) w).mono ?_
    rintro e w' ⟨rfl, rfl⟩
    exact ⟨none, 0, rfl, ⟨Oi.IsRows.nil _ _ _, Nat.le_refl _, fun _ => rfl⟩, Gr.refl _⟩
theorem rdisc_both (n : Int) (h : n ≤ 64 ∨ 256 < n) (w : World) : Calls Try.prog 13 #[.int .i64 n] w fun e w' => ∃ (a : Option Addr) (cap : Nat), e = .returned (.tuple #[.slice a (lnD n) cap, .int .i64 (erD n)]) ∧ Row2 w' a (lnD n) cap (pts (lnD n)) ∧ Gr w w' := by
  by_cases h0 : 0 ≤ n ∧ n ≤ 64
  · have e1 : lnD n = n.toNat := by unfold lnD; rw [if_pos h0]
    have e2 : erD n = 0 := by unfold erD; rw [if_pos h0]
    rw [e1, e2]
    have e3 : n = ((n.toNat : Nat) : Int) := by omega
    have := rdisc_any n.toNat (by omega) w
    rw [← e3] at this
    exact this
  · have e1 : lnD n = 0 := by unfold lnD; rw [if_neg h0]
    have e2 : erD n = 1 := by unfold erD; rw [if_neg h0]
    rw [e1, e2]
    refine (rdisc_bad n (by omega) w).mono ?_
    rintro e w' ⟨rfl, rfl⟩
    exact ⟨none, 0, rfl, ⟨Oi.IsRows.nil _ _ _, Nat.le_refl _, fun _ => rfl⟩, Gr.refl _⟩
end Mt
set_option maxHeartbeats 8000000 in
set_option maxRecDepth 100000 in
theorem walk_HaltonDoes (w : World) (b : Int) (_ : I b) (i : Int) (_ : I i) (n : Int) (_ : I n) (px py : Int) (_ : I px) (_ : I py) :
    Calls Try.prog 3 #[.int .i64 b, .int .i64 i, .int .i64 n, .agg #[.int .i64 px, .int .i64 py]] w fun e w' => e = .returned (.bool true) ∧ Gr w w' := by
  by_cases hn : 64 < n ∧ n ≤ 256
  · have d1 : decide (64 < n) = true := by simp; omega
    have d2 : decide (n ≤ 256) = true := by simp; omega
    go_enter Try.func3, Try.ntmps3
    go_wp2_with fail
    go_ret
    exact ⟨rfl, (Gr.refl _).alloc _⟩
  · have hn2 : n ≤ 64 ∨ 256 < n := by omega
    have hd : decide (64 < n) = false ∨ (decide (64 < n) = true ∧ decide (n ≤ 256) = false) := by
      by_cases h : 64 < n
      · right; exact ⟨by simp; omega, by simp; omega⟩
      · left; simp; omega
    have hI0 := inverse_any b i
    have hI1 := rinverse_any b i
    have hP0 := hpoint_raw i
    have hP1 := rpoint_raw i
    have hD0 := disc_both n hn2
    have hD1 := rdisc_both n hn2
    have hF0 := hinside_any px py
    have hF1 := rinside_any px py
    clear hn hn2
    generalize Sx.fi 72 0 [b, i] = N at *
    generalize Sx.fi 72 1 [b, i] = D at *
    generalize Sx.fi 72 2 [b, i] = E at *
    generalize Sx.fi 73 0 [i] = X at *
    generalize Sx.fi 73 1 [i] = Y at *
    generalize Sx.fi 73 2 [i] = F at *
    generalize Sx.hins px py = ins at *
    generalize erD n = er at *
    generalize lnD n = ln at *
    have HI0 := Lib.hid hI0; have HI1 := Lib.hid hI1; have HP0 := Lib.hid hP0; have HP1 := Lib.hid hP1; have HD0 := Lib.hid hD0; have HD1 := Lib.hid hD1; have HF0 := Lib.hid hF0; have HF1 := Lib.hid hF1
    clear hI0 hI1 hP0 hP1 hD0 hD1 hF0 hF1
    rcases hd with d1 | ⟨d1, d2⟩
    all_goals
      go_enter Try.func3, Try.ntmps3
      go_wp2_with fail
      refine (HI0.out _).mono ?_
      rintro e w1 ⟨rfl, hg⟩
      have BX := Lib.hid (Bx.new (w := w) (T := 23) (vs := [.int .i64 px, .int .i64 py]) rfl)
      have HG := Lib.hid ((Gr.refl w).alloc (.cells #[.int .i64 px, .int .i64 py] 23))
      have BX := Lib.hid (BX.out.gr hg)
      have HG := Lib.hid (HG.out.trans hg)
      clear hg
      go_wp2_with fail
      refine (HI1.out _).mono ?_
      rintro e w2 ⟨rfl, hg⟩
      have BX := Lib.hid (BX.out.alloc (.cells #[.int .i64 N, .int .i64 D] 25))
      have BA := Lib.hid (Bx.new (w := w1) (T := 25) (vs := [.int .i64 N, .int .i64 D]) rfl)
      have HG := Lib.hid (HG.out.alloc (.cells #[.int .i64 N, .int .i64 D] 25))
      have BX := Lib.hid (BX.out.gr hg)
      have BA := Lib.hid (BA.out.gr hg)
      have HG := Lib.hid (HG.out.trans hg)
      clear hg
      go_wp2_with fail
      refine (HP0.out _).mono ?_
      rintro e w3 ⟨rfl, hg⟩
      have BX := Lib.hid (BX.out.alloc (.cells #[.int .i64 N, .int .i64 D] 25))
      have BA := Lib.hid (BA.out.alloc (.cells #[.int .i64 N, .int .i64 D] 25))
      have BB := Lib.hid (Bx.new (w := w2) (T := 25) (vs := [.int .i64 N, .int .i64 D]) rfl)
      have HG := Lib.hid (HG.out.alloc (.cells #[.int .i64 N, .int .i64 D] 25))
      have BX := Lib.hid (BX.out.gr hg)
      have BA := Lib.hid (BA.out.gr hg)
      have BB := Lib.hid (BB.out.gr hg)
      have HG := Lib.hid (HG.out.trans hg)
      clear hg
      go_wp2_with fail
      refine (HP1.out _).mono ?_
      rintro e w4 ⟨rfl, hg⟩
      have BX := Lib.hid (BX.out.alloc (.cells #[.int .i64 X, .int .i64 Y] 23))
      have BA := Lib.hid (BA.out.alloc (.cells #[.int .i64 X, .int .i64 Y] 23))
      have BB := Lib.hid (BB.out.alloc (.cells #[.int .i64 X, .int .i64 Y] 23))
      have BQ := Lib.hid (Bx.new (w := w3) (T := 23) (vs := [.int .i64 X, .int .i64 Y]) rfl)
      have HG := Lib.hid (HG.out.alloc (.cells #[.int .i64 X, .int .i64 Y] 23))
      have BX := Lib.hid (BX.out.gr hg)
      have BA := Lib.hid (BA.out.gr hg)
      have BB := Lib.hid (BB.out.gr hg)
      have BQ := Lib.hid (BQ.out.gr hg)
      have HG := Lib.hid (HG.out.trans hg)
      clear hg
      go_wp2_with fail
      refine (HD0.out _).mono ?_
      rintro e w5 ⟨a1, cap1, rfl, hr, hg⟩
      have BX := Lib.hid (BX.out.alloc (.cells #[.int .i64 X, .int .i64 Y] 23))
      have BA := Lib.hid (BA.out.alloc (.cells #[.int .i64 X, .int .i64 Y] 23))
      have BB := Lib.hid (BB.out.alloc (.cells #[.int .i64 X, .int .i64 Y] 23))
      have BQ := Lib.hid (BQ.out.alloc (.cells #[.int .i64 X, .int .i64 Y] 23))
      have BR := Lib.hid (Bx.new (w := w4) (T := 23) (vs := [.int .i64 X, .int .i64 Y]) rfl)
      have HG := Lib.hid (HG.out.alloc (.cells #[.int .i64 X, .int .i64 Y] 23))
      have BX := Lib.hid (BX.out.gr hg)
      have BA := Lib.hid (BA.out.gr hg)
      have BB := Lib.hid (BB.out.gr hg)
      have BQ := Lib.hid (BQ.out.gr hg)
      have BR := Lib.hid (BR.out.gr hg)
      have HG := Lib.hid (HG.out.trans hg)
      have R1 := Lib.hid hr
      clear hr
      clear hg
      go_wp2_with fail
      refine (HD1.out _).mono ?_
      rintro e w6 ⟨a2, cap2, rfl, hr, hg⟩
      have BX := Lib.hid (BX.out.gr hg)
      have BA := Lib.hid (BA.out.gr hg)
      have BB := Lib.hid (BB.out.gr hg)
      have BQ := Lib.hid (BQ.out.gr hg)
      have BR := Lib.hid (BR.out.gr hg)
      have R1 := Lib.hid (R1.out.later hg)
      have HG := Lib.hid (HG.out.trans hg)
      have R2 := Lib.hid hr
      clear hr
      clear hg
      go_wp2_with fail
      have hS := fun x : GW w6 => strewn_any x.val
      have hM := fun x : GW w6 => same_any a1 a2 ln cap1 cap2 (pts ln) x.val (R1.out.later x.gr).1 (R2.out.later x.gr).1
      have hF0 := fun x : GW w6 => HF0.out x.val
      have hF1 := fun x : GW w6 => HF1.out x.val
      have g0BX := BX.out.blk.gw 0 rfl; have g1BX := BX.out.blk.gw 1 rfl
      have g0BA := BA.out.blk.gw 0 rfl; have g1BA := BA.out.blk.gw 1 rfl
      have g0BB := BB.out.blk.gw 0 rfl; have g1BB := BB.out.blk.gw 1 rfl
      have g0BQ := BQ.out.blk.gw 0 rfl; have g1BQ := BQ.out.blk.gw 1 rfl
      have g0BR := BR.out.blk.gw 0 rfl; have g1BR := BR.out.blk.gw 1 rfl
      refine wp_region_gr (W := w6) (by kernel_rfl) (by kernel_rfl) (Gr.refl _) ?_
      repeat (go_big_quiet_step (fail))
      go_big_quiet_want; go_big_quiet_op
      go_big_quiet_call (exact Calls.cw (hS _))
      repeat (go_big_quiet_step (fail))
      go_big_quiet_want; go_big_quiet_op
      go_big_quiet_call (exact Calls.cw (hM _))
      repeat (go_big_quiet_step (fail))
      go_big_quiet_want; go_big_quiet_op
      go_big_quiet_call (exact Calls.cw (hF0 _))
      repeat (go_big_quiet_step (fail))
      go_big_quiet_want; go_big_quiet_op
      go_big_quiet_call (exact Calls.cw (hF1 _))
      repeat (go_big_quiet_step (fail))
      refine wpQuiet_nil ?_
      rintro _ ⟨z, rfl⟩
      have HZ := Lib.hid (HG.out.trans z.gr)
      clear hS hM hF0 hF1
      generalize z.val = wz at *
      clear z g0BX g1BX g0BA g1BA g0BB g1BB g0BQ g1BQ g0BR g1BR
      go_wp2_with fail
      go_ret
      exact ⟨rfl, HZ.out⟩
end Go.Proofs.Ytndnjjeildnhdaa
