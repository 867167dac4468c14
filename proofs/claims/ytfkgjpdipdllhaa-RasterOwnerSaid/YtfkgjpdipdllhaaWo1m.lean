/- The walk of RasterOwner. -/
import Derived.Test.YtfkgjpdipdllhaaWom
set_option linter.unusedVariables false
set_option linter.unusedSimpArgs false
namespace Go.Proofs.Ytfkgjpdipdllhaa
open Go.RowKit
open Mt Ro
set_option maxHeartbeats 8000000 in
set_option maxRecDepth 100000 in
theorem walk_RasterOwner (w : World) (W : Int) (_ : I W) (H : Int) (_ : I H) (a : Option Addr) (len cap : Nat) (zs : List (List Int)) (hr : Oi.IsRows 6 w a len zs) (hn : len ≤ cap ∧ (a = none → cap = 0)) :
    Calls Try.prog 4 #[.int .i64 W, .int .i64 H, .slice a len cap] w fun e w' => e = .returned (.bool true) ∧ Gr w w' := by
  by_cases hg : len ≤ 8 ∧ 1 ≤ W ∧ W ≤ 8 ∧ 1 ≤ H ∧ H ≤ 8
  · obtain ⟨hl8, hW1, hW8, hH1, hH8⟩ := hg
    obtain ⟨wn, rfl⟩ : ∃ wn : Nat, W = wn := ⟨W.toNat, by omega⟩
    obtain ⟨hn', rfl⟩ : ∃ hn : Nat, H = hn := ⟨H.toNat, by omega⟩
    have hzl := hr.1
    have HR := Lib.hid hr; have HO := Lib.hid owned_any
    have HOW := Lib.hid (owners_any (wn : Int) (hn' : Int) a len cap zs)
    clear hr hn
    have d1 : decide ((8 : Int) < (len : Int)) = false := by simp; omega
    have d1' : decide (8 < len) = false := by simp; omega
    have d2 : decide ((wn : Int) < 1) = false := by simp; omega
    have d3 : decide ((8 : Int) < (wn : Int)) = false := by simp; omega
    have d3' : decide (8 < wn) = false := by simp; omega
    have d4 : decide ((hn' : Int) < 1) = false := by simp; omega
    have d5 : decide ((8 : Int) < (hn' : Int)) = false := by simp; omega
    have d5' : decide (8 < hn') = false := by simp; omega
    have m1 : IntKind.i64.wrap ((wn : Int) * (hn' : Int)) = ((wn * hn' : Nat) : Int) := by
      rw [← Int.natCast_mul]
      have := Nat.mul_le_mul (show wn ≤ 8 by omega) (show hn' ≤ 8 by omega)
      exact IntWalk.i64_in _ (by omega)
    go_enter Try.func4, Try.ntmps4
    go_wp2_with fail
    refine (HOW.out _ HR.out (by omega)).mono ?_
    rintro e w1 ⟨a7, cap7, rfl, hrow, hg⟩
    clear d1 d1' d2 d3 d3' d4 d5 d5'
    rcases owE_01 (wn : Int) (hn' : Int) zs with h0 | ⟨h1, h1'⟩
    · have EL := Lib.hid (owL_at h0)
      have hlen : (owL (wn : Int) (hn' : Int) zs).length = wn * hn' := by rw [EL.out, outL_len]
      have hok := (owE_zero h0).2
      have HOK := Lib.hid hok
      rw [h0, hlen]
      rw [hlen, EL.out] at hrow
      have HROW := Lib.hid hrow; have HG := Lib.hid hg
      have hM : wn * hn' ≤ 64 := Nat.mul_le_mul (show wn ≤ 8 by omega) (show hn' ≤ 8 by omega)
      obtain ⟨M, eM⟩ : ∃ M, wn * hn' = M := ⟨_, rfl⟩
      rw [eM] at m1 hM HROW ⊢
      have EM := Lib.hid eM
      clear hrow hg hok eM hlen h0
      go_wp2_with fail
      go_loopw [9] (fun v9 wr => ∃ k : Nat, k ≤ M ∧ v9 = .int .i64 k ∧ Gr w1 wr) (fun v9 _ => M - (intOf v9).toNat)
      case atStart => exact ⟨0, Nat.zero_le _, rfl, Gr.refl _⟩
      case round =>
        obtain ⟨k, hk, rfl, hg⟩ := hrel
        have HK := Lib.hid hg
        clear hg
        by_cases hlt : k < M
        · obtain ⟨b7, off7, rfl, hb7, hc7, hI7⟩ := row_at (HROW.out.later HK.out) hlt
          have eo : (outL zs wn hn' zs.length).getD k 0 = owN zs (k % wn : Nat) (k / wn : Nat) len := by
            rw [List.getD_eq_getElem?_getD, outL_get (by rw [EM.out]; exact hlt), hzl]; rfl
          rw [eo] at hc7 hI7
          have hbd := owN_bd zs (k % wn : Nat) (k / wn : Nat) len
          have hcov := owN_cov (zs := zs) (x := (k % wn : Nat)) (y := (k / wn : Nat)) len
          have hnone := fun i hi h => owN_none (zs := zs) (x := (k % wn : Nat)) (y := (k / wn : Nat)) (i := i) len hi h
          have HCOV := Lib.hid hcov; have HNONE := Lib.hid hnone
          clear hcov hnone eo hI7
          have q1 := tmod_nat k wn
          have q2 := tdiv_nat k wn
          have hx7 : k % wn < wn := Nat.mod_lt _ (by omega)
          have hy7 : k / wn < hn' := Nat.div_lt_of_lt_mul (by rw [EM.out]; exact hlt)
          have q4 : ((wn : Int) == 0) = false := by simp; omega
          have q5 : ¬ (wn : Int) = 0 := by omega
          generalize k % wn = x at *
          generalize k / wn = y at *
          have q3 : IntKind.i64.wrap (y : Int) = (y : Int) := IntWalk.i64_in _ (by omega)
          generalize owN zs (x : Int) (y : Int) len = o at *
          have e1 : decide (o < -1) = false := by simp; omega
          have e2 : decide ((len : Int) ≤ o) = false := by simp; omega
          go_wp2_with fail
          go_loopw [10] (fun v10 wr2 => ∃ i : Nat, i ≤ len ∧ v10 = .int .i64 i ∧ Gr wr wr2 ∧ wr2.cell? ⟨b7, off7 + k, none⟩ = some (.int .i64 o)) (fun v10 _ => len - (intOf v10).toNat)
          case atStart => exact ⟨0, Nat.zero_le _, rfl, Gr.refl _, hc7⟩
          case round =>
            clear hc7
            obtain ⟨i, hi, rfl, hg, hc7⟩ := hrel
            have HI := Lib.hid hg; have HC7 := Lib.hid hc7
            clear hg
            by_cases hlti : i < len
            · obtain ⟨b, off, t0, t1, t2, t3, t4, t5, rfl, hbl, ez, c0, c1, c2, c3, c4, c5⟩ := rows6_at (HR.out.later ((HG.out.trans HK.out).trans HI.out)) hlti
              have hrg := badT_rgt (by have := HOK.out i (by omega); rw [ez] at this; exact this)
              have hfi := fi66_ok (x := (x : Int)) (y := (y : Int)) (by omega) (by omega) hrg
              have hcv := fun w => covers_at (x : Int) (y : Int) t0 t1 t2 t3 t4 t5 0 _ w rfl hfi
              have EZ := Lib.hid ez
              have g0 := row_gw c0; have g1 := row_gw c1; have g2 := row_gw c2; have g3 := row_gw c3; have g4 := row_gw c4; have g5 := row_gw c5
              clear c0 c1 c2 c3 c4 c5 hc7 ez hrg hfi
              have hi0 : (0 : Int) ≤ (i : Int) := by omega
              have hk0 : (0 : Int) ≤ (k : Int) := by omega
              go_wp2_with fail
              refine wp_region_gr (W := wr) (by kernel_rfl) (by kernel_rfl) (Gr.refl _) ?_
              repeat (go_big_quiet_step (fail))
              go_big_quiet_want; go_big_quiet_op
              go_big_quiet_call (exact Calls.cw (hcv _))
              repeat (go_big_quiet_step (fail))
              refine wpQuiet_nil ?_
              rintro _ ⟨z, rfl⟩
              have HZ := Lib.hid z.gr
              have hc7 := (z.gr.cell (lt_of_cell HC7.out)).trans HC7.out
              clear g0 g1 g2 g3 g4 g5 hcv
              generalize z.val = wz at *
              clear z
              have HC7' := Lib.hid hc7
              have hcase : (decide (o < 0) = true ∧ decide (o ≤ -1) = true ∧ ((i : Int) == o) = false ∧ cov [t0, t1, t2, t3, t4, t5] (x : Int) (y : Int) = false) ∨ (decide (o < 0) = false ∧ decide ((i : Int) < o) = true ∧ ((i : Int) == o) = false ∧ cov [t0, t1, t2, t3, t4, t5] (x : Int) (y : Int) = false) ∨ (decide (o < 0) = false ∧ decide ((i : Int) < o) = false ∧ ((i : Int) == o) = true ∧ cov [t0, t1, t2, t3, t4, t5] (x : Int) (y : Int) = true) ∨ (decide (o < 0) = false ∧ decide ((i : Int) < o) = false ∧ ((i : Int) == o) = false ∧ True) := by
                rw [← EZ.out]
                by_cases h1 : o < 0
                · left
                  exact ⟨by simpa using h1, by simp; omega, by simp; omega, HNONE.out i hlti (.inl (by omega))⟩
                · right
                  by_cases h2 : (i : Int) < o
                  · left
                    exact ⟨by simpa using h1, by simpa using h2, by simp; omega, HNONE.out i hlti (.inr h2)⟩
                  · right
                    by_cases h3 : (i : Int) = o
                    · left
                      refine ⟨by simpa using h1, by simpa using h2, by simpa using h3, ?_⟩
                      obtain ⟨j, j1, j2, j3⟩ := HCOV.out (by omega)
                      have : j = i := by omega
                      rw [← this]; exact j3
                    · right
                      exact ⟨by simpa using h1, by simpa using h2, by simpa using h3, trivial⟩
              generalize cov [t0, t1, t2, t3, t4, t5] (x : Int) (y : Int) = cv at *
              rcases hcase with ⟨e3, e4, e5, rfl⟩ | ⟨e3, e4, e5, rfl⟩ | ⟨e3, e4, e5, rfl⟩ | ⟨e3, e4, e5, -⟩
              rotate_left 3
              cases cv
              all_goals
                go_wp2_with fail
                go_roundw
                case rel => exact ⟨i + 1, by omega, by go_num, HI.out.trans HZ.out, HC7'.out⟩
                case measure => simp [intOf]; omega
            · have hie : i = len := by omega
              clear hc7
              go_wp2_with fail
              go_roundw
              case rel => exact ⟨k + 1, by omega, by go_num, HK.out.trans HI.out⟩
              case measure => simp [intOf]; omega
        · have hkM : k = M := by omega
          go_wp2_with fail
          refine (HO.out _).mono ?_
          rintro e w2 ⟨rfl, hg⟩
          have HG2 := Lib.hid ((HG.out.trans HK.out).trans hg)
          clear hg
          go_wp2_with fail
          go_ret
          exact ⟨rfl, HG2.out⟩
    · rw [h1, h1']
      have HG := Lib.hid hg
      clear hrow hg m1
      rw [List.length_nil]
      go_wp2_with fail
      refine (HO.out _).mono ?_
      rintro e w2 ⟨rfl, hg⟩
      have HG2 := Lib.hid (HG.out.trans hg)
      clear hg
      go_wp2_with fail
      go_ret
      exact ⟨rfl, HG2.out⟩
  · exact owner_early W H a len cap w hg
end Go.Proofs.Ytfkgjpdipdllhaa
