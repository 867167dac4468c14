/- The walk of RasterPoint. -/
import Derived.Test.YtfkgjpdipdllhaaWp
set_option linter.unusedVariables false
set_option linter.unusedSimpArgs false
namespace Go.Proofs.Ytfkgjpdipdllhaa
open Go.RowKit
open Mt Ro
set_option maxHeartbeats 8000000 in
set_option maxRecDepth 100000 in
theorem walk_RasterPoint (w : World) (W : Int) (_ : I W) (H : Int) (_ : I H) (a : Option Addr) (len cap : Nat) (zs : List (List Int)) (hr : Oi.IsRows 6 w a len zs) (hn : len ≤ cap ∧ (a = none → cap = 0)) (px py : Int) (_ : I px) (_ : I py) :
    Calls Try.prog 7 #[.int .i64 W, .int .i64 H, .slice a len cap, .agg #[.int .i64 px, .int .i64 py]] w fun e w' => e = .returned (.bool true) ∧ Gr w w' := by
  by_cases hg : len ≤ 8 ∧ 1 ≤ W ∧ W ≤ 12 ∧ 1 ≤ H ∧ H ≤ 12
  · obtain ⟨hl8, hW1, hW8, hH1, hH8⟩ := hg
    obtain ⟨wn, rfl⟩ : ∃ wn : Nat, W = wn := ⟨W.toNat, by omega⟩
    obtain ⟨hn', rfl⟩ : ∃ hn : Nat, H = hn := ⟨H.toNat, by omega⟩
    have hzl := hr.1
    have HR := Lib.hid hr; have HO := Lib.hid owned_any
    have HOW := Lib.hid (owners_any (wn : Int) (hn' : Int) a len cap zs)
    have hB0 : Bx (w.alloc (.cells #[.int .i64 px, .int .i64 py] 24)) w.heap.size 24 [.int .i64 px, .int .i64 py] := Bx.new (vs := [.int .i64 px, .int .i64 py]) rfl
    have HB0 := Lib.hid hB0
    have HG0 := Lib.hid ((Gr.refl w).alloc (.cells #[.int .i64 px, .int .i64 py] 24))
    clear hr hn hB0
    have d1 : decide ((8 : Int) < (len : Int)) = false := by simp; omega
    have d1' : decide (8 < len) = false := by simp; omega
    have d2 : decide ((wn : Int) < 1) = false := by simp; omega
    have d3 : decide ((12 : Int) < (wn : Int)) = false := by simp; omega
    have d3' : decide (12 < wn) = false := by simp; omega
    have d4 : decide ((hn' : Int) < 1) = false := by simp; omega
    have d5 : decide ((12 : Int) < (hn' : Int)) = false := by simp; omega
    have d5' : decide (12 < hn') = false := by simp; omega
    have m1 : IntKind.i64.wrap ((wn : Int) * (hn' : Int)) = ((wn * hn' : Nat) : Int) := by
      rw [← Int.natCast_mul]
      have := Nat.mul_le_mul (show wn ≤ 12 by omega) (show hn' ≤ 12 by omega)
      exact IntWalk.i64_in _ (by omega)
    go_enter Try.func7, Try.ntmps7
    go_wp2_with fail
    refine (HOW.out _ (HR.out.later HG0.out) (by omega)).mono ?_
    rintro e w1 ⟨a7, cap7, rfl, hrow, hg⟩
    clear d1 d1' d2 d3 d3' d4 d5 d5'
    rcases owE_01 (wn : Int) (hn' : Int) zs with h0 | ⟨h1, h1'⟩
    · have EL := Lib.hid (owL_at h0)
      have hlen : (owL (wn : Int) (hn' : Int) zs).length = wn * hn' := by rw [EL.out, outL_len]
      have hok := (owE_zero h0).2
      have HOK := Lib.hid hok
      rw [h0, hlen]
      rw [hlen, EL.out] at hrow
      have HROW := Lib.hid hrow; have HG := Lib.hid (HG0.out.trans hg); have HB := Lib.hid (HB0.out.gr hg)
      have hM : wn * hn' ≤ 144 := Nat.mul_le_mul (show wn ≤ 12 by omega) (show hn' ≤ 12 by omega)
      obtain ⟨M, eM⟩ : ∃ M, wn * hn' = M := ⟨_, rfl⟩
      rw [eM] at m1 hM HROW ⊢
      have EM := Lib.hid eM
      clear hrow hg hok eM hlen h0
      go_wp2_with fail
      go_loopw [11] (fun v11 wr => ∃ i : Nat, i ≤ len ∧ v11 = .int .i64 i ∧ Gr w1 wr) (fun v11 _ => len - (intOf v11).toNat)
      case atStart => exact ⟨0, Nat.zero_le _, rfl, Gr.refl _⟩
      case round =>
        obtain ⟨i, hi, rfl, hg⟩ := hrel
        have HK := Lib.hid hg
        clear hg
        by_cases hlti : i < len
        · obtain ⟨b, off, t0, t1, t2, t3, t4, t5, rfl, hbl, ez, c0, c1, c2, c3, c4, c5⟩ := rows6_at (HR.out.later (HG.out.trans HK.out)) hlti
          have hbad : badT (wn : Int) (hn' : Int) [t0, t1, t2, t3, t4, t5] = false := by have := HOK.out i (by omega); rw [ez] at this; exact this
          have hrg := badT_rgt hbad
          have hin := in_any px py t0 t1 t2 t3 t4 t5
          have HT := Lib.hid (fun h => texel_has (wn := wn) (hn := hn') (px := px) (py := py) (by omega) (by omega) hbad h)
          have EZ := Lib.hid ez; have HRG := Lib.hid hrg
          have hBk := HB.out.gr HK.out
          have g0 := row_gw c0; have g1 := row_gw c1; have g2 := row_gw c2; have g3 := row_gw c3; have g4 := row_gw c4; have g5 := row_gw c5
          have gp0 := hBk.blk.gw 0 rfl; have gp1 := hBk.blk.gw 1 rfl
          have HBK := Lib.hid hBk
          have hlt0 := hBk.lt
          clear c0 c1 c2 c3 c4 c5 ez hbad hrg hBk
          have hi0 : (0 : Int) ≤ (i : Int) := by omega
          go_wp2_with fail
          refine wp_region_gr (W := wr) (by kernel_rfl) (by kernel_rfl) (Gr.refl _) ?_
          repeat (go_big_quiet_step (fail))
          go_big_quiet_want; go_big_quiet_op
          go_big_quiet_call (exact Calls.cw (hin _))
          repeat (go_big_quiet_step (fail))
          refine wpQuiet_nil ?_
          rintro _ ⟨z, rfl⟩
          have HZ := Lib.hid z.gr
          clear g0 g1 g2 g3 g4 g5 gp0 gp1 hin hlt0
          generalize z.val = wz at *
          clear z
          by_cases hq : Sx.fi 57 1 [px, py, t0, t1, t2, t3, t4, t5] = 0 ∧ Sx.fi 57 0 [px, py, t0, t1, t2, t3, t4, t5] ≠ 0
          · obtain ⟨x, y, hx, hy, e0, e1, e2, hcv⟩ := HT.out hq.2
            have b1 : (Sx.fi 57 1 [px, py, t0, t1, t2, t3, t4, t5] != 0) = false := by simpa using hq.1
            have b2 : (Sx.fi 57 0 [px, py, t0, t1, t2, t3, t4, t5] == 0) = false := by simpa using hq.2
            generalize Sx.fi 57 1 [px, py, t0, t1, t2, t3, t4, t5] = f1 at *
            generalize Sx.fi 57 0 [px, py, t0, t1, t2, t3, t4, t5] = f0 at *
            clear hq
            have hBz := HBK.out.gr HZ.out
            have p0 := hBz.blk.cell 0 rfl; have p1 := hBz.blk.cell 1 rfl
            have hlt0 := hBz.lt
            have hown := owner_of (zs := zs) (x := (x : Int)) (y := (y : Int)) (i := i) (n := len) hlti (by rw [EZ.out]; exact hcv)
            clear hBz HT
            go_wp2_with fail
            refine (texel_at px py x y 0 _ e0 e1 e2).mono ?_
            rintro e w3 ⟨rfl, hg3⟩
            have HG3 := Lib.hid ((HG.out.trans HK.out).trans (HZ.out.trans hg3))
            have HK3 := Lib.hid (HK.out.trans (HZ.out.trans hg3))
            clear hg3 p0 p1 hlt0
            obtain ⟨b', off', s0, s1, s2, s3, s4, s5, eb, hbl', ez', c0, c1, c2, c3, c4, c5⟩ := rows6_at (HR.out.later HG3.out) hlti
            cases eb
            have es := EZ.out.symm.trans ez'
            obtain ⟨rfl, rfl, rfl, rfl, rfl, rfl⟩ : t0 = s0 ∧ t1 = s1 ∧ t2 = s2 ∧ t3 = s3 ∧ t4 = s4 ∧ t5 = s5 := by simpa using es
            clear ez' es
            go_wp2_with fail
            refine (covers_at (x : Int) (y : Int) t0 t1 t2 t3 t4 t5 0 true _ hcv (fi66_ok (by omega) (by omega) HRG.out)).mono ?_
            rintro e w4 ⟨rfl, hg4⟩
            have HG4 := Lib.hid (HG3.out.trans hg4); have HK4 := Lib.hid (HK3.out.trans hg4)
            clear hg4 c0 c1 c2 c3 c4 c5
            have hp : y * wn + x < M := by
              have h1 : (y + 1) * wn ≤ hn' * wn := Nat.mul_le_mul_right _ (by omega)
              rw [Nat.add_mul, Nat.mul_comm hn' wn, EM.out] at h1; omega
            obtain ⟨b7, off7, rfl, hb7, hc7, hI7⟩ := row_at (HROW.out.later HK4.out) hp
            have eo : (outL zs wn hn' zs.length).getD (y * wn + x) 0 = owN zs (x : Int) (y : Int) len := by
              rw [List.getD_eq_getElem?_getD, outL_get (by rw [EM.out]; exact hp), hzl]
              rw [show (y * wn + x) % wn = x by rw [Nat.add_comm, Nat.add_mul_mod_self_right, Nat.mod_eq_of_lt hx], show (y * wn + x) / wn = y by rw [Nat.add_comm, Nat.add_mul_div_right _ _ (by omega), Nat.div_eq_of_lt hx, Nat.zero_add]]
              rfl
            rw [eo] at hc7 hI7
            clear eo hcv e0 e1 e2
            generalize owN zs (x : Int) (y : Int) len = o at *
            have hmc : (y : Int) * (wn : Int) = ((y * wn : Nat) : Int) := (Int.natCast_mul y wn).symm
            obtain ⟨p, hp'⟩ : ∃ p, y * wn = p := ⟨_, rfl⟩
            obtain ⟨q, hq'⟩ : ∃ q, p + x = q := ⟨_, rfl⟩
            rw [hp', hq'] at hp hc7
            rw [hp'] at hmc
            have u1 : IntKind.i64.wrap ((y : Int) * (wn : Int)) = (p : Int) := by rw [hmc]; exact IntWalk.i64_in _ (by omega)
            have u2 : IntKind.i64.wrap ((p : Int) + (x : Int)) = (q : Int) := by rw [← Int.natCast_add, hq']; exact IntWalk.i64_in _ (by omega)
            have v1 : decide ((wn : Int) ≤ (x : Int)) = false := by simp; omega
            have v1' : decide (wn ≤ x) = false := by simp; omega
            have v2 : decide ((hn' : Int) ≤ (y : Int)) = false := by simp; omega
            have v2' : decide (hn' ≤ y) = false := by simp; omega
            have v3 : decide (o < 0) = false := by simp; omega
            have v4 : decide ((i : Int) < o) = false := by simp; omega
            have v5 : (0 : Int) ≤ (q : Int) := by omega
            clear hmc hp' hq' hown m1
            go_wp2_with fail
            go_roundw
            case rel => exact ⟨i + 1, by omega, by go_num, HK4.out⟩
            case measure => simp [intOf]; omega
          · have hq2 : (Sx.fi 57 1 [px, py, t0, t1, t2, t3, t4, t5] != 0) = true ∨ ((Sx.fi 57 1 [px, py, t0, t1, t2, t3, t4, t5] != 0) = false ∧ (Sx.fi 57 0 [px, py, t0, t1, t2, t3, t4, t5] == 0) = true) := by
              by_cases h : Sx.fi 57 1 [px, py, t0, t1, t2, t3, t4, t5] = 0
              · right
                refine ⟨by simpa using h, ?_⟩
                by_cases h2 : Sx.fi 57 0 [px, py, t0, t1, t2, t3, t4, t5] = 0
                · simpa using h2
                · exact absurd ⟨h, h2⟩ hq
              · left; simpa using h
            clear hq HT
            generalize Sx.fi 57 1 [px, py, t0, t1, t2, t3, t4, t5] = f1 at *
            generalize Sx.fi 57 0 [px, py, t0, t1, t2, t3, t4, t5] = f0 at *
            rcases hq2 with h1 | ⟨h1, h2⟩
            all_goals
              go_wp2_with fail
              go_roundw
              case rel => exact ⟨i + 1, by omega, by go_num, HK.out.trans HZ.out⟩
              case measure => simp [intOf]; omega
        · have hie : i = len := by omega
          go_wp2_with fail
          refine (HO.out _).mono ?_
          rintro e w2 ⟨rfl, hg⟩
          have HG2 := Lib.hid ((HG.out.trans HK.out).trans hg)
          clear hg
          go_wp2_with fail
          go_ret
          exact ⟨rfl, HG2.out⟩
    · rw [h1, h1']
      have HG := Lib.hid (HG0.out.trans hg)
      clear hrow hg m1
      rw [List.length_nil]
      go_wp2_with fail
      refine (HO.out _).mono ?_
      rintro e w2 ⟨rfl, hg⟩
      have HG2 := Lib.hid (HG.out.trans hg)
      clear hg
      go_wp2_with fail
      go_ret
      exact ⟨rfl, HG2.out⟩
  · exact point_early W H px py a len cap w hg
end Go.Proofs.Ytfkgjpdipdllhaa
