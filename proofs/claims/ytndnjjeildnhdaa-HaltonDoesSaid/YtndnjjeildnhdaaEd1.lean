/- Chapter 23: the reference's Disc, walked. -/
import Derived.Test.YtndnjjeildnhdaaDv
import Derived.Test.YtndnjjeildnhdaaH4
set_option linter.unusedVariables false
set_option linter.unusedSimpArgs false
namespace Go.Proofs.Ytndnjjeildnhdaa
open Go.RowKit
namespace Mt
open Ro
theorem t64 (m : Int) : (0 ≤ m ∧ m.tdiv 64 = m / 64 ∧ m.tmod 64 = m % 64) ∨ (m < 0 ∧ m.tdiv 64 = -((-m) / 64) ∧ m.tmod 64 = -((-m) % 64)) := by
  by_cases h : 0 ≤ m
  · left; exact ⟨h, Int.tdiv_eq_ediv_of_nonneg h, Int.tmod_eq_emod_of_nonneg h⟩
  · right
    refine ⟨by omega, ?_, ?_⟩
    · have := Int.neg_tdiv (-m) 64
      rw [Int.neg_neg] at this
      rw [this, Int.tdiv_eq_ediv_of_nonneg (by omega)]
    · have := Int.neg_tmod (-m) 64
      rw [Int.neg_neg] at this
      rw [this, Int.tmod_eq_emod_of_nonneg (by omega)]
theorem rfl_any (m : Int) (h0 : -65536 ≤ m) (h1 : m ≤ 65536) (w : World) : Calls Try.prog 22 #[.int .i64 m, .int .i64 64] w fun e w' => e = .returned (.tuple #[.int .i64 (m / 64), .int .i64 (m % 64), .int .i64 0]) ∧ w = w' := by
  have ht := t64 m
  have q0 : (m == -9223372036854775808) = false := by simp; omega
  have hc : (m.tmod 64 = 0 ∧ m.tdiv 64 = m / 64 ∧ m % 64 = 0) ∨ (0 < m.tmod 64 ∧ m.tdiv 64 = m / 64 ∧ m.tmod 64 = m % 64) ∨ (m.tmod 64 < 0 ∧ m.tdiv 64 = m / 64 + 1 ∧ m.tmod 64 + 64 = m % 64) := by omega
  have b0 : -1024 ≤ m / 64 ∧ m / 64 ≤ 1024 ∧ 0 ≤ m % 64 ∧ m % 64 < 64 := by omega
  clear ht
  generalize hq : m.tdiv 64 = q at *
  generalize hr : m.tmod 64 = r at *
  generalize m / 64 = Q at *
  generalize m % 64 = R at *
  have w1 : IntKind.i64.wrap q = q := IntWalk.i64_in _ (by omega)
  have w2 : IntKind.i64.wrap r = r := IntWalk.i64_in _ (by omega)
  rcases hc with ⟨rfl, rfl, rfl⟩ | ⟨h2, rfl, rfl⟩ | ⟨h2, rfl, rfl⟩
  · go_enter Try.func22, Try.ntmps22
    go_wp2
    go_ret3
    exact ⟨rfl, rfl⟩
  · have d1 : (r != 0) = true := by simp; omega
    have d2 : decide (r < 0) = false := by simp; omega
    go_enter Try.func22, Try.ntmps22
    go_wp2
    go_ret3
    exact ⟨rfl, rfl⟩
  · have d1 : (r != 0) = true := by simp; omega
    have d2 : decide (r < 0) = true := by simp; omega
    have w3 : IntKind.i64.wrap (Q + 1 - 1) = Q + 1 - 1 := IntWalk.i64_in _ (by omega)
    have w4 : IntKind.i64.wrap (r + 64) = r + 64 := IntWalk.i64_in _ (by omega)
    have e3 : Q + 1 - 1 = Q := by omega
    go_enter Try.func22, Try.ntmps22
    go_wp2
    go_ret3
    exact ⟨ret3 (by omega) rfl rfl, rfl⟩
theorem rpoint_raw (x : Int) (w : World) : Calls Try.prog 11 #[.int .i64 x] w fun e w' => e = .returned (.tuple #[.agg #[.int .i64 (Sx.fi 73 0 [x]), .int .i64 (Sx.fi 73 1 [x])], .int .i64 (Sx.fi 73 2 [x])]) ∧ Gr w w' :=
  Sx.flat_run (Sx.c_rhpoint w) rfl [x] rfl trivial
theorem rpoint_any (x : Int) (h0 : 0 ≤ x) (h1 : x ≤ 65535) (w : World) : Calls Try.prog 11 #[.int .i64 x] w fun e w' => e = .returned (.tuple #[.agg #[.int .i64 (Sx.hpt 2 x), .int .i64 (Sx.hpt 3 x)], .int .i64 0]) ∧ Gr w w' := by
  obtain ⟨e0, e1, e2⟩ := fi73 (x := x) (by simp [Sx.pok]; omega)
  have := rpoint_raw x w
  rw [e0, e1, e2] at this
  exact this
theorem rinside_any (x y : Int) (w : World) : Calls Try.prog 17 #[.agg #[.int .i64 x, .int .i64 y]] w fun e w' => e = .returned (.bool (Sx.hins x y)) ∧ Gr w w' :=
  Sx.flat_run (Sx.c_rhins w) rfl [x, y] rfl trivial
set_option maxHeartbeats 8000000 in
set_option maxRecDepth 100000 in
theorem rdisc_any (n : Nat) (hn : n ≤ 64) (w : World) :
    Calls Try.prog 13 #[.int .i64 n] w fun e w' => ∃ a cap, e = .returned (.tuple #[.slice a n cap, .int .i64 0]) ∧ Row2 w' a n cap (pts n) ∧ Gr w w' := by
  obtain ⟨i0, hi, hz0, hz1, hz2⟩ := info_parts infoV
  have q1 : decide ((n : Int) < 0) = false := by simp
  have q2 : decide (256 < (n : Int)) = false := by simp; omega
  have q3 : decide (256 < n) = false := by simp; omega
  go_enter Try.func13, Try.ntmps13
  go_wp2_with fail
  go_loopw [4, 5] (fun v4 v5 wr => ∃ (k : Nat) (x : Int) (m : Nat), x = ((k + 1 : Nat) : Int) ∧ m = (dl k).length ∧ k ≤ 65535 ∧ v5 = .int .i64 x ∧ wr.ownsRow w.heap.size 23 2 v4 m (fl (dl k)) ∧ m ≤ n ∧ Gr w wr) (fun _ v5 _ => 65537 - (intOf v5).toNat)
  case atStart => exact ⟨0, 1, 0, rfl, rfl, by omega, rfl, World.ownsRow_nil _ _ _ _, by omega, Gr.refl _⟩
  case round =>
    obtain ⟨k, x, m, hx, hm, hk, rfl, hown, hln, hg⟩ := hrel
    obtain ⟨a, cap, rfl⟩ := own_slice hown
    have HO := Lib.hid hown; have HG := Lib.hid hg; have HX := Lib.hid hx; have HM := Lib.hid hm
    clear hown hg hx hm
    have hx0 : 0 ≤ x := by have := HX.out; omega
    have hx2 : x ≤ 65536 := by have := HX.out; omega
    by_cases hg : x ≤ 65535 ∧ m < n
    · obtain ⟨hg1, hg2⟩ := hg
      have d1 : decide (x ≤ 65535) = true := by simp; omega
      have d2 : decide ((m : Int) < (n : Int)) = true := by simp; omega
      have d3 : decide (m < n) = true := by simp; omega
      go_wp2_with fail
      refine (rpoint_any x hx0 hg1 _).mono ?_
      rintro e w1 ⟨rfl, hgr⟩
      have G1 := Lib.hid (HG.out.trans hgr)
      have G1' := Lib.hid hgr
      clear hgr
      have hH : Sx.hins (Sx.hpt 2 x) (Sx.hpt 3 x) = hin x := rfl
      have hZ : hpz x = [fl64 (Sx.hpt 2 x), fl64 (Sx.hpt 3 x)] := rfl
      have HZ := Lib.hid hZ
      clear hZ
      generalize Sx.hpt 2 x = px at *
      generalize Sx.hpt 3 x = py at *
      go_wp2_with fail
      refine (rinside_any _ _ _).mono ?_
      rintro e w2 ⟨rfl, hgr2⟩
      have bP : Bx w2 w1.heap.size 23 [.int .i64 px, .int .i64 py] := (Bx.new (vs := [.int .i64 px, .int .i64 py]) rfl).gr hgr2
      have G2 := Lib.hid ((G1.out.alloc (.cells #[.int .i64 px, .int .i64 py] 23)).trans hgr2)
      have G2' := Lib.hid ((G1'.out.alloc (.cells #[.int .i64 px, .int .i64 py] 23)).trans hgr2)
      have c0 := bP.blk.cell 0 rfl; have c1 := bP.blk.cell 1 rfl
      have hp2 := bP.lt
      have BP := Lib.hid bP
      clear hgr2 bP
      rw [hH]
      have hH0 := hH
      clear hH
      cases hi2 : hin x
      · have e1 := dl_out (k := k) (by rw [← HX.out]; exact hi2)
        have DO := Lib.hid e1
        clear e1
        go_wp2_with fail
        go_roundw
        case rel => exact ⟨k + 1, x + 1, m, by have := HX.out; omega, by rw [DO.out]; exact HM.out, by have := HX.out; omega, rfl, by rw [DO.out]; exact own_ks HO.out (Ks.of_gr (S := fun _ => False) G2'.out) (by intro k h; exact h.elim), hln, G2.out⟩
        case measure => simp [intOf]; omega
      · have e1 := dl_in (k := k) (by rw [← HX.out]; exact hi2)
        rw [← HX.out] at e1
        have DI := Lib.hid e1
        rw [hi2] at hH0
        obtain ⟨⟨hb0, hb1, hb2, hb3⟩, _⟩ := hins_ok hH0
        clear e1
        have u1 : IntKind.i64.wrap (2 * px - 65536) = 2 * px - 65536 := IntWalk.i64_in _ (by omega)
        have u2 : IntKind.i64.wrap (2 * py - 65536) = 2 * py - 65536 := IntWalk.i64_in _ (by omega)
        have EX := Lib.hid (show fl64 px = (2 * px - 65536) / 64 from rfl)
        have EY := Lib.hid (show fl64 py = (2 * py - 65536) / 64 from rfl)
        go_wp2_with fail
        refine (rfl_any _ (by omega) (by omega) _).mono ?_
        rintro e w' ⟨rfl, rfl⟩
        rw [← EX.out]
        go_wp2_with fail
        refine (rfl_any _ (by omega) (by omega) _).mono ?_
        rintro e w' ⟨rfl, rfl⟩
        rw [← EY.out]
        have HO2 := Lib.hid (own_ks HO.out (Ks.of_gr (S := fun _ => False) G2'.out) (by intro k h; exact h.elim))
        have OB := Lib.hid (own_base HO.out)
        have hs2 := G2.out.size
        go_wp2_with (at_builtin; refine wpList_append_own _ rfl _ _ 31 rfl w.heap.size 23 i0 (.agg #[.int .i64 0, .int .i64 0]) 2 16 Try.underlying31 hi hz0 hz1 hz2 rfl (by decide) _ m _ rfl (HO2.out.alloc _) ⟨w2.heap.size, 0, none⟩ 1 1 [.int .i64 (fl64 px), .int .i64 (fl64 py)] rfl rfl (by intro t z ht; match t, ht with | 0, ht => simp at ht; subst ht; simp [Addr.add] | 1, ht => simp at ht; subst ht; simp [Addr.add]) (by intro z hz; simp at hz; rcases hz with rfl | rfl <;> rfl) (by unfold maxLen; omega) (by omega) (by simp <;> omega) ?_)
        intro v3 w3 hown3 hgrow3 hnil3
        have hg3 : Gr w w3 := (G2.out.alloc (.cells #[.int .i64 (fl64 px), .int .i64 (fl64 py)] 23)).grown hgrow3 (by simp <;> omega) (fun k hk => OB.out k hk)
        have HO3 := Lib.hid hown3; have HG3 := Lib.hid hg3
        clear hown3 hgrow3 hnil3 hg3
        go_wp2_with fail
        go_roundw
        case rel =>
          refine ⟨k + 1, x + 1, m + 1, by have := HX.out; omega, by rw [DI.out, List.length_append]; have := HM.out; simp; omega, by have := HX.out; omega, rfl, ?_, by omega, HG3.out⟩
          rw [DI.out, fl_append, HZ.out]; exact HO3.out
        case measure => simp [intOf]; omega
    · obtain ⟨hmn, hpt⟩ := dl_end (k := k) (n := n) hk (by have := HM.out; omega) (by have := HM.out; have := HX.out; omega) hn
      have hmn2 : m = n := by have := HM.out; omega
      subst hmn2
      obtain ⟨a', cap', hv, hrow⟩ := row2_own (zs := pts m) (n := m) (by rw [← hpt]; exact HO.out) (pts_len hn) (by omega) (fun z hz => dl_rows z (pts_mem hz))
      injection hv with v1 v2 v3
      subst v1 v3
      have HR := Lib.hid hrow
      clear hpt hmn hg hrow
      by_cases hx3 : x ≤ 65535
      · have d1 : decide (x ≤ 65535) = true := by simp; omega
        have d2 : decide ((m : Int) < (m : Int)) = false := by simp
        go_wp2_with fail
        go_ret2
        exact ⟨_, _, rfl, HR.out, HG.out⟩
      · have d1 : decide (x ≤ 65535) = false := by simp; omega
        go_wp2_with fail
        go_ret2
        exact ⟨_, _, rfl, HR.out, HG.out⟩
theorem rdisc_bad (n : Int) (hn : n < 0 ∨ 256 < n) (w : World) :
    Calls Try.prog 13 #[.int .i64 n] w fun e w' => e = .returned (.tuple #[.slice none 0 0, .int .i64 1]) ∧ w = w' := by
  by_cases h : n < 0
  · have d1 : decide (n < 0) = true := by simp; omega
    go_enter Try.func13, Try.ntmps13
    go_wp2
    go_ret2
    exact ⟨rfl, rfl⟩
  · have d1 : decide (n < 0) = false := by simp; omega
    have d2 : decide (256 < n) = true := by simp; omega
    go_enter Try.func13, Try.ntmps13
    go_wp2
    go_ret2
    exact ⟨rfl, rfl⟩
end Mt
end Go.Proofs.Ytndnjjeildnhdaa
