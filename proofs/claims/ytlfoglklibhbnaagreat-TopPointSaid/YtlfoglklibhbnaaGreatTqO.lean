/- Parts of the proof of TopPoint. No condition of their own. -/
import Derived.Test.YtlfoglklibhbnaaGreatTqN
import Derived.Test.YtlfoglklibhbnaaGreatTqM
import Derived.Test.YtlfoglklibhbnaaGreatTqK
import Derived.Test.YtlfoglklibhbnaaGreatTqF
import Derived.Test.YtlfoglklibhbnaaGreatTpB
import Derived.Test.YtlfoglklibhbnaaGreatTpQ
set_option linter.unusedVariables false
set_option linter.unusedSimpArgs false
namespace Go.Proofs.YtlfoglklibhbnaaGreat
open Go.RowKit
namespace Mt
attribute [local go_sem ↓] Go.wp_at_zero Go.wp_at_succ
theorem texel_raw (px py : Int) (w : World) : Calls Tryz.prog 15 #[.agg #[.int .i64 px, .int .i64 py]] w
  fun e w' => e = .returned (.tuple #[.int .i64 (Sx.fi 67 0 [px, py]), .int .i64 (Sx.fi 67 1 [px, py]), .int .i64 (Sx.fi 67 2 [px, py])]) ∧ Gr w w' := Sx.flat_run (Sx.c_tex w) rfl [px, py] rfl trivial
theorem texel_ok {px py : Int} {X Y : Nat} (hx : 0 ≤ px ∧ px ≤ 4095) (hy : 0 ≤ py ∧ py ≤ 4095) (eX : px / 16 = X) (eY : py / 16 = Y) (w : World) : Calls Tryz.prog 15 #[.agg #[.int .i64 px, .int .i64 py]] w
  fun e w' => e = .returned (.tuple #[.int .i64 X, .int .i64 Y, .int .i64 0]) ∧ Gr w w' := by
 have ht : Sx.tok [px, py] = true := by simp [Sx.tok]; omega
 have e0 : Sx.fi 67 0 [px, py] = if Sx.tok [px, py] = true then px / 16 else 0 := rfl
 have e1 : Sx.fi 67 1 [px, py] = if Sx.tok [px, py] = true then py / 16 else 0 := rfl
 have e2 : Sx.fi 67 2 [px, py] = if Sx.tok [px, py] = true then 0 else 5 := rfl
 have h := texel_raw px py w
 rw [e0, e1, e2, if_pos ht, if_pos ht, if_pos ht, eX, eY] at h
 exact h
set_option maxHeartbeats 16000000 in
set_option maxRecDepth 100000 in
theorem walk_TopPoint (m : ML) (d : MD) (W H pad dn u v : Int) (w : World) (h : IsM w m d) :
  Calls Tryz.prog 4 #[m.val, .int .i64 W, .int .i64 H, .int .i64 pad, .int .i64 dn, .int .i64 u, .int .i64 v] w fun e w' => e = .returned (.bool true) ∧ Gr w w' := by
 have HLN := Lib.hid (show d.F.length = m.f.len from h.f.1)
 have HFEW := Lib.hid (fun w1 => few15_any m w1)
 have HLD := Lib.hid (fun (hl : d.F.length ≤ 12) (w1 : World) (g : Gr w w1) => laid_any m d W H pad dn w1 (h.later g) hl)
 obtain ⟨⟨av, lv, cv⟩, ⟨at', lt, ct⟩, ⟨an, ln, cn⟩, ⟨af, lf, cf⟩⟩ := m
 show Calls _ _ #[.agg #[.slice av lv cv, .slice at' lt ct, .slice an ln cn, .slice af lf cf], _, _, _, _, _, _] _ _
 unfold ML.val SL.v at HFEW HLD
 simp only at HLN HFEW
 clear h
 obtain ⟨V, hV⟩ : ∃ V, w.alloc (.cells #[.slice av lv cv, .slice at' lt ct, .slice an ln cn, .slice af lf cf] 26) = V := ⟨_, rfl⟩
 obtain ⟨s, hs⟩ : ∃ s, w.heap.size = s := ⟨_, rfl⟩
 have hX : Bx V s 26 [.slice av lv cv, .slice at' lt ct, .slice an ln cn, .slice af lf cf] := by rw [← hV]; exact Bx.new (vs := [.slice av lv cv, .slice at' lt ct, .slice an ln cn, .slice af lf cf]) hs.symm
 have hG : Gr w V := by rw [← hV]; exact (Gr.refl w).alloc _
 have x0 := hX.blk.cell 0 rfl; have x1 := hX.blk.cell 1 rfl; have x2 := hX.blk.cell 2 rfl; have x3 := hX.blk.cell 3 rfl; have lX := hX.lt
 have HX := Lib.hid hX; have HG := Lib.hid hG
 clear hX hG
 go_enter Tryz.func4, Tryz.ntmps4
 go_wp2_with fail
 clear hV hs
 refine (HFEW.out V).mono ?_
 rintro e w2 ⟨bb, rfl, hbb, hg2⟩
 have HX2 := Lib.hid (HX.out.gr hg2); have HG2 := Lib.hid (HG.out.trans hg2)
 clear x0 x1 x2 x3 lX HX HG hg2
 cases bb with
 | false =>
  clear hbb
  go_wp2_with fail
  refine (one_any _).mono ?_
  rintro e w3 ⟨rfl, hg3⟩
  have HG3 := Lib.hid (HG2.out.trans hg3)
  clear hg3
  go_wp2_with fail
  go_ret
  exact ⟨rfl, HG3.out⟩
 | true =>
  have hl12 : lf ≤ 12 := hbb rfl
  have HL := Lib.hid (show d.F.length ≤ 12 by rw [HLN.out]; exact hl12)
  have HLD2 := Lib.hid (HLD.out HL.out w2 HG2.out)
  have x0 := HX2.out.blk.cell 0 rfl; have x1 := HX2.out.blk.cell 1 rfl; have x2 := HX2.out.blk.cell 2 rfl; have x3 := HX2.out.blk.cell 3 rfl; have lX := HX2.out.lt
  clear hbb HLD HFEW
  by_cases g0 : 24 < W
  ·have e0 : decide (24 < W) = true := by simpa using g0
   go_wp2_with fail
   refine (one_any _).mono ?_
   rintro e w3 ⟨rfl, hg3⟩
   have HG3 := Lib.hid (HG2.out.trans hg3)
   clear hg3
   go_wp2_with fail
   go_ret
   exact ⟨rfl, HG3.out⟩
  have e0 : decide (24 < W) = false := by simpa using g0
  by_cases g1 : 24 < H
  ·have e1 : decide (24 < H) = true := by simpa using g1
   go_wp2_with fail
   refine (one_any _).mono ?_
   rintro e w3 ⟨rfl, hg3⟩
   have HG3 := Lib.hid (HG2.out.trans hg3)
   clear hg3
   go_wp2_with fail
   go_ret
   exact ⟨rfl, HG3.out⟩
  have e1 : decide (24 < H) = false := by simpa using g1
  by_cases g2 : u < 0
  ·have e2 : decide (u < 0) = true := by simpa using g2
   go_wp2_with fail
   refine (one_any _).mono ?_
   rintro e w3 ⟨rfl, hg3⟩
   have HG3 := Lib.hid (HG2.out.trans hg3)
   clear hg3
   go_wp2_with fail
   go_ret
   exact ⟨rfl, HG3.out⟩
  have e2 : decide (u < 0) = false := by simpa using g2
  by_cases g3 : v < 0
  ·have e3 : decide (v < 0) = true := by simpa using g3
   go_wp2_with fail
   refine (one_any _).mono ?_
   rintro e w3 ⟨rfl, hg3⟩
   have HG3 := Lib.hid (HG2.out.trans hg3)
   clear hg3
   go_wp2_with fail
   go_ret
   exact ⟨rfl, HG3.out⟩
  have e3 : decide (v < 0) = false := by simpa using g3
  by_cases g4 : 8 < u
  ·have e4 : decide (8 < u) = true := by simpa using g4
   go_wp2_with fail
   refine (one_any _).mono ?_
   rintro e w3 ⟨rfl, hg3⟩
   have HG3 := Lib.hid (HG2.out.trans hg3)
   clear hg3
   go_wp2_with fail
   go_ret
   exact ⟨rfl, HG3.out⟩
  have e4 : decide (8 < u) = false := by simpa using g4
  by_cases g5 : 8 < v
  ·have e5 : decide (8 < v) = true := by simpa using g5
   go_wp2_with fail
   refine (one_any _).mono ?_
   rintro e w3 ⟨rfl, hg3⟩
   have HG3 := Lib.hid (HG2.out.trans hg3)
   clear hg3
   go_wp2_with fail
   go_ret
   exact ⟨rfl, HG3.out⟩
  have e5 : decide (8 < v) = false := by simpa using g5
  have wuv : IntKind.i64.wrap (u + v) = u + v := IntWalk.i64_in _ ⟨by omega, by omega⟩
  by_cases g6 : 8 < u + v
  ·have e6 : decide (8 < u + v) = true := by simpa using g6
   go_wp2_with fail
   refine (one_any _).mono ?_
   rintro e w3 ⟨rfl, hg3⟩
   have HG3 := Lib.hid (HG2.out.trans hg3)
   clear hg3
   go_wp2_with fail
   go_ret
   exact ⟨rfl, HG3.out⟩
  have e6 : decide (8 < u + v) = false := by simpa using g6
  go_wp2_with fail
  clear x0 x1 x2 x3 lX
  refine HLD2.out.mono ?_
  rintro e w3 ⟨vv, ok, rfl, hg3, hno, hok, _⟩
  have HG3 := Lib.hid (HG2.out.trans hg3)
  clear hg3 HX2 HLD2
  cases ok with
  | false =>
   have hv := hno rfl
   subst hv
   clear hno hok
   go_wp2_with fail
   refine (one_any _).mono ?_
   rintro e w4 ⟨rfl, hg4⟩
   have HG4 := Lib.hid ((HG3.out.alloc _).trans hg4)
   clear hg4
   go_wp2_with fail
   go_ret
   exact ⟨rfl, HG4.out⟩
  | true =>
   obtain ⟨A, cs, rfl, ⟨hW, hH, hP⟩, hmem, hgood, _, _, _, _⟩ := hok rfl
   have hnum : 1 ≤ A.W ∧ 1 ≤ A.H := by
    have h1 := hgood.num
    unfold numB at h1
    simp only [Bool.and_eq_true, decide_eq_true_eq] at h1
    omega
   have HAL := Lib.hid (fun (w1 : World) (g : Gr w3 w1) => all_good A hgood w1 (hmem.later g))
   have HPT := Lib.hid (fun (q : Nat) (hq : q < (allU A A.qs.length).length) => tp_point hgood (u := u) (v := v) (by omega) (by omega) (by omega) hq)
   have HOK := Lib.hid (tp_ok hgood hnum.1 hnum.2)
   have HOL := Lib.hid (allO_len A A.qs.length)
   have hfew := allU_few hgood A.qs.length (Nat.le_refl _)
   have hq12 := hgood.few
   unfold AllP at HAL
   obtain ⟨AW, AH, Ap, Apa, Apc, Aqs, Ara, Arc, Ars⟩ := A
   simp only at hW hH hP hnum hfew hq12
   subst hW hH hP
   simp only [AT.vs] at HAL HPT HOK HOL ⊢
   generalize allU ⟨AW, AH, Ap, Apa, Apc, Aqs, Ara, Arc, Ars⟩ Aqs.length = U at *
   generalize allO ⟨AW, AH, Ap, Apa, Apc, Aqs, Ara, Arc, Ars⟩ Aqs.length = O at *
   obtain ⟨L, hL⟩ : ∃ L, U.length = L := ⟨_, rfl⟩
   have HLL := Lib.hid hL
   have HOLL := Lib.hid (show O.length = L by rw [HOL.out, hL])
   rw [hL] at HAL HPT hfew
   rw [HOLL.out] at HAL
   obtain ⟨wn, rfl⟩ : ∃ wn : Nat, AW = wn := ⟨AW.toNat, by omega⟩
   obtain ⟨hn, rfl⟩ : ∃ hn : Nat, AH = hn := ⟨AH.toNat, by omega⟩
   have hL1 : L ≤ 144 := by omega
   clear hno hok hmem hgood hfew hL
   have gA : Gr w3 (w3.alloc (.cells #[.int .i64 wn, .int .i64 hn, .int .i64 Ap, .slice Apa Aqs.length Apc, .slice Ara Ars.length Arc] 32)) := (Gr.refl w3).alloc _
   have bA : Bx (w3.alloc (.cells #[.int .i64 wn, .int .i64 hn, .int .i64 Ap, .slice Apa Aqs.length Apc, .slice Ara Ars.length Arc] 32)) w3.heap.size 32 [.int .i64 wn, .int .i64 hn, .int .i64 Ap, .slice Apa Aqs.length Apc, .slice Ara Ars.length Arc] := Bx.new (vs := [.int .i64 wn, .int .i64 hn, .int .i64 Ap, .slice Apa Aqs.length Apc, .slice Ara Ars.length Arc]) rfl
   have y0 := bA.blk.cell 0 rfl; have y1 := bA.blk.cell 1 rfl; have y2 := bA.blk.cell 2 rfl; have y3 := bA.blk.cell 3 rfl; have y4 := bA.blk.cell 4 rfl; have ly := bA.lt
   have HGA := Lib.hid gA
   clear gA bA
   go_wp2_with fail
   refine (HAL.out _ HGA.out).mono ?_
   rintro e w4 ⟨a1, c1, a2, c2, rfl, hc1, hr1, hr2, hg4⟩
   have HR1 := Lib.hid hr1; have HR2 := Lib.hid hr2; have HG4 := Lib.hid ((HG3.out.trans HGA.out).trans hg4)
   clear y0 y1 y2 y3 y4 ly hr1 hr2 hg4 HAL HGA HG3
   have hOW := owners_any (wn : Int) (hn : Int) a1 L c1 U w4 HR1.out (by omega)
   have eL : owL (wn : Int) (hn : Int) U = outL U wn hn L := by
    unfold owL
    rw [if_pos HOK.out, HLL.out]
    rfl
   rw [eL, HOK.out, outL_len] at hOW
   have hM : wn * hn ≤ 576 := Nat.mul_le_mul (show wn ≤ 24 by omega) (show hn ≤ 24 by omega)
   have m1 : IntKind.i64.wrap ((wn : Int) * (hn : Int)) = ((wn * hn : Nat) : Int) := by
    rw [← Int.natCast_mul]
    exact IntWalk.i64_in _ (by omega)
   have HOW := Lib.hid hOW
   clear hOW eL
   obtain ⟨M, eM⟩ : ∃ M, wn * hn = M := ⟨_, rfl⟩
   rw [eM] at m1 hM HOW
   have EM := Lib.hid eM
   clear eM
   go_wp2_with fail
   refine HOW.out.mono ?_
   rintro e w5 ⟨a5, c5, rfl, hr5, hg5⟩
   have HR5 := Lib.hid hr5; have HG5 := Lib.hid hg5
   clear hr5 hg5 HOW
   go_wp2_with fail
   go_loopw [22] (fun v22 wr => ∃ q : Nat, q ≤ L ∧ v22 = .int .i64 q ∧ Gr w5 wr) (fun v22 _ => L - (intOf v22).toNat)
   case atStart => exact ⟨0, Nat.zero_le _, rfl, Gr.refl _⟩
   case round =>
    obtain ⟨q, hq, rfl, hgr⟩ := hrel
    have HGR := Lib.hid hgr
    clear hgr
    by_cases hlt : q < L
    ·obtain ⟨z0, z1, z2, z3, z4, z5, X, Y, o, ez, hzb, ⟨px0, px1, px2⟩, ⟨py0, py1, py2⟩, hXw, hYh, hown, hol, hof⟩ := HPT.out q hlt
     have b0 := hzb z0 (by simp); have b1 := hzb z1 (by simp); have b2 := hzb z2 (by simp); have b3 := hzb z3 (by simp); have b4 := hzb z4 (by simp); have b5 := hzb z5 (by simp)
     obtain ⟨rb, roff, t0, t1, t2, t3, t4, t5, rfl, lrb, ez2, _, f0, f1, f2, f3, f4, f5⟩ := rows6_op (HR1.out.later (HG5.out.trans HGR.out)) hlt
     have es := ez.symm.trans ez2
     obtain ⟨rfl, rfl, rfl, rfl, rfl, rfl⟩ : z0 = t0 ∧ z1 = t1 ∧ z2 = t2 ∧ z3 = t3 ∧ z4 = t4 ∧ z5 = t5 := by simpa using es
     have HF0 := Lib.hid f0; have HF1 := Lib.hid f1; have HF2 := Lib.hid f2; have HF3 := Lib.hid f3; have HF4 := Lib.hid f4; have HF5 := Lib.hid f5
     have HOWN := Lib.hid hown; have HOF := Lib.hid hof; have HXX := Lib.hid (And.intro px0 (And.intro px1 px2)); have HYY := Lib.hid (And.intro py0 (And.intro py1 py2))
     have hq0 : (0 : Int) ≤ (q : Int) := by omega
     have hXn : X < wn := by omega
     have hYn : Y < hn := by omega
     clear ez ez2 es hzb hown hof px0 px1 px2 py0 py1 py2 f0 f1 f2 f3 f4 f5 hXw hYh
     have bs : 0 ≤ 8 - u - v ∧ 8 - u - v ≤ 8 := by omega
     have k0 := mul_bd (M := 8) (N := 4096) 32768 (by decide) (show -8 ≤ u ∧ u ≤ 8 by omega) (show -4096 ≤ z0 ∧ z0 ≤ 4096 by omega)
     have k1 := mul_bd (M := 8) (N := 4096) 32768 (by decide) (show -8 ≤ u ∧ u ≤ 8 by omega) (show -4096 ≤ z1 ∧ z1 ≤ 4096 by omega)
     have k2 := mul_bd (M := 8) (N := 4096) 32768 (by decide) (show -8 ≤ v ∧ v ≤ 8 by omega) (show -4096 ≤ z2 ∧ z2 ≤ 4096 by omega)
     have k3 := mul_bd (M := 8) (N := 4096) 32768 (by decide) (show -8 ≤ v ∧ v ≤ 8 by omega) (show -4096 ≤ z3 ∧ z3 ≤ 4096 by omega)
     have k4 := mul_bd (M := 8) (N := 4096) 32768 (by decide) (show -8 ≤ 8 - u - v ∧ 8 - u - v ≤ 8 by omega) (show -4096 ≤ z4 ∧ z4 ≤ 4096 by omega)
     have k5 := mul_bd (M := 8) (N := 4096) 32768 (by decide) (show -8 ≤ 8 - u - v ∧ 8 - u - v ≤ 8 by omega) (show -4096 ≤ z5 ∧ z5 ≤ 4096 by omega)
     have W1 : IntKind.i64.wrap (8 - u) = 8 - u := IntWalk.i64_in _ ⟨by omega, by omega⟩
     have W2 : IntKind.i64.wrap (8 - u - v) = 8 - u - v := IntWalk.i64_in _ ⟨by omega, by omega⟩
     have A1 : IntKind.i64.wrap (u * z0) = u * z0 := IntWalk.i64_in _ ⟨by omega, by omega⟩
     have A2 : IntKind.i64.wrap (v * z2) = v * z2 := IntWalk.i64_in _ ⟨by omega, by omega⟩
     have A3 : IntKind.i64.wrap (u * z0 + v * z2) = u * z0 + v * z2 := IntWalk.i64_in _ ⟨by omega, by omega⟩
     have A4 : IntKind.i64.wrap ((8 - u - v) * z4) = (8 - u - v) * z4 := IntWalk.i64_in _ ⟨by omega, by omega⟩
     have A5 : IntKind.i64.wrap (u * z0 + v * z2 + (8 - u - v) * z4) = u * z0 + v * z2 + (8 - u - v) * z4 := IntWalk.i64_in _ ⟨by omega, by omega⟩
     have A6 : (u * z0 + v * z2 + (8 - u - v) * z4).tdiv 8 = (u * z0 + v * z2 + (8 - u - v) * z4) / 8 := Int.tdiv_eq_ediv_of_nonneg HXX.out.1
     have A7 : IntKind.i64.wrap ((u * z0 + v * z2 + (8 - u - v) * z4) / 8) = (u * z0 + v * z2 + (8 - u - v) * z4) / 8 := IntWalk.i64_in _ ⟨by omega, by omega⟩
     have B1 : IntKind.i64.wrap (u * z1) = u * z1 := IntWalk.i64_in _ ⟨by omega, by omega⟩
     have B2 : IntKind.i64.wrap (v * z3) = v * z3 := IntWalk.i64_in _ ⟨by omega, by omega⟩
     have B3 : IntKind.i64.wrap (u * z1 + v * z3) = u * z1 + v * z3 := IntWalk.i64_in _ ⟨by omega, by omega⟩
     have B4 : IntKind.i64.wrap ((8 - u - v) * z5) = (8 - u - v) * z5 := IntWalk.i64_in _ ⟨by omega, by omega⟩
     have B5 : IntKind.i64.wrap (u * z1 + v * z3 + (8 - u - v) * z5) = u * z1 + v * z3 + (8 - u - v) * z5 := IntWalk.i64_in _ ⟨by omega, by omega⟩
     have B6 : (u * z1 + v * z3 + (8 - u - v) * z5).tdiv 8 = (u * z1 + v * z3 + (8 - u - v) * z5) / 8 := Int.tdiv_eq_ediv_of_nonneg HYY.out.1
     have B7 : IntKind.i64.wrap ((u * z1 + v * z3 + (8 - u - v) * z5) / 8) = (u * z1 + v * z3 + (8 - u - v) * z5) / 8 := IntWalk.i64_in _ ⟨by omega, by omega⟩
     clear k0 k1 k2 k3 k4 k5 bs b0 b1 b2 b3 b4 b5
     go_wp2_with fail
     refine Sx.wp_region_held_last (S := fun w' => w'.cell? ⟨rb, roff + q * 6, none⟩ = some (.int .i64 z0) ∧ w'.cell? ⟨rb, roff + q * 6 + 1, none⟩ = some (.int .i64 z1) ∧ w'.cell? ⟨rb, roff + q * 6 + 2, none⟩ = some (.int .i64 z2) ∧ w'.cell? ⟨rb, roff + q * 6 + 3, none⟩ = some (.int .i64 z3) ∧ w'.cell? ⟨rb, roff + q * 6 + 4, none⟩ = some (.int .i64 z4) ∧ w'.cell? ⟨rb, roff + q * 6 + 5, none⟩ = some (.int .i64 z5)) (by rfl) (by kernel_rfl) (by kernel_rfl) ?_ (fun hH => ?_)
     ·exact ⟨HF0.out, HF1.out, HF2.out, HF3.out, HF4.out, HF5.out⟩
     refine' wpAnyH_take (i := 0) (v := _) rfl (by kernel_rfl) (by kernel_rfl) (by kernel_rfl) (fun _ _ _ h => h) (Or.inl ⟨by rfl, ?thy1_0⟩) (by assumption) ?_
     case thy1_0 => (intro w hSw; (try dsimp only at hSw); go_simp; try with_reducible rfl)
     try simp only [Act.put, List.setIfInBounds_toArray, List.set_cons_zero, List.set_cons_succ, List.getElem_toArray, List.getElem_cons_zero]
     refine' wpAnyH_take (i := 1) (v := _) rfl (by kernel_rfl) (by kernel_rfl) (by kernel_rfl) (fun _ _ _ h => h) (Or.inl ⟨by rfl, ?thy1_1⟩) (by assumption) ?_
     case thy1_1 => (intro w hSw; (try dsimp only at hSw); go_simp; try with_reducible rfl)
     try simp only [Act.put, List.setIfInBounds_toArray, List.set_cons_zero, List.set_cons_succ, List.getElem_toArray, List.getElem_cons_succ, List.getElem_cons_zero]
     refine' wpAnyH_take (i := 2) (v := _) rfl (by kernel_rfl) (by kernel_rfl) (by kernel_rfl) (fun _ _ _ h => h) (Or.inl ⟨by rfl, ?thy1_2⟩) (by assumption) ?_
     case thy1_2 => (intro w hSw; (try dsimp only at hSw); go_simp; try with_reducible rfl)
     try simp only [Act.put, List.setIfInBounds_toArray, List.set_cons_zero, List.set_cons_succ, List.getElem_toArray, List.getElem_cons_succ, List.getElem_cons_zero]
     refine' wpAnyH_take (i := 3) (v := _) rfl (by kernel_rfl) (by kernel_rfl) (by kernel_rfl) (fun _ _ _ h => h) (Or.inl ⟨by rfl, ?thy1_3⟩) (by assumption) ?_
     case thy1_3 => (intro w hSw; (try dsimp only at hSw); go_simp; try with_reducible rfl)
     try simp only [Act.put, List.setIfInBounds_toArray, List.set_cons_zero, List.set_cons_succ, List.getElem_toArray, List.getElem_cons_succ, List.getElem_cons_zero]
     refine' wpAnyH_take (i := 4) (v := _) rfl (by kernel_rfl) (by kernel_rfl) (by kernel_rfl) (fun _ _ _ h => h) (Or.inl ⟨by rfl, ?thy1_4⟩) (by assumption) ?_
     case thy1_4 => (intro w hSw; (try dsimp only at hSw); go_simp; try with_reducible rfl)
     try simp only [Act.put, List.setIfInBounds_toArray, List.set_cons_zero, List.set_cons_succ, List.getElem_toArray, List.getElem_cons_succ, List.getElem_cons_zero]
     refine' wpAnyH_take (i := 5) (v := _) rfl (by kernel_rfl) (by kernel_rfl) (by kernel_rfl) (fun _ _ _ h => h) (Or.inl ⟨by rfl, ?thy1_5⟩) (by assumption) ?_
     case thy1_5 => (intro w hSw; (try dsimp only at hSw); go_simp; try with_reducible rfl)
     try simp only [Act.put, List.setIfInBounds_toArray, List.set_cons_zero, List.set_cons_succ, List.getElem_toArray, List.getElem_cons_succ, List.getElem_cons_zero]
     refine' wpAnyH_take (i := 6) (v := _) rfl (by kernel_rfl) (by kernel_rfl) (by kernel_rfl) (fun _ _ _ h => h) (Or.inl ⟨by rfl, ?thy1_6⟩) (by assumption) ?_
     case thy1_6 => (intro w hSw; (try dsimp only at hSw); go_simp; try with_reducible rfl)
     try simp only [Act.put, List.setIfInBounds_toArray, List.set_cons_zero, List.set_cons_succ, List.getElem_toArray, List.getElem_cons_succ, List.getElem_cons_zero]
     refine' wpAnyH_take (i := 7) (v := _) rfl (by kernel_rfl) (by kernel_rfl) (by kernel_rfl) (fun _ _ _ h => h) (Or.inl ⟨by rfl, ?thy1_7⟩) (by assumption) ?_
     case thy1_7 => (intro w hSw; (try dsimp only at hSw); go_simp; try with_reducible rfl)
     try simp only [Act.put, List.setIfInBounds_toArray, List.set_cons_zero, List.set_cons_succ, List.getElem_toArray, List.getElem_cons_succ, List.getElem_cons_zero]
     refine' wpAnyH_take (i := 8) (v := _) rfl (by kernel_rfl) (by kernel_rfl) (by kernel_rfl) (fun _ _ _ h => h) (Or.inl ⟨by rfl, ?thy1_8⟩) (by assumption) ?_
     case thy1_8 => (intro w hSw; (try dsimp only at hSw); go_simp; try with_reducible rfl)
     try simp only [Act.put, List.setIfInBounds_toArray, List.set_cons_zero, List.set_cons_succ, List.getElem_toArray, List.getElem_cons_succ, List.getElem_cons_zero]
     refine' wpAnyH_take (i := 9) (v := _) rfl (by kernel_rfl) (by kernel_rfl) (by kernel_rfl) (fun _ _ _ h => h) (Or.inl ⟨by rfl, ?thy1_9⟩) (by assumption) ?_
     case thy1_9 => (intro w hSw; (try dsimp only at hSw); go_simp; try with_reducible rfl)
     try simp only [Act.put, List.setIfInBounds_toArray, List.set_cons_zero, List.set_cons_succ, List.getElem_toArray, List.getElem_cons_succ, List.getElem_cons_zero]
     refine' wpAnyH_take (i := 10) (v := _) rfl (by kernel_rfl) (by kernel_rfl) (by kernel_rfl) (fun _ _ _ h => h) (Or.inl ⟨by rfl, ?thy1_10⟩) (by assumption) ?_
     case thy1_10 => (intro w hSw; (try dsimp only at hSw); go_simp; try with_reducible rfl)
     try simp only [Act.put, List.setIfInBounds_toArray, List.set_cons_zero, List.set_cons_succ, List.getElem_toArray, List.getElem_cons_succ, List.getElem_cons_zero]
     refine' wpAnyH_take (i := 11) (v := _) rfl (by kernel_rfl) (by kernel_rfl) (by kernel_rfl) (fun _ _ _ h => h) (Or.inl ⟨by rfl, ?thy1_11⟩) (by assumption) ?_
     case thy1_11 => (intro w hSw; (try dsimp only at hSw); go_simp; try with_reducible rfl)
     try simp only [Act.put, List.setIfInBounds_toArray, List.set_cons_zero, List.set_cons_succ, List.getElem_toArray, List.getElem_cons_succ, List.getElem_cons_zero]
     refine' wpAnyH_take (i := 12) (v := _) rfl (by kernel_rfl) (by kernel_rfl) (by kernel_rfl) (fun _ _ _ h => h) (Or.inl ⟨by rfl, ?thy1_12⟩) (by assumption) ?_
     case thy1_12 => (intro w hSw; (try dsimp only at hSw); go_simp; try with_reducible rfl)
     try simp only [Act.put, List.setIfInBounds_toArray, List.set_cons_zero, List.set_cons_succ, List.getElem_toArray, List.getElem_cons_succ, List.getElem_cons_zero]
     refine' wpAnyH_take (i := 13) (v := _) rfl (by kernel_rfl) (by kernel_rfl) (by kernel_rfl) (fun _ _ _ h => h) (Or.inl ⟨by rfl, ?thy1_13⟩) (by assumption) ?_
     case thy1_13 => (intro w hSw; (try dsimp only at hSw); go_simp; try with_reducible rfl)
     try simp only [Act.put, List.setIfInBounds_toArray, List.set_cons_zero, List.set_cons_succ, List.getElem_toArray, List.getElem_cons_succ, List.getElem_cons_zero]
     refine' wpAnyH_take (i := 14) (v := _) rfl (by kernel_rfl) (by kernel_rfl) (by kernel_rfl) (fun _ _ _ h => h) (Or.inl ⟨by rfl, ?thy1_14⟩) (by assumption) ?_
     case thy1_14 => (intro w hSw; (try dsimp only at hSw); go_simp; try with_reducible rfl)
     try simp only [Act.put, List.setIfInBounds_toArray, List.set_cons_zero, List.set_cons_succ, List.getElem_toArray, List.getElem_cons_succ, List.getElem_cons_zero]
     refine' wpAnyH_take (i := 15) (v := _) rfl (by kernel_rfl) (by kernel_rfl) (by kernel_rfl) (fun _ _ _ h => h) (Or.inl ⟨by rfl, ?thy1_15⟩) (by assumption) ?_
     case thy1_15 => (intro w hSw; (try dsimp only at hSw); go_simp; try with_reducible rfl)
     try simp only [Act.put, List.setIfInBounds_toArray, List.set_cons_zero, List.set_cons_succ, List.getElem_toArray, List.getElem_cons_succ, List.getElem_cons_zero]
     refine' wpAnyH_take (i := 16) (v := _) rfl (by kernel_rfl) (by kernel_rfl) (by kernel_rfl) (fun _ _ _ h => h) (Or.inl ⟨by rfl, ?thy1_16⟩) (by assumption) ?_
     case thy1_16 => (intro w hSw; (try dsimp only at hSw); go_simp; try with_reducible rfl)
     try simp only [Act.put, List.setIfInBounds_toArray, List.set_cons_zero, List.set_cons_succ, List.getElem_toArray, List.getElem_cons_succ, List.getElem_cons_zero]
     refine' wpAnyH_take (i := 17) (v := _) rfl (by kernel_rfl) (by kernel_rfl) (by kernel_rfl) (fun _ _ _ h => h) (Or.inl ⟨by rfl, ?thy1_17⟩) (by assumption) ?_
     case thy1_17 => (intro w hSw; (try dsimp only at hSw); go_simp; try with_reducible rfl)
     try simp only [Act.put, List.setIfInBounds_toArray, List.set_cons_zero, List.set_cons_succ, List.getElem_toArray, List.getElem_cons_succ, List.getElem_cons_zero]
     refine' wpAnyH_take (i := 18) (v := _) rfl (by kernel_rfl) (by kernel_rfl) (by kernel_rfl) (fun _ _ _ h => h) (Or.inl ⟨by rfl, ?thy1_18⟩) (by assumption) ?_
     case thy1_18 => (intro w hSw; (try dsimp only at hSw); go_simp; try with_reducible rfl)
     try simp only [Act.put, List.setIfInBounds_toArray, List.set_cons_zero, List.set_cons_succ, List.getElem_toArray, List.getElem_cons_succ, List.getElem_cons_zero]
     refine' wpAnyH_take (i := 19) (v := _) rfl (by kernel_rfl) (by kernel_rfl) (by kernel_rfl) (fun _ _ _ h => h) (Or.inl ⟨by rfl, ?thy1_19⟩) (by assumption) ?_
     case thy1_19 => (intro w hSw; (try dsimp only at hSw); go_simp; try with_reducible rfl)
     try simp only [Act.put, List.setIfInBounds_toArray, List.set_cons_zero, List.set_cons_succ, List.getElem_toArray, List.getElem_cons_succ, List.getElem_cons_zero]
     refine' wpAnyH_take (i := 20) (v := _) rfl (by kernel_rfl) (by kernel_rfl) (by kernel_rfl) (fun _ _ _ h => h) (Or.inl ⟨by rfl, ?thy1_20⟩) (by assumption) ?_
     case thy1_20 => (intro w hSw; (try dsimp only at hSw); go_simp; try with_reducible rfl)
     try simp only [Act.put, List.setIfInBounds_toArray, List.set_cons_zero, List.set_cons_succ, List.getElem_toArray, List.getElem_cons_succ, List.getElem_cons_zero]
     refine' wpAnyH_take (i := 21) (v := _) rfl (by kernel_rfl) (by kernel_rfl) (by kernel_rfl) (fun _ _ _ h => h) (Or.inl ⟨by rfl, ?thy1_21⟩) (by assumption) ?_
     case thy1_21 => (intro w hSw; (try dsimp only at hSw); go_simp; try with_reducible rfl)
     try simp only [Act.put, List.setIfInBounds_toArray, List.set_cons_zero, List.set_cons_succ, List.getElem_toArray, List.getElem_cons_succ, List.getElem_cons_zero]
     refine' wpAnyH_take (i := 22) (v := _) rfl (by kernel_rfl) (by kernel_rfl) (by kernel_rfl) (fun _ _ _ h => h) (Or.inl ⟨by rfl, ?thy1_22⟩) (by assumption) ?_
     case thy1_22 => (intro w hSw; (try dsimp only at hSw); go_simp; try with_reducible rfl)
     try simp only [Act.put, List.setIfInBounds_toArray, List.set_cons_zero, List.set_cons_succ, List.getElem_toArray, List.getElem_cons_succ, List.getElem_cons_zero]
     refine' wpAnyH_take (i := 23) (v := _) rfl (by kernel_rfl) (by kernel_rfl) (by kernel_rfl) (fun _ _ _ h => h) (Or.inl ⟨by rfl, ?thy1_23⟩) (by assumption) ?_
     case thy1_23 => (intro w hSw; (try dsimp only at hSw); go_simp; try with_reducible rfl)
     try simp only [Act.put, List.setIfInBounds_toArray, List.set_cons_zero, List.set_cons_succ, List.getElem_toArray, List.getElem_cons_succ, List.getElem_cons_zero]
     refine' wpAnyH_take (i := 24) (v := _) rfl (by kernel_rfl) (by kernel_rfl) (by kernel_rfl) (fun _ _ _ h => h) (Or.inl ⟨by rfl, ?thy1_24⟩) (by assumption) ?_
     case thy1_24 => (intro w hSw; (try dsimp only at hSw); go_simp; try with_reducible rfl)
     try simp only [Act.put, List.setIfInBounds_toArray, List.set_cons_zero, List.set_cons_succ, List.getElem_toArray, List.getElem_cons_succ, List.getElem_cons_zero]
     refine' wpAnyH_take (i := 25) (v := _) rfl (by kernel_rfl) (by kernel_rfl) (by kernel_rfl) (fun _ _ _ h => h) (Or.inl ⟨by rfl, ?thy1_25⟩) (by assumption) ?_
     case thy1_25 => (intro w hSw; (try dsimp only at hSw); go_simp; try with_reducible rfl)
     try simp only [Act.put, List.setIfInBounds_toArray, List.set_cons_zero, List.set_cons_succ, List.getElem_toArray, List.getElem_cons_succ, List.getElem_cons_zero]
     refine' wpAnyH_take (i := 26) (v := _) rfl (by kernel_rfl) (by kernel_rfl) (by kernel_rfl) (fun _ _ _ h => h) (Or.inl ⟨by rfl, ?thy1_26⟩) (by assumption) ?_
     case thy1_26 => (intro w hSw; (try dsimp only at hSw); go_simp; try with_reducible rfl)
     try simp only [Act.put, List.setIfInBounds_toArray, List.set_cons_zero, List.set_cons_succ, List.getElem_toArray, List.getElem_cons_succ, List.getElem_cons_zero]
     refine' wpAnyH_take (i := 27) (v := _) rfl (by kernel_rfl) (by kernel_rfl) (by kernel_rfl) (fun _ _ _ h => h) (Or.inl ⟨by rfl, ?thy1_27⟩) (by assumption) ?_
     case thy1_27 => (intro w hSw; (try dsimp only at hSw); go_simp; try with_reducible rfl)
     try simp only [Act.put, List.setIfInBounds_toArray, List.set_cons_zero, List.set_cons_succ, List.getElem_toArray, List.getElem_cons_succ, List.getElem_cons_zero]
     refine' wpAnyH_take (i := 28) (v := _) rfl (by kernel_rfl) (by kernel_rfl) (by kernel_rfl) (fun _ _ _ h => h) (Or.inl ⟨by rfl, ?thy1_28⟩) (by assumption) ?_
     case thy1_28 => (intro w hSw; (try dsimp only at hSw); go_simp; try with_reducible rfl)
     try simp only [Act.put, List.setIfInBounds_toArray, List.set_cons_zero, List.set_cons_succ, List.getElem_toArray, List.getElem_cons_succ, List.getElem_cons_zero]
     refine' wpAnyH_take (i := 29) (v := _) rfl (by kernel_rfl) (by kernel_rfl) (by kernel_rfl) (fun _ _ _ h => h) (Or.inl ⟨by rfl, ?thy1_29⟩) (by assumption) ?_
     case thy1_29 => (intro w hSw; (try dsimp only at hSw); go_simp; try with_reducible rfl)
     try simp only [Act.put, List.setIfInBounds_toArray, List.set_cons_zero, List.set_cons_succ, List.getElem_toArray, List.getElem_cons_succ, List.getElem_cons_zero]
     refine' wpAnyH_take (i := 30) (v := _) rfl (by kernel_rfl) (by kernel_rfl) (by kernel_rfl) (fun _ _ _ h => h) (Or.inl ⟨by rfl, ?thy1_30⟩) (by assumption) ?_
     case thy1_30 => (intro w hSw; (try dsimp only at hSw); go_simp; try with_reducible rfl)
     try simp only [Act.put, List.setIfInBounds_toArray, List.set_cons_zero, List.set_cons_succ, List.getElem_toArray, List.getElem_cons_succ, List.getElem_cons_zero]
     refine' wpAnyH_take (i := 31) (v := _) rfl (by kernel_rfl) (by kernel_rfl) (by kernel_rfl) (fun _ _ _ h => h) (Or.inl ⟨by rfl, ?thy1_31⟩) (by assumption) ?_
     case thy1_31 => (intro w hSw; (try dsimp only at hSw); go_simp; try with_reducible rfl)
     try simp only [Act.put, List.setIfInBounds_toArray, List.set_cons_zero, List.set_cons_succ, List.getElem_toArray, List.getElem_cons_succ, List.getElem_cons_zero]
     refine' wpAnyH_take (i := 32) (v := _) rfl (by kernel_rfl) (by kernel_rfl) (by kernel_rfl) (fun _ _ _ h => h) (Or.inl ⟨by rfl, ?thy1_32⟩) (by assumption) ?_
     case thy1_32 => (intro w hSw; (try dsimp only at hSw); go_simp; try with_reducible rfl)
     try simp only [Act.put, List.setIfInBounds_toArray, List.set_cons_zero, List.set_cons_succ, List.getElem_toArray, List.getElem_cons_succ, List.getElem_cons_zero]
     refine' wpAnyH_take (i := 33) (v := _) rfl (by kernel_rfl) (by kernel_rfl) (by kernel_rfl) (fun _ _ _ h => h) (Or.inl ⟨by rfl, ?thy1_33⟩) (by assumption) ?_
     case thy1_33 => (intro w hSw; (try dsimp only at hSw); go_simp; try with_reducible rfl)
     try simp only [Act.put, List.setIfInBounds_toArray, List.set_cons_zero, List.set_cons_succ, List.getElem_toArray, List.getElem_cons_succ, List.getElem_cons_zero]
     refine' wpAnyH_take (i := 34) (v := _) rfl (by kernel_rfl) (by kernel_rfl) (by kernel_rfl) (fun _ _ _ h => h) (Or.inl ⟨by rfl, ?thy1_34⟩) (by assumption) ?_
     case thy1_34 => (intro w hSw; (try dsimp only at hSw); go_simp; try with_reducible rfl)
     try simp only [Act.put, List.setIfInBounds_toArray, List.set_cons_zero, List.set_cons_succ, List.getElem_toArray, List.getElem_cons_succ, List.getElem_cons_zero]
     refine' wpAnyH_take (i := 35) (v := _) rfl (by kernel_rfl) (by kernel_rfl) (by kernel_rfl) (fun _ _ _ h => h) (Or.inl ⟨by rfl, ?thy1_35⟩) (by assumption) ?_
     case thy1_35 => (intro w hSw; (try dsimp only at hSw); go_simp; try with_reducible rfl)
     try simp only [Act.put, List.setIfInBounds_toArray, List.set_cons_zero, List.set_cons_succ, List.getElem_toArray, List.getElem_cons_succ, List.getElem_cons_zero]
     refine' wpAnyH_take (i := 36) (v := _) rfl (by kernel_rfl) (by kernel_rfl) (by kernel_rfl) (fun _ _ _ h => h) (Or.inl ⟨by rfl, ?thy1_36⟩) (by assumption) ?_
     case thy1_36 => (intro w hSw; (try dsimp only at hSw); go_simp; try with_reducible rfl)
     try simp only [Act.put, List.setIfInBounds_toArray, List.set_cons_zero, List.set_cons_succ, List.getElem_toArray, List.getElem_cons_succ, List.getElem_cons_zero]
     refine' wpAnyH_take (i := 37) (v := _) rfl (by kernel_rfl) (by kernel_rfl) (by kernel_rfl) (fun _ _ _ h => h) (Or.inl ⟨by rfl, ?thy1_37⟩) (by assumption) ?_
     case thy1_37 => (intro w hSw; (try dsimp only at hSw); go_simp; try with_reducible rfl)
     try simp only [Act.put, List.setIfInBounds_toArray, List.set_cons_zero, List.set_cons_succ, List.getElem_toArray, List.getElem_cons_succ, List.getElem_cons_zero]
     refine' wpAnyH_take (i := 38) (v := _) rfl (by kernel_rfl) (by kernel_rfl) (by kernel_rfl) (fun _ _ _ h => h) (Or.inl ⟨by rfl, ?thy1_38⟩) (by assumption) ?_
     case thy1_38 => (intro w hSw; (try dsimp only at hSw); go_simp; try with_reducible rfl)
     try simp only [Act.put, List.setIfInBounds_toArray, List.set_cons_zero, List.set_cons_succ, List.getElem_toArray, List.getElem_cons_succ, List.getElem_cons_zero]
     refine' wpAnyH_take (i := 39) (v := _) rfl (by kernel_rfl) (by kernel_rfl) (by kernel_rfl) (fun _ _ _ h => h) (Or.inl ⟨by rfl, ?thy1_39⟩) (by assumption) ?_
     case thy1_39 => (intro w hSw; (try dsimp only at hSw); go_simp; try with_reducible rfl)
     try simp only [Act.put, List.setIfInBounds_toArray, List.set_cons_zero, List.set_cons_succ, List.getElem_toArray, List.getElem_cons_succ, List.getElem_cons_zero]
     refine' wpAnyH_take (i := 40) (v := _) rfl (by kernel_rfl) (by kernel_rfl) (by kernel_rfl) (fun _ _ _ h => h) (Or.inl ⟨by rfl, ?thy1_40⟩) (by assumption) ?_
     case thy1_40 => (intro w hSw; (try dsimp only at hSw); go_simp; try with_reducible rfl)
     try simp only [Act.put, List.setIfInBounds_toArray, List.set_cons_zero, List.set_cons_succ, List.getElem_toArray, List.getElem_cons_succ, List.getElem_cons_zero]
     refine' wpAnyH_take (i := 41) (v := _) rfl (by kernel_rfl) (by kernel_rfl) (by kernel_rfl) (fun _ _ _ h => h) (Or.inl ⟨by rfl, ?thy1_41⟩) (by assumption) ?_
     case thy1_41 => (intro w hSw; (try dsimp only at hSw); go_simp; try with_reducible rfl)
     try simp only [Act.put, List.setIfInBounds_toArray, List.set_cons_zero, List.set_cons_succ, List.getElem_toArray, List.getElem_cons_succ, List.getElem_cons_zero]
     refine' wpAnyH_take (i := 42) (v := _) rfl (by kernel_rfl) (by kernel_rfl) (by kernel_rfl) (fun _ _ _ h => h) (Or.inl ⟨by rfl, ?thy1_42⟩) (by assumption) ?_
     case thy1_42 => (intro w hSw; (try dsimp only at hSw); go_simp; try with_reducible rfl)
     try simp only [Act.put, List.setIfInBounds_toArray, List.set_cons_zero, List.set_cons_succ, List.getElem_toArray, List.getElem_cons_succ, List.getElem_cons_zero]
     refine' wpAnyH_take (i := 43) (v := _) rfl (by kernel_rfl) (by kernel_rfl) (by kernel_rfl) (fun _ _ _ h => h) (Or.inl ⟨by rfl, ?thy1_43⟩) (by assumption) ?_
     case thy1_43 => (intro w hSw; (try dsimp only at hSw); go_simp; try with_reducible rfl)
     try simp only [Act.put, List.setIfInBounds_toArray, List.set_cons_zero, List.set_cons_succ, List.getElem_toArray, List.getElem_cons_succ, List.getElem_cons_zero]
     refine' wpAnyH_take (i := 44) (v := _) rfl (by kernel_rfl) (by kernel_rfl) (by kernel_rfl) (fun _ _ _ h => h) (Or.inl ⟨by rfl, ?thy1_44⟩) (by assumption) ?_
     case thy1_44 => (intro w hSw; (try dsimp only at hSw); go_simp; try with_reducible rfl)
     try simp only [Act.put, List.setIfInBounds_toArray, List.set_cons_zero, List.set_cons_succ, List.getElem_toArray, List.getElem_cons_succ, List.getElem_cons_zero]
     refine' wpAnyH_take (i := 45) (v := _) rfl (by kernel_rfl) (by kernel_rfl) (by kernel_rfl) (fun _ _ _ h => h) (Or.inl ⟨by rfl, ?thy1_45⟩) (by assumption) ?_
     case thy1_45 => (intro w hSw; (try dsimp only at hSw); go_simp; try with_reducible rfl)
     try simp only [Act.put, List.setIfInBounds_toArray, List.set_cons_zero, List.set_cons_succ, List.getElem_toArray, List.getElem_cons_succ, List.getElem_cons_zero]
     refine' wpAnyH_take (i := 46) (v := _) rfl (by kernel_rfl) (by kernel_rfl) (by kernel_rfl) (fun _ _ _ h => h) (Or.inl ⟨by rfl, ?thy1_46⟩) (by assumption) ?_
     case thy1_46 => (intro w hSw; (try dsimp only at hSw); go_simp; try with_reducible rfl)
     try simp only [Act.put, List.setIfInBounds_toArray, List.set_cons_zero, List.set_cons_succ, List.getElem_toArray, List.getElem_cons_succ, List.getElem_cons_zero]
     refine' wpAnyH_take (i := 47) (v := _) rfl (by kernel_rfl) (by kernel_rfl) (by kernel_rfl) (fun _ _ _ h => h) (Or.inl ⟨by rfl, ?thy1_47⟩) (by assumption) ?_
     case thy1_47 => (intro w hSw; (try dsimp only at hSw); go_simp; try with_reducible rfl)
     try simp only [Act.put, List.setIfInBounds_toArray, List.set_cons_zero, List.set_cons_succ, List.getElem_toArray, List.getElem_cons_succ, List.getElem_cons_zero]
     refine' wpAnyH_take (i := 48) (v := _) rfl (by kernel_rfl) (by kernel_rfl) (by kernel_rfl) (fun _ _ _ h => h) (Or.inl ⟨by rfl, ?thy1_48⟩) (by assumption) ?_
     case thy1_48 => (intro w hSw; (try dsimp only at hSw); go_simp; try with_reducible rfl)
     try simp only [Act.put, List.setIfInBounds_toArray, List.set_cons_zero, List.set_cons_succ, List.getElem_toArray, List.getElem_cons_succ, List.getElem_cons_zero]
     refine' wpAnyH_take (i := 49) (v := _) rfl (by kernel_rfl) (by kernel_rfl) (by kernel_rfl) (fun _ _ _ h => h) (Or.inl ⟨by rfl, ?thy1_49⟩) (by assumption) ?_
     case thy1_49 => (intro w hSw; (try dsimp only at hSw); go_simp; try with_reducible rfl)
     try simp only [Act.put, List.setIfInBounds_toArray, List.set_cons_zero, List.set_cons_succ, List.getElem_toArray, List.getElem_cons_succ, List.getElem_cons_zero]
     refine' wpAnyH_take (i := 50) (v := _) rfl (by kernel_rfl) (by kernel_rfl) (by kernel_rfl) (fun _ _ _ h => h) (Or.inl ⟨by rfl, ?thy1_50⟩) (by assumption) ?_
     case thy1_50 => (intro w hSw; (try dsimp only at hSw); go_simp; try with_reducible rfl)
     try simp only [Act.put, List.setIfInBounds_toArray, List.set_cons_zero, List.set_cons_succ, List.getElem_toArray, List.getElem_cons_succ, List.getElem_cons_zero]
     refine' wpAnyH_take (i := 51) (v := _) rfl (by kernel_rfl) (by kernel_rfl) (by kernel_rfl) (fun _ _ _ h => h) (Or.inl ⟨by rfl, ?thy1_51⟩) (by assumption) ?_
     case thy1_51 => (intro w hSw; (try dsimp only at hSw); go_simp; try with_reducible rfl)
     try simp only [Act.put, List.setIfInBounds_toArray, List.set_cons_zero, List.set_cons_succ, List.getElem_toArray, List.getElem_cons_succ, List.getElem_cons_zero]
     refine' wpAnyH_take (i := 52) (v := _) rfl (by kernel_rfl) (by kernel_rfl) (by kernel_rfl) (fun _ _ _ h => h) (Or.inl ⟨by rfl, ?thy1_52⟩) (by assumption) ?_
     case thy1_52 => (intro w hSw; (try dsimp only at hSw); go_simp; try with_reducible rfl)
     try simp only [Act.put, List.setIfInBounds_toArray, List.set_cons_zero, List.set_cons_succ, List.getElem_toArray, List.getElem_cons_succ, List.getElem_cons_zero]
     refine' wpAnyH_take (i := 53) (v := _) rfl (by kernel_rfl) (by kernel_rfl) (by kernel_rfl) (fun _ _ _ h => h) (Or.inl ⟨by rfl, ?thy1_53⟩) (by assumption) ?_
     case thy1_53 => (intro w hSw; (try dsimp only at hSw); go_simp; try with_reducible rfl)
     try simp only [Act.put, List.setIfInBounds_toArray, List.set_cons_zero, List.set_cons_succ, List.getElem_toArray, List.getElem_cons_succ, List.getElem_cons_zero]
     refine' wpAnyH_take (i := 54) (v := _) rfl (by kernel_rfl) (by kernel_rfl) (by kernel_rfl) (fun _ _ _ h => h) (Or.inl ⟨by rfl, ?thy1_54⟩) (by assumption) ?_
     case thy1_54 => (intro w hSw; (try dsimp only at hSw); go_simp; try with_reducible rfl)
     try simp only [Act.put, List.setIfInBounds_toArray, List.set_cons_zero, List.set_cons_succ, List.getElem_toArray, List.getElem_cons_succ, List.getElem_cons_zero]
     refine' wpAnyH_take (i := 55) (v := _) rfl (by kernel_rfl) (by kernel_rfl) (by kernel_rfl) (fun _ _ _ h => h) (Or.inl ⟨by rfl, ?thy1_55⟩) (by assumption) ?_
     case thy1_55 => (intro w hSw; (try dsimp only at hSw); go_simp; try with_reducible rfl)
     try simp only [Act.put, List.setIfInBounds_toArray, List.set_cons_zero, List.set_cons_succ, List.getElem_toArray, List.getElem_cons_succ, List.getElem_cons_zero]
     refine' wpAnyH_take (i := 56) (v := _) rfl (by kernel_rfl) (by kernel_rfl) (by kernel_rfl) (fun _ _ _ h => h) (Or.inl ⟨by rfl, ?thy1_56⟩) (by assumption) ?_
     case thy1_56 => (intro w hSw; (try dsimp only at hSw); go_simp; try with_reducible rfl)
     try simp only [Act.put, List.setIfInBounds_toArray, List.set_cons_zero, List.set_cons_succ, List.getElem_toArray, List.getElem_cons_succ, List.getElem_cons_zero]
     refine' wpAnyH_take (i := 57) (v := _) rfl (by kernel_rfl) (by kernel_rfl) (by kernel_rfl) (fun _ _ _ h => h) (Or.inl ⟨by rfl, ?thy1_57⟩) (by assumption) ?_
     case thy1_57 => (intro w hSw; (try dsimp only at hSw); go_simp; try with_reducible rfl)
     try simp only [Act.put, List.setIfInBounds_toArray, List.set_cons_zero, List.set_cons_succ, List.getElem_toArray, List.getElem_cons_succ, List.getElem_cons_zero]
     refine' wpAnyH_take (i := 58) (v := _) rfl (by kernel_rfl) (by kernel_rfl) (by kernel_rfl) (fun _ _ _ h => h) (Or.inl ⟨by rfl, ?thy1_58⟩) (by assumption) ?_
     case thy1_58 => (intro w hSw; (try dsimp only at hSw); go_simp; try with_reducible rfl)
     try simp only [Act.put, List.setIfInBounds_toArray, List.set_cons_zero, List.set_cons_succ, List.getElem_toArray, List.getElem_cons_succ, List.getElem_cons_zero]
     refine' wpAnyH_take (i := 59) (v := _) rfl (by kernel_rfl) (by kernel_rfl) (by kernel_rfl) (fun _ _ _ h => h) (Or.inl ⟨by rfl, ?thy1_59⟩) (by assumption) ?_
     case thy1_59 => (intro w hSw; (try dsimp only at hSw); go_simp; try with_reducible rfl)
     try simp only [Act.put, List.setIfInBounds_toArray, List.set_cons_zero, List.set_cons_succ, List.getElem_toArray, List.getElem_cons_succ, List.getElem_cons_zero]
     refine' wpAnyH_take (i := 60) (v := _) rfl (by kernel_rfl) (by kernel_rfl) (by kernel_rfl) (fun _ _ _ h => h) (Or.inl ⟨by rfl, ?thy1_60⟩) (by assumption) ?_
     case thy1_60 => (intro w hSw; (try dsimp only at hSw); go_simp; try with_reducible rfl)
     try simp only [Act.put, List.setIfInBounds_toArray, List.set_cons_zero, List.set_cons_succ, List.getElem_toArray, List.getElem_cons_succ, List.getElem_cons_zero]
     refine wpAnyH_ready (rs := [61]) (by kernel_rfl) (by simp) ?_
     refine AllReadyH.cons rfl (fun K hK => ?_) AllReadyH.nil
     go_simp
     refine hK.out _ _ ?_ (fun hN => ?_)
     ·exact ⟨(World.cell?_alloc_past _ _ _ (by simpa using lrb)).trans hH.1, (World.cell?_alloc_past _ _ _ (by simpa using lrb)).trans hH.2.1, (World.cell?_alloc_past _ _ _ (by simpa using lrb)).trans hH.2.2.1, (World.cell?_alloc_past _ _ _ (by simpa using lrb)).trans hH.2.2.2.1, (World.cell?_alloc_past _ _ _ (by simpa using lrb)).trans hH.2.2.2.2.1, (World.cell?_alloc_past _ _ _ (by simpa using lrb)).trans hH.2.2.2.2.2⟩
     clear hK K hH
     have hH := hN; clear hN
     try simp only [Act.put, List.setIfInBounds_toArray, List.set_cons_zero, List.set_cons_succ, List.getElem_toArray, List.getElem_cons_succ, List.getElem_cons_zero]
     refine wpAnyH_done (by kernel_rfl) ?_ _
     show wpList _ _ _ _ _ _
     have hbu : Bx (wr.alloc (.cells #[.int .i64 0, .int .i64 0] 38)).drew wr.heap.size 38 [.int .i64 0, .int .i64 0] := bx_drew (Bx.new (vs := [.int .i64 0, .int .i64 0]) rfl)
     have hgu : Gr wr (wr.alloc (.cells #[.int .i64 0, .int .i64 0] 38)).drew := ((Gr.refl wr).alloc _).drew
     generalize (wr.alloc (.cells #[.int .i64 0, .int .i64 0] 38)).drew = UW at *
     have u0 := hbu.blk.cell 0 rfl; have u1 := hbu.blk.cell 1 rfl; have v0 := hbu.blk.free 0 rfl; have v1 := hbu.blk.free 1 rfl; have lu := hbu.lt
     have HBU := Lib.hid hbu; have HGU := Lib.hid hgu
     clear hbu hgu hH lrb
     go_wp2_with fail
     have hTX := texel_ok (X := X) (Y := Y) (show 0 ≤ (u * z0 + v * z2 + (8 - u - v) * z4) / 8 ∧ (u * z0 + v * z2 + (8 - u - v) * z4) / 8 ≤ 4095 by have := HXX.out; omega) (show 0 ≤ (u * z1 + v * z3 + (8 - u - v) * z5) / 8 ∧ (u * z1 + v * z3 + (8 - u - v) * z5) / 8 ≤ 4095 by have := HYY.out; omega) HXX.out.2.2 HYY.out.2.2
     refine (hTX _).mono ?_
     rintro e w7 ⟨rfl, hg7⟩
     have hgw : Gr wr w7 := ((HGU.out.setCell (by show wr.heap.size ≤ wr.heap.size; omega) _).setCell (by show wr.heap.size ≤ wr.heap.size; omega) _).trans hg7
     have HGW := Lib.hid (HGR.out.trans hgw)
     clear hTX hg7 hgw u0 u1 v0 v1 lu W1 W2 A1 A2 A3 A4 A5 A6 A7 B1 B2 B3 B4 B5 B6 B7 m1
     have hp : Y * wn + X < M := by
      have h1 : (Y + 1) * wn ≤ hn * wn := Nat.mul_le_mul_right _ (by omega)
      rw [Nat.add_mul, Nat.mul_comm hn wn, EM.out] at h1; omega
     obtain ⟨b7, off7, rfl, hb7, hc7, hI7⟩ := row_at (HR5.out.later HGW.out) hp
     have eo : (outL U wn hn L).getD (Y * wn + X) 0 = (o : Int) := by
      rw [List.getD_eq_getElem?_getD, outL_get (by rw [EM.out]; exact hp)]
      rw [show (Y * wn + X) % wn = X by rw [Nat.add_comm, Nat.add_mul_mod_self_right, Nat.mod_eq_of_lt hXn], show (Y * wn + X) / wn = Y by rw [Nat.add_comm, Nat.add_mul_div_right _ _ (by omega), Nat.div_eq_of_lt hXn, Nat.zero_add]]
      exact HOWN.out
     rw [eo] at hc7
     obtain ⟨b8, off8, rfl, hb8, hc8, _⟩ := row_at (HR2.out.later (HG5.out.trans HGW.out)) hol
     obtain ⟨b9, off9, e9, hb9, hc9, _⟩ := row_at (HR2.out.later (HG5.out.trans HGW.out)) hlt
     cases e9
     rw [HOF.out] at hc8
     generalize O.getD q 0 = oq at *
     have hmc : (Y : Int) * (wn : Int) = ((Y * wn : Nat) : Int) := (Int.natCast_mul Y wn).symm
     obtain ⟨p, hp'⟩ : ∃ p, Y * wn = p := ⟨_, rfl⟩
     obtain ⟨r, hr'⟩ : ∃ r, p + X = r := ⟨_, rfl⟩
     rw [hp', hr'] at hp hc7
     rw [hp'] at hmc
     have u1 : IntKind.i64.wrap ((Y : Int) * (wn : Int)) = (p : Int) := by rw [hmc]; exact IntWalk.i64_in _ (by omega)
     have u2 : IntKind.i64.wrap ((p : Int) + (X : Int)) = (r : Int) := by rw [← Int.natCast_add, hr']; exact IntWalk.i64_in _ (by omega)
     have v1 : decide ((wn : Int) ≤ (X : Int)) = false := by simp; omega
     have v1' : decide (wn ≤ X) = false := by simp; omega
     have v2 : decide ((hn : Int) ≤ (Y : Int)) = false := by simp; omega
     have v2' : decide (hn ≤ Y) = false := by simp; omega
     have v3 : decide ((o : Int) < 0) = false := by simp
     have v4 : decide ((L : Int) ≤ (o : Int)) = false := by simp; omega
     have v4' : decide (L ≤ o) = false := by simp; omega
     have v5 : (0 : Int) ≤ (r : Int) := by omega
     have v6 : (0 : Int) ≤ (o : Int) := by omega
     clear hmc hp' hr' eo hI7 hXn hYn
     go_wp2_with fail
     refine wp_region_quiet_lit (by kernel_rfl) (by kernel_rfl) ?_
     repeat (go_big_quiet_step (fail))
     refine wpQuiet_nil ?_
     rintro _ ⟨n', rfl⟩
     go_wp2_with fail
     go_roundw
     case rel => exact ⟨q + 1, by omega, by go_num, HGW.out.dn _⟩
     case measure => simp [intOf]; omega
    ·have hql : q = L := by omega
     subst hql
     go_wp2_with fail
     refine (one_any _).mono ?_
     rintro e w6 ⟨rfl, hg6⟩
     have HG6 := Lib.hid ((HG4.out.trans (HG5.out.trans HGR.out)).trans hg6)
     clear hg6
     go_wp2_with fail
     go_ret
     exact ⟨rfl, HG6.out⟩
end Mt
end Go.Proofs.YtlfoglklibhbnaaGreat
namespace Go.Proofs.YtlfoglklibhbnaaGreat.Oi
open Go.ChangeShapes Go.WideShapes Go.ChangeAt Go.RowKit
theorem list4 {α : Type} {cs : List α} (h : cs.length = 4) : ∃ a b c d, cs = [a, b, c, d] := by
 match cs, h with
 | [a, b, c, d], _ => exact ⟨a, b, c, d, rfl⟩
theorem m_v3 : IntT Tryz.prog 1 63 3 := ⟨by kernel_rfl, .inr (.inl ⟨_, Tryz.underlying63, ⟨1, rfl, ⟨Tryz.underlying3, by kernel_rfl, rfl⟩, 1, rfl, ⟨Tryz.underlying3, by kernel_rfl, rfl⟩, 1, rfl, ⟨Tryz.underlying3, by kernel_rfl, rfl⟩, rfl⟩⟩)⟩
theorem m_v2 : IntT Tryz.prog 1 38 2 := ⟨by kernel_rfl, .inr (.inl ⟨_, Tryz.underlying38, ⟨1, rfl, ⟨Tryz.underlying3, by kernel_rfl, rfl⟩, 1, rfl, ⟨Tryz.underlying3, by kernel_rfl, rfl⟩, rfl⟩⟩)⟩
theorem m_c : IntT Tryz.prog 1 65 3 := ⟨by kernel_rfl, .inr (.inl ⟨_, Tryz.underlying65, ⟨1, rfl, ⟨Tryz.underlying3, by kernel_rfl, rfl⟩, 1, rfl, ⟨Tryz.underlying3, by kernel_rfl, rfl⟩, 1, rfl, ⟨Tryz.underlying3, by kernel_rfl, rfl⟩, rfl⟩⟩)⟩
theorem m_t : IntT Tryz.prog 2 66 9 := ⟨by kernel_rfl, .inr (.inr ⟨3, 65, 3, Tryz.underlying66, m_c, rfl⟩)⟩
section
variable {H : Type} {enc : TypeId × Value → H} {w : World} {base : Nat} {spare : Nat → Bool} {held : Bool}
theorem open_sl {d m f : Nat} {t e : TypeId} {c : Value} {x : DataW H × List MemPlace} (ht : Tryz.prog.underlying t = some (.slice e)) (hT : IntT Tryz.prog d e m) (hm : 0 < m) (h : DataW.trod enc Tryz.prog w base spare held f t [c] = some x) : ∃ (s : Mt.SL) (zs : List (List Int)), c = s.v ∧ IsRows m w s.a s.len zs := by
 rcases open_rows ht hT hm h with hcs | ⟨a, len, cap, zs, hcs, hrow⟩
 ·injection hcs with hcs _
  exact ⟨⟨none, 0, 0⟩, [], hcs, IsRows.nil _ _ _⟩
 ·injection hcs with hcs _
  exact ⟨⟨some a, len, cap⟩, zs, hcs, hrow⟩
theorem open_mesh {v : Value} {x : DataW H} {p : List MemPlace} (h : DataW.Trod enc Tryz.prog w base spare held 26 v x p) : ∃ (m : Mt.ML) (d : Mt.MD), v = m.val ∧ Mt.IsM w m d := by
 obtain ⟨fuel, hf⟩ := h
 have hc : Tryz.prog.cellsOf 26 = 4 := by kernel_rfl
 have hc1 : Tryz.prog.cellsOf 22 = 1 := by kernel_rfl
 have hc2 : Tryz.prog.cellsOf 23 = 1 := by kernel_rfl
 have hc3 : Tryz.prog.cellsOf 24 = 1 := by kernel_rfl
 obtain ⟨cs, hcs⟩ : ∃ cs, v.cells.toList = cs := ⟨_, rfl⟩
 rw [hcs] at hf
 obtain ⟨xs, f', _, _, hl, hlen, hel⟩ := DataW.trod_struct Tryz.underlying26 hf
 have hl4 : cs.length = 4 := by omega
 obtain ⟨c0, c1, c2, c3, rfl⟩ := list4 hl4
 have hx4 : xs.length = 4 := hlen
 have h0 : DataW.trod enc Tryz.prog w base spare held f' 22 (([c0, c1, c2, c3].drop 0).take (Tryz.prog.cellsOf 22)) = xs[0]? := by have := hel 0 _ rfl; exact this
 have h1 : DataW.trod enc Tryz.prog w base spare held f' 23 (([c0, c1, c2, c3].drop 1).take (Tryz.prog.cellsOf 23)) = xs[1]? := by have := hel 1 _ rfl; exact this
 have h2 : DataW.trod enc Tryz.prog w base spare held f' 22 (([c0, c1, c2, c3].drop 2).take (Tryz.prog.cellsOf 22)) = xs[2]? := by have := hel 2 _ rfl; exact this
 have h3 : DataW.trod enc Tryz.prog w base spare held f' 24 (([c0, c1, c2, c3].drop 3).take (Tryz.prog.cellsOf 24)) = xs[3]? := by have := hel 3 _ rfl; exact this
 rw [List.getElem?_eq_getElem (by omega)] at h0 h1 h2 h3
 simp only [hc1, hc2, hc3, List.drop_zero, List.drop_succ_cons, List.take_succ_cons, List.take_zero] at h0 h1 h2 h3
 obtain ⟨s0, z0, rfl, r0⟩ := open_sl Tryz.underlying22 m_v3 (by omega) h0
 obtain ⟨s1, z1, rfl, r1⟩ := open_sl Tryz.underlying23 m_v2 (by omega) h1
 obtain ⟨s2, z2, rfl, r2⟩ := open_sl Tryz.underlying22 m_v3 (by omega) h2
 obtain ⟨s3, z3, rfl, r3⟩ := open_sl Tryz.underlying24 m_t (by omega) h3
 refine ⟨⟨s0, s1, s2, s3⟩, ⟨z0, z1, z2, z3⟩, ?_, ⟨r0, r1, r2, r3⟩⟩
 cases v
 case agg cs =>
  have e : cs = #[s0.v, s1.v, s2.v, s3.v] := Array.ext' (by simpa [Value.cells] using hcs)
  rw [e]
  rfl
 all_goals (simp [Value.cells] at hcs)
end
end Go.Proofs.YtlfoglklibhbnaaGreat.Oi
namespace Go.Proofs.YtlfoglklibhbnaaGreat
open Go.RowKit
theorem walk_TopPoint (w : World) (m : Mt.ML) (d : Mt.MD) (h : Mt.IsM w m d) (a1 : Int) (_ : I a1) (a2 : Int) (_ : I a2) (a3 : Int) (_ : I a3) (a4 : Int) (_ : I a4) (a5 : Int) (_ : I a5) (a6 : Int) (_ : I a6) :
  Calls Tryz.prog 4 #[m.val, .int .i64 a1, .int .i64 a2, .int .i64 a3, .int .i64 a4, .int .i64 a5, .int .i64 a6] w fun e w' => e = .returned (.bool true) ∧ Gr w w' := Mt.walk_TopPoint m d a1 a2 a3 a4 a5 a6 w h
end Go.Proofs.YtlfoglklibhbnaaGreat
