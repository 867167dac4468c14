/- The law FracDoes, walked. -/
import Derived.Test.YtfpnkcmplmkghaaF1
import Derived.Test.YtfpnkcmplmkghaaQ3
import Derived.Test.YtfpnkcmplmkghaaQ10
import Derived.Deep.CutBlock
set_option linter.unusedVariables false
set_option linter.unusedSimpArgs false
namespace Go.Proofs.Ytfpnkcmplmkghaa
open Go.RowKit
namespace Fv
open Ro Fa
theorem shared_any (w : World) : Calls Try.prog 47 #[] w fun e w' => e = .returned (.bool true) ∧ Gr w w' :=
  Sx.flat_run (Sx.c_shared w) rfl [] rfl (by intro a h; cases h)
theorem fis_any (a b : Int) (w : World) : Calls Try.prog 48 #[.agg #[.int .i64 a, .int .i64 b]] w
      fun e w' => e = .returned (.bool (Sx.fr1 a b)) ∧ Gr w w' := Sx.flat_run (Sx.c_fis3 w) rfl [a, b] rfl trivial
def fq (a b : Int) : Int := if Sx.fr1 a b then a / b else 0
def fe (a b : Int) : Int := if Sx.fr1 a b then 0 else 1
def rn (a b : Int) : Int := if Sx.fr1 a b then a.tdiv (Sx.gc a b) else 0
def rd (a b : Int) : Int := if Sx.fr1 a b then b.tdiv (Sx.gc a b) else 0
theorem allI {a b : Int} (ha : I a) (hb : I b) : Sx.AllI [a, b] := by
  intro x h; simp only [List.mem_cons, List.not_mem_nil, or_false] at h; rcases h with rfl | rfl <;> assumption
theorem ffl_any (a b : Int) (ha : I a) (hb : I b) (w : World) : Calls Try.prog 38 #[.agg #[.int .i64 a, .int .i64 b]] w
      fun e w' => e = .returned (.tuple #[.int .i64 (fq a b), .int .i64 (fe a b)]) ∧ Gr w w' := Sx.flat_run (Sx.c_ffl w) rfl [a, b] rfl (allI ha hb)
theorem rffl_any (a b : Int) (ha : I a) (hb : I b) (w : World) : Calls Try.prog 39 #[.agg #[.int .i64 a, .int .i64 b]] w
      fun e w' => e = .returned (.tuple #[.int .i64 (fq a b), .int .i64 (fe a b)]) ∧ Gr w w' := Sx.flat_run (Sx.c_rffl w) rfl [a, b] rfl (allI ha hb)
theorem fred_any (a b : Int) (ha : I a) (hb : I b) (w : World) : Calls Try.prog 40 #[.agg #[.int .i64 a, .int .i64 b]] w
      fun e w' => e = .returned (.tuple #[.agg #[.int .i64 (rn a b), .int .i64 (rd a b)], .int .i64 (fe a b)]) ∧ Gr w w' := Sx.flat_run (Sx.c_fred w) rfl [a, b] rfl (allI ha hb)
theorem rfred_any (a b : Int) (ha : I a) (hb : I b) (w : World) : Calls Try.prog 41 #[.agg #[.int .i64 a, .int .i64 b]] w
      fun e w' => e = .returned (.tuple #[.agg #[.int .i64 (rn a b), .int .i64 (rd a b)], .int .i64 (fe a b)]) ∧ Gr w w' := Sx.flat_run (Sx.c_rfred w) rfl [a, b] rfl (allI ha hb)
end Fv
open Ro Fa Fv
set_option maxHeartbeats 8000000 in
set_option maxRecDepth 100000 in
theorem walk_FracDoes (w : World) (a0 a1 : Int) (_ : I a0) (_ : I a1) (b0 b1 : Int) (_ : I b0) (_ : I b1) (p : Option Addr) (len cap : Nat) (zs : List (List Int)) (hr : Oi.IsRows 2 w p len zs) (hn : len ≤ cap ∧ (p = none → cap = 0)) :
    Calls Try.prog 10 #[.agg #[.int .i64 a0, .int .i64 a1], .agg #[.int .i64 b0, .int .i64 b1], .slice p len cap] w fun e w' => e = .returned (.bool true) ∧ Gr w w' := by
  rename_i ia0 ia1 ib0 ib1
  by_cases hl : 30 < len
  · clear hr hn ia0 ia1 ib0 ib1
    go_enter Try.func10, Try.ntmps10
    go_wp2
    go_ret
    exact ⟨rfl, ((Gr.refl _).alloc _).alloc _⟩
  · have hF := Fc.four_new w a0 a1 b0 b1 54
    have hg0 : Gr w ((w.alloc (.cells #[.int .i64 a0, .int .i64 a1] 54)).alloc (.cells #[.int .i64 b0, .int .i64 b1] 54)) := ((Gr.refl w).alloc _).alloc _
    have HR : Hid (Row2 ((w.alloc (.cells #[.int .i64 a0, .int .i64 a1] 54)).alloc (.cells #[.int .i64 b0, .int .i64 b1] 54)) p len cap zs) := Lib.hid ⟨hr.later hg0, hn.1, hn.2⟩
    have HF := Lib.hid hF; have HG := Lib.hid hg0; have IA0 := Lib.hid ia0; have IA1 := Lib.hid ia1; have HLL := Lib.hid hr.2.1
    clear hr hn hF hg0 ia0 ia1 ib0 ib1
    go_enter Try.func10, Try.ntmps10
    go_wp2_with fail
    refine (own_any p len cap zs _ HR.out (by omega)).mono ?_
    rintro e w1 ⟨p1, c1, rfl, r1, g1⟩
    have F1 := Lib.hid (HF.out.gr g1); have R1 := Lib.hid (HR.out.later g1); have O1 := Lib.hid r1; have G1 := Lib.hid (HG.out.trans g1)
    clear g1 r1 HF HR HG
    obtain ⟨c0, c1', c2, c3⟩ := F1.out.cells
    go_wp2_with fail
    refine (ffl_any a0 a1 IA0.out IA1.out _).mono ?_
    rintro e w2 ⟨rfl, g2⟩
    generalize hfq : fq a0 a1 = FQ at *
    generalize hfe : fe a0 a1 = FE at *
    have HFQ := Lib.hid hfq; have HFE := Lib.hid hfe
    clear c0 c1' c2 c3 hfq hfe
    have F2 := Lib.hid (F1.out.gr g2); have R2 := Lib.hid (R1.out.later g2); have O2 := Lib.hid (O1.out.later g2); have G2 := Lib.hid (G1.out.trans g2)
    clear g2 F1 R1 O1 G1
    obtain ⟨c0, c1', c2, c3⟩ := F2.out.cells
    go_wp2_with fail
    refine (rffl_any a0 a1 IA0.out IA1.out _).mono ?_
    rintro e w3 ⟨rfl, g3⟩
    rw [HFQ.out, HFE.out]
    clear c0 c1' c2 c3
    have F3 := Lib.hid (F2.out.gr g3); have R3 := Lib.hid (R2.out.later g3); have O3 := Lib.hid (O2.out.later g3); have G3 := Lib.hid (G2.out.trans g3)
    clear g3 F2 R2 O2 G2
    obtain ⟨c0, c1', c2, c3⟩ := F3.out.cells
    go_wp2_with fail
    refine (fred_any a0 a1 IA0.out IA1.out _).mono ?_
    rintro e w4 ⟨rfl, g4⟩
    rw [HFE.out]
    generalize hrn : rn a0 a1 = RN at *
    generalize hrd : rd a0 a1 = RD at *
    have HRN := Lib.hid hrn; have HRD := Lib.hid hrd
    clear c0 c1' c2 c3 hrn hrd
    have g4' := g4.alloc (.cells #[.int .i64 RN, .int .i64 RD] 54)
    have B4 := Lib.hid (Blk.new (w := w4) (T := 54) (vs := [.int .i64 RN, .int .i64 RD]) rfl)
    have F4 := Lib.hid (F3.out.gr g4'); have R4 := Lib.hid (R3.out.later g4'); have O4 := Lib.hid (O3.out.later g4'); have G4 := Lib.hid (G3.out.trans g4')
    clear g4 g4' F3 R3 O3 G3
    obtain ⟨c0, c1', c2, c3⟩ := F4.out.cells
    go_wp2_with fail
    refine (rfred_any a0 a1 IA0.out IA1.out _).mono ?_
    rintro e w5 ⟨rfl, g5⟩
    rw [HFE.out, HRN.out, HRD.out]
    clear c0 c1' c2 c3
    have g5' := g5.alloc (.cells #[.int .i64 RN, .int .i64 RD] 54)
    have C5 := Lib.hid (Blk.new (w := w5) (T := 54) (vs := [.int .i64 RN, .int .i64 RD]) rfl)
    have B5 := Lib.hid (B4.out.gr g5'); have F5 := Lib.hid (F4.out.gr g5'); have R5 := Lib.hid (R4.out.later g5'); have O5 := Lib.hid (O4.out.later g5'); have G5 := Lib.hid (G4.out.trans g5')
    clear g5 g5' F4 R4 O4 G4 B4
    go_wp2_with fail
    refine (least_any p len cap zs _ R5.out.1).mono ?_
    rintro e w6 ⟨rfl, g6⟩
    generalize hup : upto zs len = U at *
    have HUP := Lib.hid hup; clear hup
    generalize hud : decide (0 < len) = ud at *
    have HUD := Lib.hid hud; clear hud
    have C6 := Lib.hid (C5.out.gr g6); have B6 := Lib.hid (B5.out.gr g6); have F6 := Lib.hid (F5.out.gr g6); have R6 := Lib.hid (R5.out.later g6); have O6 := Lib.hid (O5.out.later g6); have G6 := Lib.hid (G5.out.trans g6)
    clear g6 C5 B5 F5 R5 O5 G5
    go_wp2_with fail
    refine (Fc.rleast_any p1 len c1 zs _ O6.out.1).mono ?_
    rintro e w7 ⟨rfl, g7⟩
    rw [HUP.out, HUD.out]
    have C7 := Lib.hid (C6.out.gr g7); have B7 := Lib.hid (B6.out.gr g7); have F7 := Lib.hid (F6.out.gr g7); have R7 := Lib.hid (R6.out.later g7); have O7 := Lib.hid (O6.out.later g7); have G7 := Lib.hid (G6.out.trans g7)
    clear g7 C6 B6 F6 R6 O6 G6
    go_wp2_with fail
    refine (sort_own p len cap zs _ R7.out (by omega)).mono ?_
    rintro e w8 ⟨p8, c8, rfl, r8, g8, o8⟩
    have hmi := So.msort_isort le le_tot le_tr zs
    rw [hmi] at r8 o8
    have S8 := Lib.hid r8; have W8 := Lib.hid o8; have D8 := Lib.hid g8
    have O8 := Lib.hid (O7.out.later g8)
    clear g8 r8 o8 hmi
    go_wp2_with fail
    refine (rsort_any p1 len c1 zs _ O8.out (by omega)).mono ?_
    rintro e w9 ⟨p9, c9, rfl, r9, g9⟩
    have T9 := Lib.hid r9; have S9 := Lib.hid (S8.out.later g9); have W9 := Lib.hid (owns_gr W8.out g9); have D9 := Lib.hid (D8.out.trans g9)
    clear g9 r9 S8 W8 D8 O8
    go_wp2_with fail
    refine (same_any p8 p9 len c8 c9 (So.isort le zs) _ S9.out.1 T9.out.1).mono ?_
    rintro e w10 ⟨rfl, g10⟩
    have W10 := Lib.hid (owns_gr W9.out g10); have D10 := Lib.hid (D9.out.trans g10)
    clear g10 S9 W9 D9 T9
    go_upto_block 0 with fail
    go_cut [22] from 64 to 73 (fun s22 wx => Gr w7 wx)
    case first =>
      go_wp2_with fail
      go_loopw [22] (fun v22 wr => ∃ k : Nat, k ≤ len ∧ v22 = .int .i64 k ∧ Gr w7 wr ∧ ∃ xs, wr.ownsRow w7.heap.size 54 2 (.slice p8 len c8) len xs) (fun v22 _ => len - (intOf v22).toNat)
      case atStart => exact ⟨0, Nat.zero_le _, rfl, D10.out, _, W10.out⟩
      case round =>
        obtain ⟨k, hk, rfl, hg, xs, ho⟩ := hrel
        by_cases hlt : k < len
        · obtain ⟨g, cap', hv, hb, hcc⟩ := own_some ho (by omega)
          injection hv with hv1 hv2 hv3
          subst hv1 hv3
          have hc := World.ownsRow.cellAt ho (k * 2) (by omega)
          have hf := World.ownsRow.frozenAt ho (k * 2)
          have hst := (World.ownsRow.stored ho (k * 2) (.int .i64 77)).1
          obtain ⟨u, hu⟩ : ∃ u, xs[k * 2]? = some u := by
            have := ho.1
            exact ⟨xs[k * 2]'(by omega), List.getElem?_eq_getElem _⟩
          rw [hu] at hc
          have HG := Lib.hid (hg.setCell (p := ⟨g, k * 2, none⟩) hb (.int .i64 77)); have HST := Lib.hid hst
          clear hu hst hg ho
          go_wp2
          go_roundw
          case rel => exact ⟨k + 1, by omega, by go_num, HG.out, _, HST.out⟩
          case measure => simp [intOf]; omega
        · have e : k = len := by omega
          subst e
          have HG := Lib.hid hg
          clear hg ho
          go_wp2
          go_meet
          exact HG.out
    case rest =>
      have C8 := Lib.hid (C7.out.gr hcut); have B8 := Lib.hid (B7.out.gr hcut); have F8 := Lib.hid (F7.out.gr hcut); have R8 := Lib.hid (R7.out.later hcut); have O8 := Lib.hid (O7.out.later hcut); have G8 := Lib.hid (G7.out.trans hcut)
      clear hcut C7 B7 F7 R7 O7 G7 W10 D10
      have q0 : ∀ z : GW wc, z.val.cell? ⟨w.heap.size, 0, none⟩ = some (.int .i64 a0) := fun z => (F8.out.gr z.gr).cells.1
      have q1 : ∀ z : GW wc, z.val.cell? ⟨w.heap.size, 1, none⟩ = some (.int .i64 a1) := fun z => (F8.out.gr z.gr).cells.2.1
      have q2 : ∀ z : GW wc, z.val.cell? ⟨w.heap.size + 1, 0, none⟩ = some (.int .i64 b0) := fun z => (F8.out.gr z.gr).cells.2.2.1
      have q3 : ∀ z : GW wc, z.val.cell? ⟨w.heap.size + 1, 1, none⟩ = some (.int .i64 b1) := fun z => (F8.out.gr z.gr).cells.2.2.2
      have q4 : ∀ z : GW wc, z.val.cell? ⟨w4.heap.size, 0, none⟩ = some (.int .i64 RN) := B8.out.gw 0 rfl
      have q5 : ∀ z : GW wc, z.val.cell? ⟨w4.heap.size, 1, none⟩ = some (.int .i64 RD) := B8.out.gw 1 rfl
      have q6 : ∀ z : GW wc, z.val.cell? ⟨w5.heap.size, 0, none⟩ = some (.int .i64 RN) := C8.out.gw 0 rfl
      have q7 : ∀ z : GW wc, z.val.cell? ⟨w5.heap.size, 1, none⟩ = some (.int .i64 RD) := C8.out.gw 1 rfl
      go_wp2_with fail
      refine wp_region_gr (W := wc) (by kernel_rfl) (by kernel_rfl) (Gr.refl _) ?_
      repeat (go_big_quiet_step (fail))
      go_big_quiet_want; go_big_quiet_op
      go_big_quiet_call (exact Calls.cw (shared_any _))
      repeat (go_big_quiet_step (fail))
      go_big_quiet_want; go_big_quiet_op
      go_big_quiet_call (exact Calls.cw (fis_any a0 a1 _))
      repeat (go_big_quiet_step (fail))
      go_big_quiet_want; go_big_quiet_op
      go_big_quiet_call (exact Calls.cw (Fc.ris_any a0 a1 _))
      repeat (go_big_quiet_step (fail))
      go_big_quiet_want; go_big_quiet_op
      go_big_quiet_call (exact Calls.cw (cmp_any a0 a1 b0 b1 _))
      repeat (go_big_quiet_step (fail))
      go_big_quiet_want; go_big_quiet_op
      go_big_quiet_call (exact Calls.cw (Fc.rcmp_any a0 a1 b0 b1 _))
      repeat (go_big_quiet_step (fail))
      go_big_quiet_want; go_big_quiet_op
      go_big_quiet_call (exact Calls.cw (same_any p p1 len cap c1 zs _ (R8.out.later (GW.gr _)).1 (O8.out.later (GW.gr _)).1))
      repeat (go_big_quiet_step (fail))
      refine wpQuiet_nil ?_
      rintro _ ⟨z, rfl⟩
      have hg3 := Lib.hid (G8.out.trans z.gr)
      clear q0 q1 q2 q3 q4 q5 q6 q7
      go_wp2
      go_ret
      exact ⟨rfl, hg3.out⟩
end Go.Proofs.Ytfpnkcmplmkghaa
