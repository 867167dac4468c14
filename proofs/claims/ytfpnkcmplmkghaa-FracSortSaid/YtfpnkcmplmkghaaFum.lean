/- The law FracSort, walked. -/
import Derived.Test.YtfpnkcmplmkghaaF1
import Derived.Test.YtfpnkcmplmkghaaQ3
set_option linter.unusedVariables false
set_option linter.unusedSimpArgs false
namespace Go.Proofs.Ytfpnkcmplmkghaa
open Go.RowKit
namespace Fa
open Ro
theorem shared_any (w : World) : Calls Try.prog 47 #[] w fun e w' => e = .returned (.bool true) ∧ Gr w w' :=
  Sx.flat_run (Sx.c_shared w) rfl [] rfl (by intro a h; cases h)
theorem upto_least (zs : List (List Int)) : upto zs zs.length = So.least le zs [] := rfl
theorem count_succ (zs : List (List Int)) (k : Nat) (h : k < zs.length) (c : List Int) : (zs.take (k + 1)).count c = (zs.take k).count c + (if zs.getD k [] = c then 1 else 0) := by
  rw [List.take_succ_eq_append_getElem h, List.count_append, List.count_singleton]
  have e : zs.getD k [] = zs[k] := by simp [List.getD, List.getElem?_eq_getElem h]
  rw [e]
  by_cases hc : zs[k] = c <;> simp [hc]
theorem rise_step {zs : List (List Int)} (h : So.Rise le zs) {m : Nat} (hm : m + 1 < zs.length) : le (zs.getD m []) (zs.getD (m + 1) []) = true := by
  have := List.pairwise_iff_getElem.1 h m (m + 1) (by omega) hm (by omega)
  simpa [List.getD, List.getElem?_eq_getElem hm, List.getElem?_eq_getElem (show m < zs.length by omega)] using this
end Fa
open Fa Ro
set_option maxHeartbeats 8000000 in
set_option maxRecDepth 100000 in
theorem walk_FracSort (w : World) (p : Option Addr) (len cap : Nat) (zs : List (List Int)) (hr : Oi.IsRows 2 w p len zs) (hn : len ≤ cap ∧ (p = none → cap = 0)) (x0 x1 : Int) (_ : I x0) (_ : I x1) :
    Calls Try.prog 11 #[.slice p len cap, .agg #[.int .i64 x0, .int .i64 x1]] w fun e w' => e = .returned (.bool true) ∧ Gr w w' := by
  by_cases hl : 30 < len
  · clear hr hn
    go_enter Try.func11, Try.ntmps11
    go_wp2
    go_ret
    exact ⟨rfl, (Gr.refl _).alloc _⟩
  · have HR : Hid (Row2 (w.alloc (.cells #[.int .i64 x0, .int .i64 x1] 54)) p len cap zs) := Lib.hid ⟨hr.later ((Gr.refl _).alloc _), hn.1, hn.2⟩
    have hbx := Blk.new (w := w) (T := 54) (vs := [.int .i64 x0, .int .i64 x1]) rfl
    have HBX := Lib.hid hbx
    have HLL := Lib.hid hr.2.1
    clear hr hn hbx
    go_enter Try.func11, Try.ntmps11
    go_wp2_with fail
    refine (sort_any p len cap zs _ HR.out (by omega)).mono ?_
    rintro e w1 ⟨p1, c1, rfl, r1, g1⟩
    have HB1 := Lib.hid (HBX.out.gr g1); have R1 := Lib.hid r1; have HR1 := Lib.hid (HR.out.later g1); have HG := Lib.hid (((Gr.refl w).alloc (.cells #[.int .i64 x0, .int .i64 x1] 54)).trans g1)
    have hrise := So.msort_rise le le_tot le_tr zs
    have hcnt := So.msort_count le [x0, x1] zs
    have hhead := So.least_head le le_tot le_tr zs []
    have hsrt := So.msort_sorted le le_tot le_tr hrise
    have hSl : (So.msort le zs).length = len := (So.msort_len le zs).trans HR.out.1.1
    generalize So.msort le zs = S at *
    have HRISE := Lib.hid hrise; have HCNT := Lib.hid hcnt; have HHEAD := Lib.hid hhead; have HSRT := Lib.hid hsrt; have HSL := Lib.hid hSl
    clear r1 g1 HBX HR hrise hcnt hhead hsrt hSl
    go_upto_block 0 with fail
    go_cut [6] from 8 to 45 (fun s6 wx => s6 = .int .i64 (S.count [x0, x1] : Nat) ∧ Gr w1 wx)
    case first =>
      go_wp2_with fail
      go_loopw [6, 8] (fun v6 v8 wr => ∃ k : Nat, k ≤ len ∧ v8 = .int .i64 k ∧ v6 = .int .i64 ((S.take k).count [x0, x1] : Nat) ∧ Gr w1 wr) (fun _ v8 _ => 31 - (intOf v8).toNat)
      case atStart => exact ⟨0, Nat.zero_le _, rfl, by simp, Gr.refl _⟩
      case round =>
        obtain ⟨k, hk, rfl, rfl, hg⟩ := hrel
        by_cases hlt : k < len
        · have hcs := count_succ S k (by rw [HSL.out]; exact hlt) [x0, x1]
          have hcb : (S.take k).count [x0, x1] ≤ 30 := Nat.le_trans (List.count_le_length) (by rw [List.length_take]; omega)
          obtain ⟨b, off, u, v, rfl, hbl, ez, cu, cv, hu, hv⟩ := Ro.rows2_at (R1.out.1.later hg) hlt
          have hB := HB1.out.gr hg
          have q0 := hB.cell 0 rfl; have q1 := hB.cell 1 rfl; have hbb := hB.1
          rw [ez] at hcs
          have HCS := Lib.hid hcs; have HCB := Lib.hid hcb
          generalize (S.take k).count [x0, x1] = C at *
          have CU := Lib.hid cu; have CV := Lib.hid cv; have HBL := Lib.hid hbl; have Q0 := Lib.hid q0; have Q1 := Lib.hid q1; have HBB := Lib.hid hbb; have EZ := Lib.hid ez; have HGR := Lib.hid hg
          clear hcs hB cu cv hbl q0 q1 hbb hu hv hg ez hcb
          go_upto_region 9 with fail
          go_cut [37] from 23 to 36 (fun s wx => s = .bool false ∧ Gr wr wx)
          case first =>
            clear HCS HCB
            obtain rfl | ⟨m, rfl⟩ : k = 0 ∨ ∃ m, k = m + 1 := by cases k; exact .inl rfl; exact .inr ⟨_, rfl⟩
            · go_wp2_with fail
              refine wp_region_gr (W := wr) (by kernel_rfl) (by kernel_rfl) (Gr.refl _) ?_
              repeat (go_big_quiet_step (fail))
              refine wpQuiet_nil ?_
              rintro _ ⟨z, rfl⟩
              go_wp2_with fail
              go_meet
              exact ⟨rfl, z.gr⟩
            · have hrs := rise_step HRISE.out (m := m) (by rw [HSL.out]; omega)
              obtain ⟨b2, off2, u2, v2, e2, hb2, ez2, cu2, cv2, hu2, hv2⟩ := Ro.rows2_at (R1.out.1.later HGR.out) (i := m) (by omega)
              obtain ⟨rfl, rfl⟩ : b = b2 ∧ off = off2 := by injection e2 with e; injection e with e1 e2; exact ⟨e1, e2⟩
              clear e2
              rw [ez2, EZ.out, le_two, decide_eq_true_eq] at hrs
              have gu : ∀ z : GW wr, z.val.cell? ⟨b, off + (m + 1) * 2, none⟩ = some (.int .i64 u) := fun z => (z.gr.cell HBL.out).trans CU.out
              have gv : ∀ z : GW wr, z.val.cell? ⟨b, off + (m + 1) * 2 + 1, none⟩ = some (.int .i64 v) := fun z => (z.gr.cell HBL.out).trans CV.out
              have gu2 : ∀ z : GW wr, z.val.cell? ⟨b, off + m * 2, none⟩ = some (.int .i64 u2) := fun z => (z.gr.cell hb2).trans cu2
              have gv2 : ∀ z : GW wr, z.val.cell? ⟨b, off + m * 2 + 1, none⟩ = some (.int .i64 v2) := fun z => (z.gr.cell hb2).trans cv2
              have hm0 : (0 : Int) < (m : Int) + 1 := by omega
              have hm1 : (m : Int) < (len : Int) := by omega
              have hm2 : (m : Int) + 1 < (len : Int) := by omega
              have hw1 : IntKind.i64.wrap ((m : Int) + 1 - 1) = (m : Int) := by rw [Int.add_sub_cancel]; exact IntWalk.i64_in _ (by omega)
              clear cu2 cv2 hu2 hv2 hb2 ez2
              go_wp2_with fail
              refine wp_region_gr (W := wr) (by kernel_rfl) (by kernel_rfl) (Gr.refl _) ?_
              repeat (go_big_quiet_step (fail))
              go_big_quiet_want; go_big_quiet_op
              go_big_quiet_call (exact Calls.cw (cmp_any u2 v2 u v _))
              have hng : ¬ 0 < Sx.fcmp [u2, v2, u, v] := by omega
              repeat (go_big_quiet_step (fail))
              refine wpQuiet_nil ?_
              rintro _ ⟨z, rfl⟩
              go_wp2_with fail
              go_meet
              exact ⟨by simp [hng], z.gr⟩
          case rest =>
            obtain ⟨rfl, hgx⟩ := hcut
            have cu := (hgx.cell (p := ⟨b, off + k * 2, none⟩) HBL.out).trans CU.out
            have cv := (hgx.cell (p := ⟨b, off + k * 2 + 1, none⟩) HBL.out).trans CV.out
            have q0 := (hgx.cell (p := ⟨w.heap.size, 0, none⟩) HBB.out).trans Q0.out
            have q1 := (hgx.cell (p := ⟨w.heap.size, 1, none⟩) HBB.out).trans Q1.out
            have HGX := Lib.hid (HGR.out.trans hgx)
            clear hgx
            by_cases hc : [u, v] = [x0, x1]
            · obtain ⟨rfl, rfl⟩ : u = x0 ∧ v = x1 := by simpa using hc
              clear hc
              go_wp2_with fail
              refine wp_region_quiet_lit (by kernel_rfl) (by kernel_rfl) ?_
              repeat (go_big_quiet_step (fail))
              refine wpQuiet_nil ?_
              rintro _ ⟨n', rfl⟩
              go_wp2
              go_roundw
              case rel => exact ⟨k + 1, by omega, by go_num, (by have h := HCS.out; have hC := HCB.out; rw [if_pos trivial] at h; rw [h]; rw [IntWalk.wrap64_in _ (by omega)]; rfl), HGX.out.dn _⟩
              case measure => simp [intOf]; omega
            · have hcf : (if [u, v] = [x0, x1] then 1 else 0) = 0 := if_neg hc
              have HC := Lib.hid hc
              by_cases hu : u = x0
              · have hv : ¬ v = x1 := fun h => hc (by rw [hu, h])
                subst hu
                clear hc hcf
                go_wp2_with fail
                refine wp_region_quiet_lit (by kernel_rfl) (by kernel_rfl) ?_
                repeat (go_big_quiet_step (fail))
                refine wpQuiet_nil ?_
                rintro _ ⟨n', rfl⟩
                go_wp2
                go_roundw
                case rel => exact ⟨k + 1, by omega, by go_num, (by have h := HCS.out; rw [if_neg HC.out] at h; rw [h]; rfl), HGX.out.dn _⟩
                case measure => simp [intOf]; omega
              · clear hc hcf
                go_wp2_with fail
                refine wp_region_quiet_lit (by kernel_rfl) (by kernel_rfl) ?_
                repeat (go_big_quiet_step (fail))
                refine wpQuiet_nil ?_
                rintro _ ⟨n', rfl⟩
                go_wp2
                go_roundw
                case rel => exact ⟨k + 1, by omega, by go_num, (by have h := HCS.out; rw [if_neg HC.out] at h; rw [h]; rfl), HGX.out.dn _⟩
                case measure => simp [intOf]; omega
        · have e : k = len := by omega
          subst e
          have e2 : S.take k = S := List.take_of_length_le (by rw [HSL.out]; exact Nat.le_refl _)
          rw [e2]
          have HG2 := Lib.hid hg; clear hg e2
          go_wp2
          go_meet
          exact ⟨rfl, HG2.out⟩
    case rest =>
      obtain ⟨rfl, hg2⟩ := hcut
      rw [HCNT.out]
      have HB2 := Lib.hid (HB1.out.gr hg2); have R2 := Lib.hid (R1.out.later hg2); have HR2 := Lib.hid (HR1.out.later hg2); have HG2 := Lib.hid (HG.out.trans hg2)
      clear hg2 HB1 R1 HR1 HG
      go_upto_block 2 with fail
      go_cut [7] from 46 to 59 (fun s7 wx => s7 = .int .i64 (zs.count [x0, x1] : Nat) ∧ Gr wc wx)
      case first =>
        go_wp2_with fail
        go_loopw [7, 9] (fun v7 v9 wr => ∃ k : Nat, k ≤ len ∧ v9 = .int .i64 k ∧ v7 = .int .i64 ((zs.take k).count [x0, x1] : Nat) ∧ Gr wc wr) (fun _ v9 _ => 31 - (intOf v9).toNat)
        case atStart => exact ⟨0, Nat.zero_le _, rfl, by simp, Gr.refl _⟩
        case round =>
          obtain ⟨k, hk, rfl, rfl, hg⟩ := hrel
          by_cases hlt : k < len
          · have hcs := count_succ zs k (by rw [HR2.out.1.1]; exact hlt) [x0, x1]
            have hcb : (zs.take k).count [x0, x1] ≤ 30 := Nat.le_trans (List.count_le_length) (by rw [List.length_take]; omega)
            obtain ⟨b, off, u, v, rfl, hbl, ez, cu, cv, hu, hv⟩ := Ro.rows2_at (HR2.out.1.later hg) hlt
            have hB := HB2.out.gr hg
            have q0 := hB.cell 0 rfl; have q1 := hB.cell 1 rfl; have hbb := hB.1
            rw [ez] at hcs
            have HCS := Lib.hid hcs; have HCB := Lib.hid hcb
            generalize (zs.take k).count [x0, x1] = C at *
            have CU := Lib.hid cu; have CV := Lib.hid cv; have HBL := Lib.hid hbl; have Q0 := Lib.hid q0; have Q1 := Lib.hid q1; have HBB := Lib.hid hbb; have EZ := Lib.hid ez; have HGR := Lib.hid hg
            clear hcs hB cu cv hbl q0 q1 hbb hu hv hg ez hcb
            have cu := CU.out
            have cv := CV.out
            have q0 := Q0.out
            have q1 := Q1.out
            have HGX := HGR
            by_cases hc : [u, v] = [x0, x1]
            · obtain ⟨rfl, rfl⟩ : u = x0 ∧ v = x1 := by simpa using hc
              clear hc
              go_wp2_with fail
              refine wp_region_quiet_lit (by kernel_rfl) (by kernel_rfl) ?_
              repeat (go_big_quiet_step (fail))
              refine wpQuiet_nil ?_
              rintro _ ⟨n', rfl⟩
              go_wp2
              go_roundw
              case rel => exact ⟨k + 1, by omega, by go_num, (by have h := HCS.out; have hC := HCB.out; rw [if_pos trivial] at h; rw [h]; rw [IntWalk.wrap64_in _ (by omega)]; rfl), HGX.out.dn _⟩
              case measure => simp [intOf]; omega
            · have hcf : (if [u, v] = [x0, x1] then 1 else 0) = 0 := if_neg hc
              have HC := Lib.hid hc
              by_cases hu : u = x0
              · have hv : ¬ v = x1 := fun h => hc (by rw [hu, h])
                subst hu
                clear hc hcf
                go_wp2_with fail
                refine wp_region_quiet_lit (by kernel_rfl) (by kernel_rfl) ?_
                repeat (go_big_quiet_step (fail))
                refine wpQuiet_nil ?_
                rintro _ ⟨n', rfl⟩
                go_wp2
                go_roundw
                case rel => exact ⟨k + 1, by omega, by go_num, (by have h := HCS.out; rw [if_neg HC.out] at h; rw [h]; rfl), HGX.out.dn _⟩
                case measure => simp [intOf]; omega
              · clear hc hcf
                go_wp2_with fail
                refine wp_region_quiet_lit (by kernel_rfl) (by kernel_rfl) ?_
                repeat (go_big_quiet_step (fail))
                refine wpQuiet_nil ?_
                rintro _ ⟨n', rfl⟩
                go_wp2
                go_roundw
                case rel => exact ⟨k + 1, by omega, by go_num, (by have h := HCS.out; rw [if_neg HC.out] at h; rw [h]; rfl), HGX.out.dn _⟩
                case measure => simp [intOf]; omega
          · have e : k = len := by omega
            subst e
            have e2 : zs.take k = zs := List.take_of_length_le (by rw [HR2.out.1.1]; exact Nat.le_refl _)
            rw [e2]
            have HG3 := Lib.hid hg; clear hg e2
            go_wp2
            go_meet
            exact ⟨rfl, HG3.out⟩
      case rest =>
        obtain ⟨rfl, hg3⟩ := hcut
        have R3 := Lib.hid (R2.out.later hg3); have HR3 := Lib.hid (HR2.out.later hg3); have HG3 := Lib.hid (HG2.out.trans hg3)
        clear hg3 R2 HR2 HG2 HB2
        go_wp2_with fail
        refine (least_any p len cap zs _ HR3.out.1).mono ?_
        rintro e w4 ⟨rfl, hg4⟩
        have R4 := Lib.hid (R3.out.later hg4); have HR4 := Lib.hid (HR3.out.later hg4); have HG4 := Lib.hid (HG3.out.trans hg4)
        clear hg4 R3 HR3 HG3
        by_cases h0 : len = 0
        · subst h0
          go_wp2_with fail
          refine wp_region_quiet_lit (by kernel_rfl) (by kernel_rfl) ?_
          repeat (go_big_quiet_step (fail))
          refine wpQuiet_nil ?_
          rintro _ ⟨n', rfl⟩
          go_wp2_with fail
          have R5 := Lib.hid (R4.out.later ((Gr.refl w4).dn n')); have G5 := Lib.hid (HG4.out.dn n')
          clear R4 HR4 HG4
          refine (shared_any _).mono ?_; rintro e w5 ⟨rfl, g5⟩
          have R6 := Lib.hid (R5.out.later g5); have G6 := Lib.hid (G5.out.trans g5)
          clear g5 R5 G5
          go_wp2_with fail
          refine (sort_any _ _ c1 S _ R6.out (by omega)).mono ?_; rintro e w6 ⟨p6, c6, rfl, r6, g6⟩
          rw [HSRT.out] at r6
          have R7 := Lib.hid r6; have R8 := Lib.hid (R6.out.later g6); have G7 := Lib.hid (G6.out.trans g6)
          clear g6 r6 R6 G6
          go_wp2_with fail
          refine (same_any p6 _ _ c6 c1 S _ R7.out.1 R8.out.1).mono ?_; rintro e w7 ⟨rfl, g7⟩
          have G8 := Lib.hid (G7.out.trans g7)
          clear g7 G7
          go_wp2
          go_ret
          exact ⟨rfl, G8.out⟩
        · have hhd := HHEAD.out (by rw [HR4.out.1.1]; omega)
          have hu : upto zs len = So.least le zs [] := by rw [← HR4.out.1.1]; rfl
          rw [← hu, HR4.out.1.1] at hhd
          have HU := Lib.hid hu
          generalize upto zs len = B at *
          obtain ⟨hB, hBe⟩ := hhd
          obtain ⟨b, off, u, v, rfl, hbl, ez, cu, cv, hx, hy⟩ := Ro.rows2_at HR4.out.1 hB
          obtain ⟨b2, off2, u2, v2, rfl, hbl2, ez2, cu2, cv2, hx2, hy2⟩ := Ro.rows2_at R4.out.1 (i := 0) (by omega)
          rw [ez, ez2] at hBe
          obtain ⟨rfl, rfl⟩ : u = u2 ∧ v = v2 := by simpa using hBe
          simp only [Nat.zero_mul, Nat.add_zero] at cu2 cv2
          have hd : decide (0 < len) = true := decide_eq_true (by omega)
          rw [hd]
          have hl0 : (0 : Int) < (len : Int) := by omega
          have hB0 : (0 : Int) ≤ (B : Int) := by omega
          have hq0 : decide ((0 : Int) < (len : Int)) = true := decide_eq_true hl0
          have hq1 : decide ((B : Int) < 0) = false := decide_eq_false (by omega)
          have hq3 : decide (len ≤ B) = false := decide_eq_false (by omega)
          have hq4 : decide (0 < len) = true := decide_eq_true (by omega)
          have hq2 : decide ((len : Int) ≤ (B : Int)) = false := decide_eq_false (by omega)
          have hB1 : (B : Int) < (len : Int) := by omega
          clear ez ez2 hx hy hx2 hy2 hBe hbl hbl2 hu hd
          go_wp2_with fail
          refine wp_region_quiet_lit (by kernel_rfl) (by kernel_rfl) ?_
          repeat (go_big_quiet_step (fail))
          refine wpQuiet_nil ?_
          rintro _ ⟨n', rfl⟩
          clear cu cv cu2 cv2
          go_wp2_with fail
          have R5 := Lib.hid (R4.out.later ((Gr.refl w4).dn n')); have G5 := Lib.hid (HG4.out.dn n')
          clear R4 HR4 HG4
          refine (shared_any _).mono ?_; rintro e w5 ⟨rfl, g5⟩
          have R6 := Lib.hid (R5.out.later g5); have G6 := Lib.hid (G5.out.trans g5)
          clear g5 R5 G5
          go_wp2_with fail
          refine (sort_any _ _ c1 S _ R6.out (by omega)).mono ?_; rintro e w6 ⟨p6, c6, rfl, r6, g6⟩
          rw [HSRT.out] at r6
          have R7 := Lib.hid r6; have R8 := Lib.hid (R6.out.later g6); have G7 := Lib.hid (G6.out.trans g6)
          clear g6 r6 R6 G6
          go_wp2_with fail
          refine (same_any p6 _ _ c6 c1 S _ R7.out.1 R8.out.1).mono ?_; rintro e w7 ⟨rfl, g7⟩
          have G8 := Lib.hid (G7.out.trans g7)
          clear g7 G7
          go_wp2
          go_ret
          exact ⟨rfl, G8.out⟩
end Go.Proofs.Ytfpnkcmplmkghaa
