/- Numbers in digits: Times, walked. -/
import Derived.Test.YtfpnkcmplmkghaaBs
import Derived.Test.YtfpnkcmplmkghaaBt
import Derived.StillTailTactics
set_option linter.unusedVariables false
set_option linter.unusedSimpArgs false
namespace Go.Proofs.Ytfpnkcmplmkghaa
open Go.RowKit
namespace Bg
/-- The world while Times is at work. -/
structure TW (w : World) (ba : Bool) (pa : Option Addr) (la ca : Nat) (bb : Bool) (pb : Option Addr) (lb cb : Nat) (N : Nat) (os : List Int) (x : World) : Prop where
  own : x.ownsRow (w.heap.size + 3) 3 1 (.slice (some ⟨w.heap.size + 3, 0, none⟩) N N) N (os.map (Value.int .i64))
  gr : Gr w x
  a : Blk x w.heap.size [.bool ba, .slice pa la ca]
  b : Blk x (w.heap.size + 1) [.bool bb, .slice pb lb cb]
  r : Blk x (w.heap.size + 2) [.bool false, .slice none 0 0]
section
variable {w : World} {ba : Bool} {pa : Option Addr} {la ca : Nat} {bb : Bool} {pb : Option Addr} {lb cb : Nat} {N : Nat} {os : List Int} {x : World}
theorem TW.set (h : TW w ba pa la ca bb pb lb cb N os x) (j : Nat) (v : Int) : TW w ba pa la ca bb pb lb cb N (os.set j v) (x.setCell ⟨w.heap.size + 3, j, none⟩ (.int .i64 v)) := by
  refine ⟨?_, h.gr.setCell (p := ⟨w.heap.size + 3, j, none⟩) (by simp) _, h.a.set_other (by simp) _, h.b.set_other (by simp) _, h.r.set_other (by simp) _⟩
  have := (World.ownsRow.stored h.own j (.int .i64 v)).1
  rwa [List.map_set]
theorem TW.drew (h : TW w ba pa la ca bb pb lb cb N os x) : TW w ba pa la ca bb pb lb cb N os x.drew := ⟨h.own, h.gr.drew, h.a.gr (Gr.refl _).drew, h.b.gr (Gr.refl _).drew, h.r.gr (Gr.refl _).drew⟩
theorem TW.cell (h : TW w ba pa la ca bb pb lb cb N os x) (hl : os.length = N) (j : Nat) (hj : j < N) : x.cell? ⟨w.heap.size + 3, j, none⟩ = some (.int .i64 (os.getD j 0)) := by
  have hj2 : j < os.length := by omega
  rw [World.ownsRow.cellAt h.own j (by omega)]
  simp [List.getD, hj2]
theorem TW.free (h : TW w ba pa la ca bb pb lb cb N os x) (j : Nat) : x.frozen? ⟨w.heap.size + 3, j, none⟩ = false := World.ownsRow.frozenAt h.own j
end
set_option maxHeartbeats 8000000 in
set_option maxRecDepth 100000 in
theorem times_any (va vb : Value) (m n : Int) (w : World) (ha : IsNum w va m) (hb : IsNum w vb n) (m40 : (m.natAbs : Int) < p10 40) (n40 : (n.natAbs : Int) < p10 40) :
    Calls Try.prog 71 #[va, vb] w fun e w' => (∃ u, e = .returned u ∧ IsNum w' u (m * n)) ∧ Gr w w' := by
  obtain ⟨i0, hi, hz0', hz1, hz2⟩ := info_parts infoInt
  obtain ⟨pa, la, ca, za, rfl, hra, hca, hva, hcapa, hnonea⟩ := parts ha
  obtain ⟨pb, lb, cb, zb, rfl, hrb, hcb, hvb, hcapb, hnoneb⟩ := parts hb
  have l60 := len_40 hra hca hva m40
  have k60 := len_40 hrb hcb hvb n40
  have HA := Lib.hid hra; have HB := Lib.hid hrb; have CA := Lib.hid hca; have CB := Lib.hid hcb; have VA := Lib.hid hva; have VB := Lib.hid hvb
  have za1 := Lib.hid hra.1; have zb1 := Lib.hid hrb.1
  clear ha hb hra hrb hca hcb hva hvb m40 n40
  unfold NumV
  generalize hbm : decide (m < 0) = bm
  generalize hbn : decide (n < 0) = bn
  have HM := Lib.hid hbm; have HN := Lib.hid hbn
  clear hbm hbn
  go_enter Try.func71, Try.ntmps71
  go_wp2_with (first
    | (refine wpList_make_full _ rfl (.tmp 16) (.tmp 16) 86 rfl (w.heap.size + 3) 3 i0 (.int .i64 0) 1 Try.underlying86 hi hz0' hz1 .i64 .i64 _ _ (la + lb + 1) rfl rfl ?c1 ?c2 ?c3 ?c4 ?c5 ?_))
  case c1 => go_num
  case c2 => go_num
  case c3 => rw [hz2]; omega
  case c4 => unfold maxLen; omega
  case c5 => simp
  intro w1 hown hgrow
  have g0 : Gr w w1 := ((((Gr.refl w).alloc (.cells #[.bool bm, .slice pa la ca] 88)).alloc (.cells #[.bool bn, .slice pb lb cb] 88)).alloc (.cells #[.bool false, .slice none 0 0] 88)).trans (Below.grown (Gr.refl _) hgrow (Nat.le_refl _) (fun k hk => by simp at hk))
  have gg : Gr (((w.alloc (.cells #[.bool bm, .slice pa la ca] 88)).alloc (.cells #[.bool bn, .slice pb lb cb] 88)).alloc (.cells #[.bool false, .slice none 0 0] 88)) w1 := Below.grown (Gr.refl _) hgrow (Nat.le_refl _) (fun k hk => by simp at hk)
  have hT : TW w bm pa la ca bn pb lb cb (la + lb + 1) (List.replicate (la + lb + 1) 0) w1 := by
    refine ⟨?_, g0, ?_, ?_, ?_⟩
    · rw [toList_madeCells_one] at hown
      simpa using hown
    · exact (((Blk.new (w := w) (T := 88) (vs := [.bool bm, .slice pa la ca]) rfl).alloc).alloc).gr gg
    · exact ((Blk.new (w := w.alloc (.cells #[.bool bm, .slice pa la ca] 88)) (b := w.heap.size + 1) (T := 88) (vs := [.bool bn, .slice pb lb cb]) (by simp)).alloc).gr gg
    · exact (Blk.new (w := (w.alloc (.cells #[.bool bm, .slice pa la ca] 88)).alloc (.cells #[.bool bn, .slice pb lb cb] 88)) (b := w.heap.size + 2) (T := 88) (vs := [.bool false, .slice none 0 0]) (by simp)).gr gg
  have HT := Lib.hid hT
  clear hown hgrow g0 gg hT
  go_wp2_with fail
  go_loopw [6, 7] (fun v6 v7 wr => ∃ (i : Nat) (os : List Int), i ≤ la ∧ v6 = .int .i64 i ∧ Mid (la + lb + 1) lb i 0 os ∧ (∀ j, os.getD j 0 ≤ 9) ∧ val os = val (za.take i) * val zb ∧ TW w bm pa la ca bn pb lb cb (la + lb + 1) os wr) (fun v _ _ => 61 - (intOf v).toNat)
  case atStart =>
    exact ⟨0, List.replicate (la + lb + 1) 0, Nat.zero_le _, rfl, Mid.first _ _, fun j => (Mid.first (la + lb + 1) lb).nine (.inl rfl) (fun _ => (by have := (Mid.first (la + lb + 1) 0).full rfl; exact this)) j, by rw [val_rep]; simp [val], HT.out⟩
  case round =>
    obtain ⟨i, os, hi1, rfl, hmid, h9, hv, hT⟩ := hrel
    clear HT
    have c0 := hT.a.cell 0 rfl; have c1 := hT.a.cell 1 rfl; have c2 := hT.b.cell 0 rfl; have c3 := hT.b.cell 1 rfl
    have HT := Lib.hid hT; have HMI := Lib.hid hmid; have H9 := Lib.hid h9; have HV := Lib.hid hv
    clear hT hmid h9 hv
    by_cases hlt : i < la
    · go_wp2_with fail
      go_loopw [7] (fun v7 wr => ∃ (k : Nat) (os : List Int), k ≤ lb ∧ v7 = .int .i64 k ∧ Mid (la + lb + 1) lb i k os ∧ val os = val (za.take i) * val zb + p10 i * za.getD i 0 * val (zb.take k) ∧ TW w bm pa la ca bn pb lb cb (la + lb + 1) os wr) (fun v _ => 61 - (intOf v).toNat)
      case atStart => exact ⟨0, os, Nat.zero_le _, rfl, HMI.out, by rw [HV.out]; simp [val], HT.out⟩
      case round =>
        clear HT HMI H9 HV c0 c1 c2 c3
        obtain ⟨k, os, hk1, rfl, hmid, hv, hT⟩ := hrel
        have c0 := hT.a.cell 0 rfl; have c1 := hT.a.cell 1 rfl; have c2 := hT.b.cell 0 rfl; have c3 := hT.b.cell 1 rfl
        by_cases hlt2 : k < lb
        · obtain ⟨ab, aoff, rfl, hca⟩ := (HA.out.later hT.gr).2.2.2 (by omega)
          obtain ⟨bb, boff, rfl, hcb⟩ := (HB.out.later hT.gr).2.2.2 (by omega)
          have hx := hca i hlt; have hy := hcb k hlt2
          have d1 := CA.out.1.dig i; have d2 := CB.out.1.dig k
          have hst := hmid.step hlt2 (by omega) d1 d2
          have hvs := inner_val hv (by rw [hmid.len]; omega)
          have e1 : wr.cell? ⟨w.heap.size + 1 + 1 + 1, i + k, none⟩ = some (.int .i64 (os.getD (i + k) 0)) := hT.cell hmid.len (i + k) (by omega)
          have e2 : wr.cell? ⟨w.heap.size + 1 + 1 + 1, i + k + 1, none⟩ = some (.int .i64 (os.getD (i + k + 1) 0)) := hT.cell hmid.len (i + k + 1) (by omega)
          have f1 : wr.frozen? ⟨w.heap.size + 1 + 1 + 1, i + k, none⟩ = false := hT.free (i + k); have f2 : wr.frozen? ⟨w.heap.size + 1 + 1 + 1, i + k + 1, none⟩ = false := hT.free (i + k + 1)
          have b1 := hmid.low (i + k); have b2 := hmid.here; have b3 := hmid.low (i + k + 1); have b4 := hmid.most (i + k + 1) (by omega)
          have HT := Lib.hid hT; have HMI := Lib.hid hmid; have HST := Lib.hid hst; have HVS := Lib.hid hvs
          have HCA := Lib.hid hca; have HCB := Lib.hid hcb
          clear hT hmid hst hvs hv hca hcb
          generalize hpe : os.getD (i + k) 0 = p at *
          generalize hqe : os.getD (i + k + 1) 0 = q at *
          have HPE := Lib.hid hpe; have HQE := Lib.hid hqe; clear hpe hqe
          generalize za.getD i 0 = x at *
          generalize zb.getD k 0 = y at *
          have hp : 0 ≤ x * y ∧ x * y ≤ 81 := by
            have h1 : 0 ≤ x * y := Int.mul_nonneg d1.1 d2.1
            have h2 : x * y ≤ 9 * 9 := Int.mul_le_mul d1.2 d2.2 d2.1 (by omega)
            omega
          have hs4 : IntKind.i64.wrap (x * y) = x * y := IntWalk.i64_in _ (by omega)
          have hs5 : IntKind.i64.wrap (p + x * y) = p + x * y := IntWalk.i64_in _ (by omega)
          have hs0 : IntKind.i64.wrap ((i : Int) + k) = (i : Int) + k := IntWalk.i64_in _ (by omega)
          have hs1 : (0 : Int) ≤ (i : Int) + k := by omega
          have hs2 : (i : Int) + k < (la : Int) + lb + 1 := by omega
          have hs3 : ((i : Int) + k).toNat = i + k := by omega
          go_wp2_with fail
          go_still_tail 23, (by kernel_rfl)
          have hz1' : 0 ≤ p + x * y ∧ p + x * y ≤ 99 := by omega
          have hT2 : TW w bm (some ⟨ab, aoff, none⟩) la ca bn (some ⟨bb, boff, none⟩) lb cb (la + lb + 1) (os.set (i + k) (p + x * y)) ((wr.setCell ⟨w.heap.size + 1 + 1 + 1, i + k, none⟩ (.int .i64 (p + x * y))).drew) := (HT.out.set (i + k) (p + x * y)).drew
          have HT2 := Lib.hid hT2
          have hlen := HMI.out.len
          clear hT2
          change wpList _ _ _ _ _ wr.drew
          go_wp2_with fail
          clear e1 e2 f1 f2 c0 c1 c2 c3 hx hy hs4 hs5
          generalize p + x * y = z at *
          generalize (wr.setCell ⟨w.heap.size + 1 + 1 + 1, i + k, none⟩ (.int .i64 z)).drew = w2 at *
          clear HT
          have hT2 := HT2.out
          have e1 : w2.cell? ⟨w.heap.size + 1 + 1 + 1, i + k, none⟩ = some (.int .i64 z) := by
            have := hT2.cell (by rw [List.length_set]; exact hlen) (i + k) (by omega)
            rw [getD_set _ _ _ _ (by omega), if_pos rfl] at this; exact this
          have e2 : w2.cell? ⟨w.heap.size + 1 + 1 + 1, i + k + 1, none⟩ = some (.int .i64 q) := by
            have := hT2.cell (by rw [List.length_set]; exact hlen) (i + k + 1) (by omega)
            rw [getD_set _ _ _ _ (by omega), if_neg (by omega), HQE.out] at this; exact this
          have f1 : w2.frozen? ⟨w.heap.size + 1 + 1 + 1, i + k, none⟩ = false := hT2.free (i + k)
          have f2 : w2.frozen? ⟨w.heap.size + 1 + 1 + 1, i + k + 1, none⟩ = false := hT2.free (i + k + 1)
          have c0 := hT2.a.cell 0 rfl; have c1 := hT2.a.cell 1 rfl; have c2 := hT2.b.cell 0 rfl; have c3 := hT2.b.cell 1 rfl
          have ht1 : z.tdiv 10 = z / 10 := Int.tdiv_eq_ediv_of_nonneg hz1'.1
          have ht2 : z.tmod 10 = z % 10 := Int.tmod_eq_emod_of_nonneg hz1'.1
          have ht3 : IntKind.i64.wrap (z / 10) = z / 10 := IntWalk.i64_in _ (by omega)
          have ht4 : IntKind.i64.wrap (q + z / 10) = q + z / 10 := IntWalk.i64_in _ (by omega)
          have hs6 : IntKind.i64.wrap ((i : Int) + k + 1) = (i : Int) + k + 1 := IntWalk.i64_in _ (by omega)
          have hs7 : (0 : Int) ≤ (i : Int) + k + 1 := by omega
          have hs8 : (i : Int) + k + 1 < (la : Int) + lb + 1 := by omega
          have hs9 : ((i : Int) + k + 1).toNat = i + k + 1 := by omega
          clear hT2
          go_still_tail 21, (by kernel_rfl)
          change wpList _ _ _ _ _ w2.drew
          clear ht3 ht4 hs6
          go_wp2_with fail
          go_roundw
          case rel =>
            refine ⟨k + 1, stp os (i + k) z, by omega, by go_num, HST.out, HVS.out, ?_⟩
            unfold stp
            rw [HQE.out]
            exact ((HT2.out.set (i + k + 1) (q + z / 10)).set (i + k) (z % 10)).drew
          case measure => simp [intOf]; omega
        · have hke : k = lb := by omega
          rw [hke] at hmid
          have h9 := hmid.nine (.inr rfl) (fun _ => hmid.full rfl)
          have hn := hmid.next
          rw [hke, ← zb1.out] at hv
          have hv2 := outer_val hv
          have HT := Lib.hid hT; have HMI := Lib.hid hn; have H9 := Lib.hid h9; have HV := Lib.hid hv2
          clear hT hmid hn h9 hv hv2
          go_wp2
          go_roundw
          case rel => exact ⟨i + 1, os, by omega, by go_num, HMI.out, H9.out, HV.out, HT.out⟩
          case measure => simp [intOf]; omega
    · have hie : la = i := by omega
      subst hie
      have hdg := HMI.out.dg H9.out
      have hlen := HMI.out.len
      have hvv : val os = val za * val zb := by
        have := HV.out
        rwa [← za1.out, List.take_length] at this
      have HDG := Lib.hid hdg; have HVV := Lib.hid hvv
      clear hdg hvv HMI HV
      go_wp2_with fail
      go_loopw [8] (fun v8 wr => ∃ j : Nat, j ≤ la + lb ∧ v8 = .int .i64 j ∧ TW w bm pa la ca bn pb lb cb (la + lb + 1) os wr) (fun v _ => 121 - (intOf v).toNat)
      case atStart => exact ⟨0, by omega, rfl, HT.out⟩
      case round =>
        clear HT c0 c1 c2 c3
        obtain ⟨j, hj, rfl, hT⟩ := hrel
        have c0 := hT.a.cell 0 rfl; have c1 := hT.a.cell 1 rfl; have c2 := hT.b.cell 0 rfl; have c3 := hT.b.cell 1 rfl
        by_cases hlt2 : j < la + lb
        · have e1 : wr.cell? ⟨w.heap.size + 1 + 1 + 1, j, none⟩ = some (.int .i64 (os.getD j 0)) := hT.cell hlen j (by omega)
          have e2 : wr.cell? ⟨w.heap.size + 1 + 1 + 1, j + 1, none⟩ = some (.int .i64 (os.getD (j + 1) 0)) := hT.cell hlen (j + 1) (by omega)
          have f1 : wr.frozen? ⟨w.heap.size + 1 + 1 + 1, j, none⟩ = false := hT.free j
          have f2 : wr.frozen? ⟨w.heap.size + 1 + 1 + 1, j + 1, none⟩ = false := hT.free (j + 1)
          have d1 := HDG.out.dig j; have d2 := HDG.out.dig (j + 1)
          have hT2 : TW w bm pa la ca bn pb lb cb (la + lb + 1) os (((wr.setCell ⟨w.heap.size + 1 + 1 + 1, j + 1, none⟩ (.int .i64 (os.getD (j + 1) 0))).setCell ⟨w.heap.size + 1 + 1 + 1, j, none⟩ (.int .i64 (os.getD j 0))).drew) := by
            have := ((hT.set (j + 1) (os.getD (j + 1) 0)).set j (os.getD j 0)).drew
            rwa [same_set rfl, same_set rfl] at this
          have HT2 := Lib.hid hT2
          clear hT hT2
          generalize hpe : os.getD j 0 = p at *
          generalize hqe : os.getD (j + 1) 0 = q at *
          have HPE := Lib.hid hpe; have HQE := Lib.hid hqe; clear hpe hqe
          have hs0 : IntKind.i64.wrap ((j : Int) + 1) = (j : Int) + 1 := IntWalk.i64_in _ (by omega)
          have hs1 : (0 : Int) ≤ (j : Int) + 1 := by omega
          have hs2 : (j : Int) + 1 < (la : Int) + lb + 1 := by omega
          have hs3 : ((j : Int) + 1).toNat = j + 1 := by omega
          have hs4 : (j : Int) < (la : Int) + lb + 1 := by omega
          have hs5 : (0 : Int) ≤ (j : Int) := by omega
          have ht1 : p.tdiv 10 = 0 := by rw [Int.tdiv_eq_ediv_of_nonneg d1.1]; omega
          have ht2 : p.tmod 10 = p := by rw [Int.tmod_eq_emod_of_nonneg d1.1]; omega
          have ht3 : IntKind.i64.wrap q = q := IntWalk.i64_in _ (by omega)
          have ht4 : IntKind.i64.wrap 0 = 0 := IntWalk.i64_in _ (by omega)
          have ht5 : p / 10 = 0 := by omega
          have ht6 : p % 10 = p := by omega
          go_wp2_with fail
          go_still_tail 15, (by kernel_rfl)
          change wpList _ _ _ _ _ wr.drew
          clear ht3 ht4 hs0
          go_wp2_with fail
          go_roundw
          case rel => exact ⟨j + 1, by omega, by go_num, HT2.out⟩
          case measure => simp [intOf]; omega
        · have HT := Lib.hid hT
          clear hT
          obtain ⟨ap, acap, hav, hrow, hcap, hnone, hbl⟩ := owned_row (zs := os) (by rw [hlen]; exact HT.out.own) (by omega) (wf_dg HDG.out)
          simp only [Value.slice.injEq] at hav
          obtain ⟨rfl, hla, rfl⟩ := hav
          have HR := Lib.hid hrow; have HBL := Lib.hid hbl; have HLEN := Lib.hid hlen
          clear hrow hbl hla hlen
          have hje : j = la + lb := by omega
          subst hje
          go_wp2_with fail
          have hrw : IsRow .i64 wr (some ⟨w.heap.size + 3, 0, none⟩) (la + lb + 1) os := by have := HR.out; rw [HLEN.out] at this; exact this
          refine (trim_any _ _ _ _ os _ hrw HDG.out (Nat.le_refl _) hnone).mono ?_; rintro e w2 ⟨k, hk, rfl, hc, hvk, hg2⟩
          have hsg : m * n ≠ 0 → (!(bm == bn)) = decide (m * n < 0) := fun h => by rw [← HM.out, ← HN.out]; exact sign_mul h
          have hNum := num_of (b := !(bm == bn)) (n := m * n) (hrw.later hg2) hk hc (by rw [hvk, HVV.out, VA.out, VB.out, Int.natAbs_mul]; push_cast; rfl) hsg (Nat.le_refl _) hnone
          have hB2 := HT.out.r.gr hg2
          have hG := HT.out.gr.trans hg2
          have q0 := hB2.cell 0 rfl; have q1 := hB2.cell 1 rfl; have f0 := hB2.free 0 rfl; have f1 := hB2.free 1 rfl
          have HB2 := Lib.hid hB2; have HNU := Lib.hid hNum; have HG2 := Lib.hid hG
          clear hB2 hNum hG hc hvk hg2 hrw hsg HR HVV HDG hcap hnone c0 c1 c2 c3
          unfold NumV at *
          generalize ((!(bm == bn)) && decide (0 < k)) = sb at *
          go_wp2_with fail
          refine ⟨rfl, _, results_blk rfl Sx.ty88 rfl rfl (HB2.out.set2 _ _) rfl, ⟨_, rfl, ?_⟩, ?_⟩
          · exact IsNum.set (IsNum.set HNU.out (fun ad h _ => by cases h; simp) _) (fun ad h _ => by cases h; simp) _
          · exact (HG2.out.setCell (p := ⟨w.heap.size + 2, 0, none⟩) (by simp) _).setCell (p := ⟨w.heap.size + 2, 1, none⟩) (by simp) _
end Bg
end Go.Proofs.Ytfpnkcmplmkghaa
