/- Parts of the proof of TopPoint. No condition of their own. -/
import Derived.Test.YtlfoglklibhbnaaGreatTpT
import Derived.Test.YtlfoglklibhbnaaGreatTpU
import Derived.Shelf.SortM.SortNone
import Derived.Deep.RegionHeld3
set_option linter.unusedVariables false
set_option linter.unusedSimpArgs false
namespace Go.Proofs.YtlfoglklibhbnaaGreat
open Go.RowKit Go.Maps
namespace Mt
def AllI (xs : List Int) : Prop := ∀ x ∈ xs, I x
theorem AllI.snoc {xs : List Int} (h : AllI xs) {x : Int} (hx : I x) : AllI (xs ++ [x]) := by
 intro z hz
 rw [List.mem_append] at hz
 rcases hz with hz | hz
 ·exact h z hz
 ·simp at hz; subst hz; exact hx
theorem row_back {w w' : World} {a : Option Addr} {len : Nat} {zs : List Int} (h : IsRow .i64 w' a len zs) (g : Gr w w') (hb : ∀ ad : Addr, a = some ad → ad.block < w.heap.size) : IsRow .i64 w a len zs := by
 obtain ⟨h1, h2, h3, h4⟩ := h
 refine ⟨h1, h2, h3, fun hl => ?_⟩
 obtain ⟨b, off, e, hc⟩ := h4 hl
 exact ⟨b, off, e, fun i hi => by rw [← g.cell (p := ⟨b, off + i, none⟩) (hb ⟨b, off, none⟩ e)]; exact hc i hi⟩
theorem row_blk {w : World} {g : Nat} {xs ys : List Int} (h : Blk w g ((xs ++ ys).map (Value.int .i64))) (hI : AllI xs) (hl : xs.length ≤ 9223372036854775807) : IsRow .i64 w (some ⟨g, 0, none⟩) xs.length xs := by
 refine ⟨rfl, hl, fun n hn => wf_of_I (hI n hn), fun _ => ⟨g, 0, rfl, fun i hi => ?_⟩⟩
 have := h.cell i (v := .int .i64 (xs.getD i 0)) (by
  rw [List.getElem?_map, List.getElem?_append_left hi, List.getElem?_eq_getElem hi]
  simp [List.getD, hi])
 simpa using this
set_option maxHeartbeats 16000000 in
set_option maxRecDepth 100000 in
theorem near_any (m : ML) (d : MD) (i base b n : Nat) (w : World) (h : IsM w m d) (hi : i < d.F.length) (ht : Tab w base b n) (hn : n ≤ 3000) :
  Calls Tryz.prog 98 #[.map (some b), m.val, .int .i64 i] w fun e w' => ∃ a cap zs, e = .returned (.slice a zs.length cap) ∧ IsRow .i64 w' a zs.length zs ∧ zs.length ≤ 9000 ∧ Gr w w' := by
 obtain ⟨⟨av, lv, cv⟩, ⟨at', lt, ct⟩, ⟨an, ln, cn⟩, ⟨af, lf, cf⟩⟩ := m
 obtain ⟨i0, hi0, hz0, hz1, hz2⟩ := info_parts infoInt
 have h4 : d.F.length = lf := h.f.1
 rw [h4] at hi
 have hB : Bx (w.alloc (.cells #[.slice av lv cv, .slice at' lt ct, .slice an ln cn, .slice af lf cf] 26)) w.heap.size 26 [.slice av lv cv, .slice at' lt ct, .slice an ln cn, .slice af lf cf] := Bx.new (vs := [.slice av lv cv, .slice at' lt ct, .slice an ln cn, .slice af lf cf]) rfl
 have hG : Gr w (w.alloc (.cells #[.slice av lv cv, .slice at' lt ct, .slice an ln cn, .slice af lf cf] 26)) := (Gr.refl w).alloc _
 obtain ⟨bF, off, t0, t1, t2, t3, t4, t5, t6, t7, t8, rfl, hbl, ez, hI, c0, c1, c2, c3, c4, c5, c6, c7, c8⟩ := rows9_at (h.later hG).f hi
 have HM := Lib.hid h; have HT := Lib.hid ht; have HG := Lib.hid hG; have HI := Lib.hid hI
 have m3 := hB.blk.cell 3 rfl
 have hi0' : (0 : Int) ≤ (i : Int) := by omega
 clear hB h h4 hG ht ez hI
 unfold ML.val SL.v
 go_enter Tryz.func98, Tryz.ntmps98
 go_wp2_with fail
 refine (pairs_any t0 t1 t2 t3 t4 t5 t6 t7 t8 HI.out.1 HI.out.2.2.2.1 HI.out.2.2.2.2.2.2.1 _).mono ?_
 rintro e V ⟨ap, capp, ps, rfl, hps, hl3, hfr, hg1⟩
 have hGV : Gr w V := HG.out.trans hg1
 have HGV := Lib.hid hGV; have HPS := Lib.hid hps; have HTV := Lib.hid (HT.out.gr hGV)
 clear hg1 hGV hps hfr c0 c1 c2 c3 c4 c5 c6 c7 c8 m3 HG
 go_wp2_with fail
 go_loopw [7, 19] (fun v7 v19 wr => ∃ (j : Nat) (xs : List Int), j ≤ ps.length ∧ xs.length ≤ j * 3000 ∧ v19 = .int .i64 j ∧ AllI xs ∧ wr.ownsRow V.heap.size 3 1 v7 xs.length (xs.map (Value.int .i64)) ∧ Gr V wr) (fun _ v19 _ => ps.length - (intOf v19).toNat)
 case atStart => exact ⟨0, [], by omega, by simp, rfl, (fun x hx => nomatch hx), World.ownsRow_nil _ _ _ _, Gr.refl _⟩
 case round =>
  obtain ⟨j, xs, hj, hxl, rfl, hxs, hown, hg⟩ := hrel
  obtain ⟨a7, cap7, rfl⟩ := own_slice hown
  have HXS := Lib.hid hxs; have HO := Lib.hid hown; have HG := Lib.hid hg
  clear hxs hown hg
  by_cases hjl : j < ps.length
  ·obtain ⟨b2, off2, x, y, rfl, hbl2, ez, cx, cy, hx, hy⟩ := Ro.rows2_at (HPS.out.later HG.out) hjl
   obtain ⟨kl, hkl⟩ := key_pair x y hx hy
   have HKL := Lib.hid hkl
   clear ez hkl hx hy
   have hj0 : (0 : Int) ≤ (j : Int) := by omega
   obtain ⟨V2, hV2⟩ : ∃ V2, wr.alloc (.cells #[.int .i64 x, .int .i64 y] 200) = V2 := ⟨_, rfl⟩
   obtain ⟨s, hs⟩ : ∃ s, wr.heap.size = s := ⟨_, rfl⟩
   have hX : Bx V2 s 200 [.int .i64 x, .int .i64 y] := by rw [← hV2]; exact Bx.new (vs := [.int .i64 x, .int .i64 y]) hs.symm
   have hgV2 : Gr wr V2 := by rw [← hV2]; exact (Gr.refl wr).alloc _
   have HG2 := Lib.hid (HG.out.trans hgV2); have HO2 := Lib.hid (HO.out.alloc (.cells #[.int .i64 x, .int .i64 y] 200))
   rw [hV2] at HO2
   have x0 := hX.blk.cell 0 rfl; have x1 := hX.blk.cell 1 rfl
   have lX := hX.lt
   obtain ⟨D0, hown0⟩ := HTV.out
   have hbV : b < V.heap.size := by
    obtain ⟨es, clock, hb, _⟩ := hown0
    exact (Array.getElem?_eq_some_iff.1 hb).1
   have hsh2 : V2.Shuns b (fun g => V.heap.size ≤ g) := (World.Shuns.reno (No := fun _ => False) (fun _ _ _ _ _ _ _ h => h) hown0 (fun g hg => .inr hg)).kept (grown_gr HG2.out) hbV (by simp)
   have HSH2 := Lib.hid hsh2
   clear hown0 hsh2
   obtain ⟨D2, hown⟩ := HTV.out.gr HG2.out
   clear hX hgV2
   have hlx : n < maxLen := by unfold maxLen; omega
   go_wp2_with (first
    | (at_lookup; refine wpList_lookup_groups_shuns _ rfl (.tmp 23) (.tmp 24) 178 rfl 200 50 3 .i64 pair_keyed Tryz.underlying178 (zeroRow _) base b n D2 (by rfl) hown hlx _ kl (by rfl) HKL.out ?_; intro u zs hat hoi hzl hback hsu))
   clear hV2 hs x0 x1 lX
   obtain ⟨au, capu, rfl⟩ := own_slice hoi.1
   obtain ⟨_, _, e, hru⟩ := row_owned hoi.1 (by omega) hoi.2
   cases e
   have hru2 := row_back hru HG2.out (fun ad e => by
    subst e
    have := hsu _ HSH2.out ad.block rfl
    omega)
   have HU := Lib.hid hru2
   clear hoi hback hat hown hru hru2 hsu
   go_simp
   go_wp2_with fail
   go_loopw [7, 27] (fun v7 v27 wx => ∃ (q : Nat) (ys : List Int), q ≤ zs.length ∧ ys.length ≤ xs.length + q ∧ v27 = .int .i64 q ∧ AllI ys ∧ wx.ownsRow V.heap.size 3 1 v7 ys.length (ys.map (Value.int .i64)) ∧ Gr V wx) (fun _ v27 _ => zs.length - (intOf v27).toNat)
   case atStart => exact ⟨0, xs, by omega, by omega, rfl, HXS.out, HO2.out, HG2.out⟩
   case round =>
    clear HXS HO HG HG2 HO2
    obtain ⟨q, ys, hq, hyl, rfl, hys, hown, hg⟩ := hrel
    obtain ⟨a7, cap7, rfl⟩ := own_slice hown
    have HYS := Lib.hid hys; have HO := Lib.hid hown; have HG := Lib.hid hg
    clear hys hown hg
    by_cases hql : q < zs.length
    ·obtain ⟨b3, off3, e, hb3, hc, hzI⟩ := row_at (HU.out.later HG.out) hql
     subst e
     have HZI := Lib.hid hzI
     clear hzI
     generalize zs.getD q 0 = z at *
     have hq0 : (0 : Int) ≤ (q : Int) := by omega
     by_cases he : z = (i : Int)
     ·have he1 : (z == (i : Int)) = true := by simpa using he
      clear he
      go_wp2_with fail
      go_roundw
      case rel => exact ⟨q + 1, ys, by omega, by omega, by go_num, HYS.out, HO.out, HG.out⟩
      case measure => simp [intOf]; omega
     ·have he1 : (z == (i : Int)) = false := by simpa using he
      clear he
      go_wp2_with (first
       | (at_builtin; go_loud (refine wpList_append_own _ rfl (.tmp 34) (.tmp 36) 50 rfl V.heap.size 3 i0 (.int .i64 0) 1 8 Tryz.underlying50 hi0 hz0 hz1 hz2 rfl (by decide) (.slice a7 ys.length cap7) ys.length (ys.map (Value.int .i64)) (by rfl) (HO.out.alloc _) ⟨wr.heap.size, 0, none⟩ 1 1 [.int .i64 z] (by rfl) rfl (World.news_of_block (World.alloc_heap_new _ _)) ?c3 ?c4 ?c5 ?c6 ?_)))
      case c3 => intro u hu; simp at hu; subst hu; rfl
      case c4 => unfold maxLen; omega
      case c5 => omega
      case c6 => have := HG.out.size; simp; omega
      intro v' w1 hown1 hgrow _
      have hg4 : Gr V w1 := Below.grown (HG.out.alloc _) hgrow (HG.out.alloc _).size (fun j hj => (HO.out.lt j hj).1)
      have HO4 := Lib.hid hown1; have HG4 := Lib.hid hg4
      clear hown1 hgrow hg4
      go_wp2_with fail
      go_roundw
      case rel =>
       refine ⟨q + 1, ys ++ [z], by omega, by rw [List.length_append]; simp only [List.length_cons, List.length_nil]; omega, by go_num, HYS.out.snoc HZI.out, ?_, HG4.out⟩
       rw [List.length_append, List.map_append]; exact HO4.out
      case measure => simp [intOf]; omega
    ·have hqz : q = zs.length := by omega
     subst hqz
     go_wp2_with fail
     go_roundw
     case rel => exact ⟨j + 1, ys, by omega, by omega, by go_num, HYS.out, HO.out, HG.out⟩
     case measure => simp [intOf]; omega
  ·have hjp : j = ps.length := by omega
   subst hjp
   have hxl2 : xs.length ≤ 9000 := by omega
   have HXL := Lib.hid hxl2
   clear hxl hxl2
   by_cases h0 : xs.length = 0
   ·obtain rfl : xs = [] := List.eq_nil_of_length_eq_zero h0
    clear h0
    simp only [List.length_nil] at *
    have hs := AnyM.slices_Sort_int_none sortL a7 cap7 wr
    change Calls Tryz.prog 119 _ _ _ at hs
    have hc := AnyG.slices_Compact_int_empty compactL a7 cap7 wr
    change Calls Tryz.prog 120 _ _ _ at hc
    have HS := Lib.hid hs; have HC := Lib.hid hc
    clear hs hc
    go_wp2_with fail
    refine (HS.out).mono ?_
    rintro e w1 ⟨rfl, rfl⟩
    go_wp2_with fail
    refine (HC.out).mono ?_
    rintro e w1 ⟨rfl, rfl⟩
    go_wp2_with fail
    go_ret
    exact ⟨a7, cap7, [], rfl, IsRow.nil _ _ _, by simp, HGV.out.trans HG.out⟩
   ·obtain ⟨g, cap, e, hgb, hgl⟩ := HO.out.form (by omega)
    cases e
    have hb := own_blk HO.out
    have hcap : xs.length ≤ cap7 := (own_cap HO.out).1
    have HS := Lib.hid (sort_any g cap7 xs wr hb (by have := HXL.out; omega))
    clear hb
    go_wp2_with fail
    refine (HS.out).mono ?_
    rintro e w1 ⟨rfl, zs, hzl, hmem, hb1, hg1⟩
    have HC := Lib.hid (compact_any g cap7 zs w1 hb1 (by have := HXL.out; omega) (by omega))
    have hgw1 : Gr V w1 := Below.grown HG.out hg1 HG.out.size (fun j hj => by cases hj; omega)
    have HG1 := Lib.hid hgw1; have HZL := Lib.hid hzl; have HMM := Lib.hid hmem
    rw [hzl] at HC
    clear hg1 hb1 hgw1 hmem hzl hcap
    go_wp2_with fail
    refine (HC.out).mono ?_
    rintro e w2 ⟨ys, zs2, rfl, hyl, hym, hb2, hg2⟩
    have hgw2 : Gr V w2 := Below.grown HG1.out hg2 HG1.out.size (fun j hj => by cases hj; omega)
    have hyI : AllI ys := fun z hz => HXS.out z (HMM.out z (hym z hz))
    have HR2 := Lib.hid (row_blk hb2 hyI (by have := HXL.out; have := HZL.out; omega))
    have HYL := Lib.hid hyl
    have HG2 := Lib.hid hgw2
    clear hg2 hgw2 hb2 hym hyl hyI
    go_wp2_with fail
    go_ret
    exact ⟨_, _, ys, rfl, HR2.out, by have := HXL.out; have := HZL.out; have := HYL.out; omega, HGV.out.trans HG2.out⟩
end Mt
end Go.Proofs.YtlfoglklibhbnaaGreat
namespace Go.Proofs.YtlfoglklibhbnaaGreat
open Go.RowKit Go.Maps
namespace Mt
set_option maxHeartbeats 8000000 in
set_option maxRecDepth 100000 in
theorem next_any (m : ML) (d : MD) (i : Nat) (w : World) (h : IsM w m d) (hm : meshB d = true) (hi : i < d.F.length) (hl : d.F.length ≤ 1000) :
  Calls Tryz.prog 69 #[m.val, .int .i64 i] w fun e w' => ∃ a cap zs, e = .returned (.tuple #[.slice a zs.length cap, .int .i64 0]) ∧ IsRow .i64 w' a zs.length zs ∧ zs.length ≤ 9000 ∧ Gr w w' := by
 obtain ⟨⟨av, lv, cv⟩, ⟨at', lt, ct⟩, ⟨an, ln, cn⟩, ⟨af, lf, cf⟩⟩ := m
 have hlf : d.F.length = lf := h.f.1
 have HL := Lib.hid hl; have HI := Lib.hid hi; have HMB := Lib.hid hm; have HM := Lib.hid h
 rw [hlf] at hi
 have hB : Bx (w.alloc (.cells #[.slice av lv cv, .slice at' lt ct, .slice an ln cn, .slice af lf cf] 26)) w.heap.size 26 [.slice av lv cv, .slice at' lt ct, .slice an ln cn, .slice af lf cf] := Bx.new (vs := [.slice av lv cv, .slice at' lt ct, .slice an ln cn, .slice af lf cf]) rfl
 have hG : Gr w (w.alloc (.cells #[.slice av lv cv, .slice at' lt ct, .slice an ln cn, .slice af lf cf] 26)) := (Gr.refl w).alloc _
 have HG := Lib.hid hG; have HB := Lib.hid hB
 have HIS := Lib.hid (is_any ⟨⟨av, lv, cv⟩, ⟨at', lt, ct⟩, ⟨an, ln, cn⟩, ⟨af, lf, cf⟩⟩ d _ (h.later hG))
 have c0 := hB.blk.cell 0 rfl; have c1 := hB.blk.cell 1 rfl; have c2 := hB.blk.cell 2 rfl; have c3 := hB.blk.cell 3 rfl
 have lb := hB.lt
 have hi0 : decide ((i : Int) < 0) = false := by simp
 have hi1 : decide ((lf : Int) ≤ (i : Int)) = false := by simp; omega
 have hi2 : decide (lf ≤ i) = false := by simp; omega
 clear h hm hB hG hl
 unfold ML.val SL.v
 unfold ML.val SL.v at HIS
 rw [HMB.out] at HIS
 go_enter Tryz.func69, Tryz.ntmps69
 go_wp2_with fail
 refine (HIS.out).mono ?_
 rintro e V ⟨rfl, hg⟩
 have HGV := Lib.hid (HG.out.trans hg); have hBV := HB.out.gr hg
 clear c0 c1 c2 c3 lb hg
 have c0 := hBV.blk.cell 0 rfl; have c1 := hBV.blk.cell 1 rfl; have c2 := hBV.blk.cell 2 rfl; have c3 := hBV.blk.cell 3 rfl
 have lb := hBV.lt
 have HBV := Lib.hid hBV
 clear hBV
 go_wp2_with fail
 refine wp_region_held_drew (S := fun w' => w'.cell? ⟨w.heap.size, 0, none⟩ = some (.slice av lv cv) ∧ w'.cell? ⟨w.heap.size, 1, none⟩ = some (.slice at' lt ct) ∧ w'.cell? ⟨w.heap.size, 2, none⟩ = some (.slice an ln cn) ∧ w'.cell? ⟨w.heap.size, 3, none⟩ = some (.slice af lf cf)) (by kernel_rfl) ?_ (fun hH => ?_)
 ·exact ⟨c0, c1, c2, c3⟩
 refine' wpAnyH_take (i := 0) (v := _) rfl (by kernel_rfl) (by kernel_rfl) (by kernel_rfl) (fun _ _ _ h => h) (Or.inl ⟨by rfl, ?thy_0⟩) (by assumption) ?_
 case thy_0 => (intro w hSw; (try dsimp only at hSw); go_simp; try with_reducible rfl)
 try simp only [Act.put, List.setIfInBounds_toArray, List.set_cons_zero, List.set_cons_succ, List.getElem_toArray, List.getElem_cons_zero]
 refine' wpAnyH_take (i := 2) (v := _) rfl (by kernel_rfl) (by kernel_rfl) (by kernel_rfl) (fun _ _ _ h => h) (Or.inl ⟨by rfl, ?thy_1⟩) (by assumption) ?_
 case thy_1 => (intro w hSw; (try dsimp only at hSw); go_simp; try with_reducible rfl)
 try simp only [Act.put, List.setIfInBounds_toArray, List.set_cons_zero, List.set_cons_succ, List.getElem_toArray, List.getElem_cons_succ, List.getElem_cons_zero]
 refine' wpAnyH_take (i := 3) (v := _) rfl (by kernel_rfl) (by kernel_rfl) (by kernel_rfl) (fun _ _ _ h => h) (Or.inl ⟨by rfl, ?thy_2⟩) (by assumption) ?_
 case thy_2 => (intro w hSw; (try dsimp only at hSw); go_simp; try with_reducible rfl)
 try simp only [Act.put, List.setIfInBounds_toArray, List.set_cons_zero, List.set_cons_succ, List.getElem_toArray, List.getElem_cons_succ, List.getElem_cons_zero]
 refine wpAnyH_ready (rs := [1]) (by kernel_rfl) (by simp) ?_
 refine AllReadyH.cons rfl (fun K hK => ?_) AllReadyH.nil
 go_simp
 go_at_call 99
 refine (table_any ⟨⟨av, lv, cv⟩, ⟨at', lt, ct⟩, ⟨an, ln, cn⟩, ⟨af, lf, cf⟩⟩ d _ (HM.out.later HGV.out.drew) HL.out).mono ?_
 rintro e w2 ⟨base, b, n, rfl, hn, hb0, hbb, ht, hg⟩
 have HT := Lib.hid ht; have HN := Lib.hid hn; have HG2 := Lib.hid (HGV.out.drew.trans hg)
 have hc : w2.cell? ⟨w.heap.size, 0, none⟩ = some (.slice av lv cv) ∧ w2.cell? ⟨w.heap.size, 1, none⟩ = some (.slice at' lt ct) ∧ w2.cell? ⟨w.heap.size, 2, none⟩ = some (.slice an ln cn) ∧ w2.cell? ⟨w.heap.size, 3, none⟩ = some (.slice af lf cf) := by
  have hB2 := (bx_drew HBV.out).gr hg
  exact ⟨hB2.blk.cell 0 rfl, hB2.blk.cell 1 rfl, hB2.blk.cell 2 rfl, hB2.blk.cell 3 rfl⟩
 have HB2 := Lib.hid ((bx_drew HBV.out).gr hg)
 clear ht hn hb0 hbb hg
 go_wp2_with fail
 refine hK.out _ _ ?_ (fun hN => ?_)
 ·exact hc
 clear hK K hH hc
 have hH := hN; clear hN
 try simp only [Act.put, List.setIfInBounds_toArray, List.set_cons_zero, List.set_cons_succ, List.getElem_toArray, List.getElem_cons_succ, List.getElem_cons_zero]
 refine wpAnyH_ready (rs := [4]) (by kernel_rfl) (by simp) ?_
 refine AllReadyH.cons rfl (fun K hK => ?_) AllReadyH.nil
 go_simp
 go_at_call 98
 refine (near_any ⟨⟨av, lv, cv⟩, ⟨at', lt, ct⟩, ⟨an, ln, cn⟩, ⟨af, lf, cf⟩⟩ d i base b n _ (HM.out.later HG2.out) HI.out HT.out HN.out).mono ?_
 rintro e w3 ⟨a, cap, zs, rfl, hr, hzl, hg⟩
 have HR := Lib.hid hr; have HZ := Lib.hid hzl; have HG3 := Lib.hid (HG2.out.trans hg)
 have hc : w3.cell? ⟨w.heap.size, 0, none⟩ = some (.slice av lv cv) ∧ w3.cell? ⟨w.heap.size, 1, none⟩ = some (.slice at' lt ct) ∧ w3.cell? ⟨w.heap.size, 2, none⟩ = some (.slice an ln cn) ∧ w3.cell? ⟨w.heap.size, 3, none⟩ = some (.slice af lf cf) := by
  have hB3 := HB2.out.gr hg
  exact ⟨hB3.blk.cell 0 rfl, hB3.blk.cell 1 rfl, hB3.blk.cell 2 rfl, hB3.blk.cell 3 rfl⟩
 clear hr hzl hg
 go_wp2_with fail
 refine hK.out _ _ ?_ (fun hN => ?_)
 ·exact hc
 clear hK K hH hc
 have hH := hN; clear hN
 try simp only [Act.put, List.setIfInBounds_toArray, List.set_cons_zero, List.set_cons_succ, List.getElem_toArray, List.getElem_cons_succ, List.getElem_cons_zero]
 refine' wpAnyH_take (i := 5) (v := _) rfl (by kernel_rfl) (by kernel_rfl) (by kernel_rfl) (fun _ _ _ h => h) (Or.inl ⟨by rfl, ?thy_3⟩) (by assumption) ?_
 case thy_3 => (intro w hSw; (try dsimp only at hSw); go_simp; try with_reducible rfl)
 try simp only [Act.put, List.setIfInBounds_toArray, List.set_cons_zero, List.set_cons_succ, List.getElem_toArray, List.getElem_cons_succ, List.getElem_cons_zero]
 refine' wpAnyH_take (i := 6) (v := _) rfl (by kernel_rfl) (by kernel_rfl) (by kernel_rfl) (fun _ _ _ h => h) (Or.inl ⟨by rfl, ?thy_4⟩) (by assumption) ?_
 case thy_4 => (intro w hSw; (try dsimp only at hSw); go_simp; try with_reducible rfl)
 try simp only [Act.put, List.setIfInBounds_toArray, List.set_cons_zero, List.set_cons_succ, List.getElem_toArray, List.getElem_cons_succ, List.getElem_cons_zero]
 refine wpAnyH_done (by kernel_rfl) ?_ _
 go_wp2_with fail
 go_ret2
 exact ⟨a, cap, zs, rfl, HR.out, HZ.out, HG3.out⟩
end Mt
end Go.Proofs.YtlfoglklibhbnaaGreat
