/- Parts of the proof of TopPoint. No condition of their own. -/
import Derived.Test.YtlfoglklibhbnaaGreatTpR
import Derived.Deep.AppendLies
import Derived.Deep.RegionHeld3
set_option linter.unusedVariables false
set_option linter.unusedSimpArgs false
namespace Go.Proofs.YtlfoglklibhbnaaGreat
open Go.RowKit
namespace Mt
theorem infoPair : (Tryz.prog.info? 200).map (fun i => (i.zero, i.size, i.bytes)) = some (some (.agg #[.int .i64 0, .int .i64 0]), 2, 16) := by kernel_rfl
theorem infoInt : (Tryz.prog.info? 3).map (fun i => (i.zero, i.size, i.bytes)) = some (some (.int .i64 0), 1, 8) := by kernel_rfl
def Pr2 (zs : List (List Int)) : Prop := ∀ z ∈ zs, z.length = 2 ∧ ∀ x ∈ z, I x
theorem Pr2.snoc {zs : List (List Int)} (h : Pr2 zs) {x y : Int} (hx : I x) (hy : I y) : Pr2 (zs ++ [[x, y]]) := by
 intro z hz
 rw [List.mem_append] at hz
 rcases hz with hz | hz
 ·exact h z hz
 ·simp at hz; subst hz; refine ⟨rfl, ?_⟩; simp [hx, hy]
theorem I_min {a b : Int} (ha : I a) (hb : I b) : I (min a b) := by unfold I at *; omega
theorem I_max {a b : Int} (ha : I a) (hb : I b) : I (max a b) := by unfold I at *; omega
set_option maxHeartbeats 8000000 in
set_option maxRecDepth 100000 in
theorem pairs_any (t0 t1 t2 t3 t4 t5 t6 t7 t8 : Int) (h0 : I t0) (h3 : I t3) (h6 : I t6) (w : World) :
  Calls Tryz.prog 118 #[.agg #[.int .i64 t0, .int .i64 t1, .int .i64 t2, .int .i64 t3, .int .i64 t4, .int .i64 t5, .int .i64 t6, .int .i64 t7, .int .i64 t8]] w fun e w' => ∃ a cap zs, e = .returned (.slice a zs.length cap) ∧ Oi.IsRows 2 w' a zs.length zs ∧ zs.length ≤ 3 ∧ (∀ ad, a = some ad → w.heap.size ≤ ad.block) ∧ Gr w w' := by
 obtain ⟨i0, hi, hz0, hz1, hz2⟩ := info_parts infoPair
 obtain ⟨V, hV⟩ : ∃ V, w.alloc (.cells #[.int .i64 t0, .int .i64 t1, .int .i64 t2, .int .i64 t3, .int .i64 t4, .int .i64 t5, .int .i64 t6, .int .i64 t7, .int .i64 t8] 66) = V := ⟨_, rfl⟩
 have hF : Bx V w.heap.size 66 [.int .i64 t0, .int .i64 t1, .int .i64 t2, .int .i64 t3, .int .i64 t4, .int .i64 t5, .int .i64 t6, .int .i64 t7, .int .i64 t8] := by rw [← hV]; exact Bx.new (vs := [.int .i64 t0, .int .i64 t1, .int .i64 t2, .int .i64 t3, .int .i64 t4, .int .i64 t5, .int .i64 t6, .int .i64 t7, .int .i64 t8]) rfl
 have hgV : Gr w V := by rw [← hV]; exact (Gr.refl w).alloc _
 have H0 := Lib.hid h0; have H3 := Lib.hid h3; have H6 := Lib.hid h6
 clear h0 h3 h6
 have c0 := hF.blk.cell 0 rfl; have c1 := hF.blk.cell 1 rfl; have c2 := hF.blk.cell 2 rfl; have c3 := hF.blk.cell 3 rfl; have c4 := hF.blk.cell 4 rfl; have c5 := hF.blk.cell 5 rfl; have c6 := hF.blk.cell 6 rfl; have c7 := hF.blk.cell 7 rfl; have c8 := hF.blk.cell 8 rfl
 have HF := Lib.hid hF; have HG := Lib.hid hgV
 clear hF hgV
 go_enter Tryz.func118, Tryz.ntmps118
 go_wp2_with fail
 go_loopw [3, 9] (fun v3 v9 wr => ∃ (k : Nat) (zs : List (List Int)), k ≤ 3 ∧ v9 = .int .i64 k ∧ zs.length ≤ k ∧ Pr2 zs ∧ wr.ownsRow (w.heap.size + 1) 200 2 v3 zs.length (Ro.fl zs) ∧ Bx wr w.heap.size 66 [.int .i64 t0, .int .i64 t1, .int .i64 t2, .int .i64 t3, .int .i64 t4, .int .i64 t5, .int .i64 t6, .int .i64 t7, .int .i64 t8] ∧ Gr w wr) (fun _ v9 _ => 3 - (intOf v9).toNat)
 case atStart => exact ⟨0, [], by omega, rfl, by simp, by intro z hz; simp at hz, World.ownsRow_nil _ _ _ _, HF.out, HG.out⟩
 case round =>
  clear c0 c1 c2 c3 c4 c5 c6 c7 c8 HF HG
  obtain ⟨k, zs, hk, rfl, hzl, hzs, hown, hF, hg⟩ := hrel
  obtain ⟨a3, cap3, rfl⟩ := own_slice hown
  have HZ := Lib.hid hzs; have HO := Lib.hid hown; have HF := Lib.hid hF; have HG := Lib.hid hg
  have hsz := hg.size
  clear hzs hown hF hg
  by_cases hlt : k < 3
  ·have hk3 : k = 0 ∨ k = 1 ∨ k = 2 := by omega
   rcases hk3 with rfl | rfl | rfl
   ·have hix := fun w => ix_c w t0 t1 t2 t3 t4 t5 t6 t7 t8 0 (by omega)
    simp only [Nat.mul_zero, Nat.mul_one, Nat.reduceMul, Nat.reduceAdd, Nat.zero_add, List.getD_cons_zero, List.getD_cons_succ, Int.natCast_zero, Int.natCast_one, Int.ofNat_zero, Int.cast_ofNat_Int] at hix
    obtain ⟨V2, hV2⟩ : ∃ V2, wr.alloc (.cells #[.int .i64 t0, .int .i64 t1, .int .i64 t2] 65) = V2 := ⟨_, rfl⟩
    obtain ⟨s, hs⟩ : ∃ s, wr.heap.size = s := ⟨_, rfl⟩
    have hF2 : Bx V2 w.heap.size 66 [.int .i64 t0, .int .i64 t1, .int .i64 t2, .int .i64 t3, .int .i64 t4, .int .i64 t5, .int .i64 t6, .int .i64 t7, .int .i64 t8] := by rw [← hV2]; exact HF.out.alloc _
    have hC2 : Bx V2 s 65 [.int .i64 t0, .int .i64 t1, .int .i64 t2] := by rw [← hV2]; exact Bx.new (vs := [.int .i64 t0, .int .i64 t1, .int .i64 t2]) hs.symm
    have hg2 : Gr w V2 := by rw [← hV2]; exact HG.out.alloc _
    have ho2 : V2.ownsRow (w.heap.size + 1) 200 2 (.slice a3 zs.length cap3) zs.length (Ro.fl zs) := by rw [← hV2]; exact HO.out.alloc _
    have hs2 : w.heap.size + 1 ≤ V2.heap.size := by have := hF2.lt; omega
    have c0 := hF2.blk.cell 3 rfl; have d0 := hC2.blk.cell 0 rfl; have lF := hF2.lt; have lC := hC2.lt
    have HG2 := Lib.hid hg2; have HF2 := Lib.hid hF2; have HO2 := Lib.hid ho2
    clear hF2 hC2 hg2 ho2
    go_wp2_with fail
    clear hV2 hs
    refine wp_region_quiet_lit (by kernel_rfl) (by kernel_rfl) ?_
    repeat (go_big_quiet_step (fail))
    refine wpQuiet_nil ?_
    rintro _ ⟨n', rfl⟩
    have HG3 := Lib.hid (HG2.out.dn n'); have HF3 := Lib.hid (show Bx (V2.drewN n') w.heap.size 66 [.int .i64 t0, .int .i64 t1, .int .i64 t2, .int .i64 t3, .int .i64 t4, .int .i64 t5, .int .i64 t6, .int .i64 t7, .int .i64 t8] from HF2.out)
    have HO3 := Lib.hid (show (V2.drewN n').ownsRow (w.heap.size + 1) 200 2 (.slice a3 zs.length cap3) zs.length (Ro.fl zs) from HO2.out)
    have hs3 : w.heap.size + 1 ≤ (V2.drewN n').heap.size := hs2
    generalize V2.drewN n' = V3 at *
    clear c0 d0 lF lC HG2 HF2 HO2 hix hs2
    by_cases he : t0 = t3
    ·have he1 : (t0 == t3) = true := by simpa using he
     have HE := Lib.hid he
     clear he
     go_wp2_with fail
     go_roundw
     case rel => exact ⟨0 + 1, zs, by omega, by go_num, by omega, HZ.out, HO3.out, HF3.out, HG3.out⟩
     case measure => simp [intOf]
    ·have he1 : (t0 == t3) = false := by simpa using he
     have HE := Lib.hid he
     clear he
     have m1 : (if t3 < t0 then t3 else t0) = min t0 t3 := by split <;> omega
     have m2 : (if t0 < t3 then t3 else t0) = max t0 t3 := by split <;> omega
     have hM1 := I_min H0.out H3.out; have hM2 := I_max H0.out H3.out
     have HM1 := Lib.hid hM1; have HM2 := Lib.hid hM2
     clear hM1 hM2
     generalize min t0 t3 = lo at *
     generalize max t0 t3 = hi' at *
     go_wp2_with (first
      | (at_builtin; go_loud (refine wpList_append_own _ rfl (.tmp 24) (.tmp 32) 197 rfl (w.heap.size + 1) 200 i0 (.agg #[.int .i64 0, .int .i64 0]) 2 16 Tryz.underlying197 hi hz0 hz1 hz2 rfl (by decide) (.slice a3 zs.length cap3) zs.length (Ro.fl zs) (by rfl) (HO3.out.alloc _) ⟨V3.heap.size, 0, none⟩ 1 1 [.int .i64 lo, .int .i64 hi'] (by rfl) rfl (World.news_of_block (World.alloc_heap_new _ _)) ?c30 ?c40 ?c50 ?c60 ?_)))
     case c30 => intro u hu; simp at hu; rcases hu with rfl | rfl <;> rfl
     case c40 => unfold maxLen; omega
     case c50 => omega
     case c60 => simp; omega
     intro v' w1 hown1 hgrow _
     have hF4 : Bx w1 w.heap.size 66 [.int .i64 t0, .int .i64 t1, .int .i64 t2, .int .i64 t3, .int .i64 t4, .int .i64 t5, .int .i64 t6, .int .i64 t7, .int .i64 t8] := by
      have h5 := HF3.out.alloc (.cells #[.int .i64 lo, .int .i64 hi'] 200)
      exact (hgrow.block _ h5.lt (fun e => by have := (HO3.out.lt _ e.symm).1; omega)).trans h5
     have hg4 : Gr w w1 := Below.grown (HG3.out.alloc _) hgrow (HG3.out.alloc _).size (fun j hj => by have := (HO3.out.lt j hj).1; omega)
     have HO4 := Lib.hid hown1; have HF4 := Lib.hid hF4; have HG4 := Lib.hid hg4
     clear hown1 hgrow hF4 hg4 m1 m2
     go_wp2_with fail
     go_roundw
     case rel =>
      refine ⟨0 + 1, zs ++ [[lo, hi']], by omega, by go_num, by rw [List.length_append]; simp only [List.length_cons, List.length_nil]; omega, HZ.out.snoc HM1.out HM2.out, ?_, HF4.out, HG4.out⟩
      rw [List.length_append, Ro.fl_append]; exact HO4.out
     case measure => simp [intOf]
   ·have hix := fun w => ix_c w t0 t1 t2 t3 t4 t5 t6 t7 t8 1 (by omega)
    simp only [Nat.mul_zero, Nat.mul_one, Nat.reduceMul, Nat.reduceAdd, Nat.zero_add, List.getD_cons_zero, List.getD_cons_succ, Int.natCast_zero, Int.natCast_one, Int.ofNat_zero, Int.cast_ofNat_Int] at hix
    obtain ⟨V2, hV2⟩ : ∃ V2, wr.alloc (.cells #[.int .i64 t3, .int .i64 t4, .int .i64 t5] 65) = V2 := ⟨_, rfl⟩
    obtain ⟨s, hs⟩ : ∃ s, wr.heap.size = s := ⟨_, rfl⟩
    have hF2 : Bx V2 w.heap.size 66 [.int .i64 t0, .int .i64 t1, .int .i64 t2, .int .i64 t3, .int .i64 t4, .int .i64 t5, .int .i64 t6, .int .i64 t7, .int .i64 t8] := by rw [← hV2]; exact HF.out.alloc _
    have hC2 : Bx V2 s 65 [.int .i64 t3, .int .i64 t4, .int .i64 t5] := by rw [← hV2]; exact Bx.new (vs := [.int .i64 t3, .int .i64 t4, .int .i64 t5]) hs.symm
    have hg2 : Gr w V2 := by rw [← hV2]; exact HG.out.alloc _
    have ho2 : V2.ownsRow (w.heap.size + 1) 200 2 (.slice a3 zs.length cap3) zs.length (Ro.fl zs) := by rw [← hV2]; exact HO.out.alloc _
    have hs2 : w.heap.size + 1 ≤ V2.heap.size := by have := hF2.lt; omega
    have c0 := hF2.blk.cell 6 rfl; have d0 := hC2.blk.cell 0 rfl; have lF := hF2.lt; have lC := hC2.lt
    have HG2 := Lib.hid hg2; have HF2 := Lib.hid hF2; have HO2 := Lib.hid ho2
    clear hF2 hC2 hg2 ho2
    go_wp2_with fail
    clear hV2 hs
    refine wp_region_quiet_lit (by kernel_rfl) (by kernel_rfl) ?_
    repeat (go_big_quiet_step (fail))
    refine wpQuiet_nil ?_
    rintro _ ⟨n', rfl⟩
    have HG3 := Lib.hid (HG2.out.dn n'); have HF3 := Lib.hid (show Bx (V2.drewN n') w.heap.size 66 [.int .i64 t0, .int .i64 t1, .int .i64 t2, .int .i64 t3, .int .i64 t4, .int .i64 t5, .int .i64 t6, .int .i64 t7, .int .i64 t8] from HF2.out)
    have HO3 := Lib.hid (show (V2.drewN n').ownsRow (w.heap.size + 1) 200 2 (.slice a3 zs.length cap3) zs.length (Ro.fl zs) from HO2.out)
    have hs3 : w.heap.size + 1 ≤ (V2.drewN n').heap.size := hs2
    generalize V2.drewN n' = V3 at *
    clear c0 d0 lF lC HG2 HF2 HO2 hix hs2
    by_cases he : t3 = t6
    ·have he1 : (t3 == t6) = true := by simpa using he
     have HE := Lib.hid he
     clear he
     go_wp2_with fail
     go_roundw
     case rel => exact ⟨1 + 1, zs, by omega, by go_num, by omega, HZ.out, HO3.out, HF3.out, HG3.out⟩
     case measure => simp [intOf]
    ·have he1 : (t3 == t6) = false := by simpa using he
     have HE := Lib.hid he
     clear he
     have m1 : (if t6 < t3 then t6 else t3) = min t3 t6 := by split <;> omega
     have m2 : (if t3 < t6 then t6 else t3) = max t3 t6 := by split <;> omega
     have hM1 := I_min H3.out H6.out; have hM2 := I_max H3.out H6.out
     have HM1 := Lib.hid hM1; have HM2 := Lib.hid hM2
     clear hM1 hM2
     generalize min t3 t6 = lo at *
     generalize max t3 t6 = hi' at *
     go_wp2_with (first
      | (at_builtin; go_loud (refine wpList_append_own _ rfl (.tmp 24) (.tmp 32) 197 rfl (w.heap.size + 1) 200 i0 (.agg #[.int .i64 0, .int .i64 0]) 2 16 Tryz.underlying197 hi hz0 hz1 hz2 rfl (by decide) (.slice a3 zs.length cap3) zs.length (Ro.fl zs) (by rfl) (HO3.out.alloc _) ⟨V3.heap.size, 0, none⟩ 1 1 [.int .i64 lo, .int .i64 hi'] (by rfl) rfl (World.news_of_block (World.alloc_heap_new _ _)) ?c31 ?c41 ?c51 ?c61 ?_)))
     case c31 => intro u hu; simp at hu; rcases hu with rfl | rfl <;> rfl
     case c41 => unfold maxLen; omega
     case c51 => omega
     case c61 => simp; omega
     intro v' w1 hown1 hgrow _
     have hF4 : Bx w1 w.heap.size 66 [.int .i64 t0, .int .i64 t1, .int .i64 t2, .int .i64 t3, .int .i64 t4, .int .i64 t5, .int .i64 t6, .int .i64 t7, .int .i64 t8] := by
      have h5 := HF3.out.alloc (.cells #[.int .i64 lo, .int .i64 hi'] 200)
      exact (hgrow.block _ h5.lt (fun e => by have := (HO3.out.lt _ e.symm).1; omega)).trans h5
     have hg4 : Gr w w1 := Below.grown (HG3.out.alloc _) hgrow (HG3.out.alloc _).size (fun j hj => by have := (HO3.out.lt j hj).1; omega)
     have HO4 := Lib.hid hown1; have HF4 := Lib.hid hF4; have HG4 := Lib.hid hg4
     clear hown1 hgrow hF4 hg4 m1 m2
     go_wp2_with fail
     go_roundw
     case rel =>
      refine ⟨1 + 1, zs ++ [[lo, hi']], by omega, by go_num, by rw [List.length_append]; simp only [List.length_cons, List.length_nil]; omega, HZ.out.snoc HM1.out HM2.out, ?_, HF4.out, HG4.out⟩
      rw [List.length_append, Ro.fl_append]; exact HO4.out
     case measure => simp [intOf]
   ·have hix := fun w => ix_c w t0 t1 t2 t3 t4 t5 t6 t7 t8 2 (by omega)
    simp only [Nat.mul_zero, Nat.mul_one, Nat.reduceMul, Nat.reduceAdd, Nat.zero_add, List.getD_cons_zero, List.getD_cons_succ, Int.natCast_zero, Int.natCast_one, Int.ofNat_zero, Int.cast_ofNat_Int] at hix
    obtain ⟨V2, hV2⟩ : ∃ V2, wr.alloc (.cells #[.int .i64 t6, .int .i64 t7, .int .i64 t8] 65) = V2 := ⟨_, rfl⟩
    obtain ⟨s, hs⟩ : ∃ s, wr.heap.size = s := ⟨_, rfl⟩
    have hF2 : Bx V2 w.heap.size 66 [.int .i64 t0, .int .i64 t1, .int .i64 t2, .int .i64 t3, .int .i64 t4, .int .i64 t5, .int .i64 t6, .int .i64 t7, .int .i64 t8] := by rw [← hV2]; exact HF.out.alloc _
    have hC2 : Bx V2 s 65 [.int .i64 t6, .int .i64 t7, .int .i64 t8] := by rw [← hV2]; exact Bx.new (vs := [.int .i64 t6, .int .i64 t7, .int .i64 t8]) hs.symm
    have hg2 : Gr w V2 := by rw [← hV2]; exact HG.out.alloc _
    have ho2 : V2.ownsRow (w.heap.size + 1) 200 2 (.slice a3 zs.length cap3) zs.length (Ro.fl zs) := by rw [← hV2]; exact HO.out.alloc _
    have hs2 : w.heap.size + 1 ≤ V2.heap.size := by have := hF2.lt; omega
    have c0 := hF2.blk.cell 0 rfl; have d0 := hC2.blk.cell 0 rfl; have lF := hF2.lt; have lC := hC2.lt
    have HG2 := Lib.hid hg2; have HF2 := Lib.hid hF2; have HO2 := Lib.hid ho2
    clear hF2 hC2 hg2 ho2
    go_wp2_with fail
    clear hV2 hs
    refine wp_region_quiet_lit (by kernel_rfl) (by kernel_rfl) ?_
    repeat (go_big_quiet_step (fail))
    refine wpQuiet_nil ?_
    rintro _ ⟨n', rfl⟩
    have HG3 := Lib.hid (HG2.out.dn n'); have HF3 := Lib.hid (show Bx (V2.drewN n') w.heap.size 66 [.int .i64 t0, .int .i64 t1, .int .i64 t2, .int .i64 t3, .int .i64 t4, .int .i64 t5, .int .i64 t6, .int .i64 t7, .int .i64 t8] from HF2.out)
    have HO3 := Lib.hid (show (V2.drewN n').ownsRow (w.heap.size + 1) 200 2 (.slice a3 zs.length cap3) zs.length (Ro.fl zs) from HO2.out)
    have hs3 : w.heap.size + 1 ≤ (V2.drewN n').heap.size := hs2
    generalize V2.drewN n' = V3 at *
    clear c0 d0 lF lC HG2 HF2 HO2 hix hs2
    by_cases he : t6 = t0
    ·have he1 : (t6 == t0) = true := by simpa using he
     have HE := Lib.hid he
     clear he
     go_wp2_with fail
     go_roundw
     case rel => exact ⟨2 + 1, zs, by omega, by go_num, by omega, HZ.out, HO3.out, HF3.out, HG3.out⟩
     case measure => simp [intOf]
    ·have he1 : (t6 == t0) = false := by simpa using he
     have HE := Lib.hid he
     clear he
     have m1 : (if t0 < t6 then t0 else t6) = min t6 t0 := by split <;> omega
     have m2 : (if t6 < t0 then t0 else t6) = max t6 t0 := by split <;> omega
     have hM1 := I_min H6.out H0.out; have hM2 := I_max H6.out H0.out
     have HM1 := Lib.hid hM1; have HM2 := Lib.hid hM2
     clear hM1 hM2
     generalize min t6 t0 = lo at *
     generalize max t6 t0 = hi' at *
     go_wp2_with (first
      | (at_builtin; go_loud (refine wpList_append_own _ rfl (.tmp 24) (.tmp 32) 197 rfl (w.heap.size + 1) 200 i0 (.agg #[.int .i64 0, .int .i64 0]) 2 16 Tryz.underlying197 hi hz0 hz1 hz2 rfl (by decide) (.slice a3 zs.length cap3) zs.length (Ro.fl zs) (by rfl) (HO3.out.alloc _) ⟨V3.heap.size, 0, none⟩ 1 1 [.int .i64 lo, .int .i64 hi'] (by rfl) rfl (World.news_of_block (World.alloc_heap_new _ _)) ?c32 ?c42 ?c52 ?c62 ?_)))
     case c32 => intro u hu; simp at hu; rcases hu with rfl | rfl <;> rfl
     case c42 => unfold maxLen; omega
     case c52 => omega
     case c62 => simp; omega
     intro v' w1 hown1 hgrow _
     have hF4 : Bx w1 w.heap.size 66 [.int .i64 t0, .int .i64 t1, .int .i64 t2, .int .i64 t3, .int .i64 t4, .int .i64 t5, .int .i64 t6, .int .i64 t7, .int .i64 t8] := by
      have h5 := HF3.out.alloc (.cells #[.int .i64 lo, .int .i64 hi'] 200)
      exact (hgrow.block _ h5.lt (fun e => by have := (HO3.out.lt _ e.symm).1; omega)).trans h5
     have hg4 : Gr w w1 := Below.grown (HG3.out.alloc _) hgrow (HG3.out.alloc _).size (fun j hj => by have := (HO3.out.lt j hj).1; omega)
     have HO4 := Lib.hid hown1; have HF4 := Lib.hid hF4; have HG4 := Lib.hid hg4
     clear hown1 hgrow hF4 hg4 m1 m2
     go_wp2_with fail
     go_roundw
     case rel =>
      refine ⟨2 + 1, zs ++ [[lo, hi']], by omega, by go_num, by rw [List.length_append]; simp only [List.length_cons, List.length_nil]; omega, HZ.out.snoc HM1.out HM2.out, ?_, HF4.out, HG4.out⟩
      rw [List.length_append, Ro.fl_append]; exact HO4.out
     case measure => simp [intOf]
  ·have hk3 : k = 3 := by omega
   subst hk3
   obtain ⟨a, cap, e, hrow, _, _⟩ := Ro.rows_owned HO.out (by omega) HZ.out
   cases e
   have HR := Lib.hid hrow
   have HB := Lib.hid (show ∀ ad : Addr, a3 = some ad → w.heap.size ≤ ad.block from fun ad e => by subst e; have := own_base HO.out ad.block rfl; omega)
   clear hrow
   go_wp2_with fail
   go_ret
   exact ⟨_, _, zs, rfl, HR.out, by omega, HB.out, HG.out⟩
end Mt
end Go.Proofs.YtlfoglklibhbnaaGreat
