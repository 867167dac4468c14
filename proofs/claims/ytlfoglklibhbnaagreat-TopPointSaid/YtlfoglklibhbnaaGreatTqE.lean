/- Parts of the proof of TopPoint. No condition of their own. -/
import Derived.Test.YtlfoglklibhbnaaGreatTqD
import Derived.BigRegion
import Derived.Maps.OwnOps
import Derived.Maps.Views
import Derived.Laws.Cover1
import Derived.Deep.MidRow
set_option linter.unusedVariables false
set_option linter.unusedSimpArgs false
namespace Go.Proofs.YtlfoglklibhbnaaGreat
open Go.RowKit
namespace Mt
attribute [local go_sem ↓] Go.wp_at_zero Go.wp_at_succ
def idxL (n : Nat) : List Int := (List.range n).map Int.ofNat
def CmpP (w0 : World) (pv : Value) (n : Nat) : Prop := ∀ x y : Nat, x < n → y < n → ∀ w1, Gr w0 w1 → Calls Tryz.prog 75 #[pv, .int .i64 x, .int .i64 y] w1 fun e w2 => ∃ c : Int, e = .returned (.int .i64 c) ∧ Gr w1 w2
def swp (zs : List Int) (j : Nat) : List Int := (zs.set (j + 1) (zs.getD j 0)).set j (zs.getD (j + 1) 0)
theorem swp_perm : ∀ (zs : List Int) (j : Nat), j + 1 < zs.length → (swp zs j).Perm zs
 | [], j, h => by simp at h
 | [x], j, h => by simp at h
 | x :: y :: l, 0, _ => by
  show (y :: x :: l).Perm (x :: y :: l)
  exact List.Perm.swap x y l
 | x :: l, j + 1, h => by
  have e : swp (x :: l) (j + 1) = x :: swp l j := by simp [swp]
  rw [e]
  exact (swp_perm l j (by simpa using h)).cons x
theorem perm_nat {zs : List Int} {n : Nat} (h : zs.Perm (idxL n)) {i : Nat} (hi : i < n) : ∃ x : Nat, zs.getD i 0 = x ∧ x < n := by
 have hl : zs.length = n := by rw [h.length_eq]; simp [idxL]
 have hm : zs.getD i 0 ∈ zs := getD_mem' (by omega)
 have := h.mem_iff.1 hm
 unfold idxL at this
 rw [List.mem_map] at this
 obtain ⟨x, hx, e⟩ := this
 exact ⟨x, e.symm, List.mem_range.1 hx⟩
set_option maxHeartbeats 8000000 in
set_option maxRecDepth 100000 in
theorem ins_any (pv : Value) (w0 : World) (g n cap : Nat) (zs : List Int) (w : World) (hn : n ≤ 12) (hc : CmpP w0 pv n) (hz : zs.Perm (idxL n)) (hb : Bx w g 3 (zs.map (Value.int .i64))) (h0 : Gr w0 w) (hg : w0.heap.size ≤ g) :
  Calls Tryz.prog 121 #[.slice (some ⟨g, 0, none⟩) n cap, .int .i64 0, .int .i64 n, .func (.func 75) #[pv] #[]] w fun e w' => e = .returned (.tuple #[]) ∧ ∃ zs' : List Int, zs'.Perm (idxL n) ∧ Bx w' g 3 (zs'.map (Value.int .i64)) ∧ Gr w0 w' := by
 have HC := Lib.hid hc; have HZ := Lib.hid hz; have HB := Lib.hid hb; have HG := Lib.hid h0
 clear hc hz hb h0
 go_enter Tryz.func121, Tryz.ntmps121
 go_wp2_with fail
 go_loopw [8] (fun v8 wr => ∃ i : Nat, 1 ≤ i ∧ v8 = .int .i64 i ∧ (∃ zs' : List Int, zs'.Perm (idxL n) ∧ Bx wr g 3 (zs'.map (Value.int .i64))) ∧ Gr w0 wr) (fun v8 _ => n - (intOf v8).toNat)
 case atStart => exact ⟨1, by omega, rfl, ⟨zs, HZ.out, HB.out⟩, HG.out⟩
 case round =>
  clear HZ HB HG
  obtain ⟨i, hi, rfl, ⟨zs', hz, hb⟩, hg0⟩ := hrel
  have HZ := Lib.hid hz; have HB := Lib.hid hb; have HG := Lib.hid hg0
  clear hz hb hg0
  by_cases hlt : i < n
  ·have hi0 : (0 : Int) ≤ (i : Int) := by omega
   go_wp2_with fail
   go_loopw [9] (fun v9 wx => ∃ j : Nat, j ≤ i ∧ v9 = .int .i64 j ∧ (∃ zs' : List Int, zs'.Perm (idxL n) ∧ Bx wx g 3 (zs'.map (Value.int .i64))) ∧ Gr w0 wx) (fun v9 _ => (intOf v9).toNat)
   case atStart => exact ⟨i, Nat.le_refl _, rfl, ⟨zs', HZ.out, HB.out⟩, HG.out⟩
   case round =>
    clear HZ HB HG
    obtain ⟨j, hj, rfl, ⟨zs', hz, hb⟩, hg0⟩ := hrel
    have HZ := Lib.hid hz; have HB := Lib.hid hb; have HG := Lib.hid hg0
    clear hz hb hg0
    cases j with
    | zero =>
     go_wp2_with fail
     refine wp_region_held_drew (S := fun _ => True) (by kernel_rfl) trivial (fun hH => ?_)
     refine' wpAnyH_take (i := 0) (v := _) rfl (by kernel_rfl) (by kernel_rfl) (by kernel_rfl) (fun _ _ _ h => h) (Or.inl ⟨by rfl, ?thy1_0⟩) (by assumption) ?_
     case thy1_0 => (intro w hSw; (try dsimp only at hSw); go_simp; try with_reducible rfl)
     try simp only [Act.put, List.setIfInBounds_toArray, List.set_cons_zero, List.set_cons_succ, List.getElem_toArray, List.getElem_cons_zero]
     refine' wpAnyH_take (i := 1) (v := _) rfl (by kernel_rfl) (by kernel_rfl) (by kernel_rfl) (fun _ _ _ h => h) (Or.inl ⟨by rfl, ?thy1_1⟩) (by assumption) ?_
     case thy1_1 => (intro w hSw; (try dsimp only at hSw); go_simp; try with_reducible rfl)
     try simp only [Act.put, List.setIfInBounds_toArray, List.set_cons_zero, List.set_cons_succ, List.getElem_toArray, List.getElem_cons_succ, List.getElem_cons_zero]
     refine' wpAnyH_take (i := 2) (v := _) rfl (by kernel_rfl) (by kernel_rfl) (by kernel_rfl) (fun _ _ _ h => h) (Or.inl ⟨by rfl, ?thy1_2⟩) (by assumption) ?_
     case thy1_2 => (intro w hSw; (try dsimp only at hSw); go_simp; try with_reducible rfl)
     try simp only [Act.put, List.setIfInBounds_toArray, List.set_cons_zero, List.set_cons_succ, List.getElem_toArray, List.getElem_cons_succ, List.getElem_cons_zero]
     refine' wpAnyH_take (i := 3) (v := _) rfl (by kernel_rfl) (by kernel_rfl) (by kernel_rfl) (fun _ _ _ h => h) (Or.inl ⟨by rfl, ?thy1_3⟩) (by assumption) ?_
     case thy1_3 => (intro w hSw; (try dsimp only at hSw); go_simp; try with_reducible rfl)
     try simp only [Act.put, List.setIfInBounds_toArray, List.set_cons_zero, List.set_cons_succ, List.getElem_toArray, List.getElem_cons_succ, List.getElem_cons_zero]
     refine wpAnyH_take (i := 4) (v := undef) rfl (by kernel_rfl) (by kernel_rfl) (by kernel_rfl) (fun _ _ _ h => h) (Or.inr ⟨by rfl, rfl⟩) (by assumption) ?_
     try simp only [Act.put, List.setIfInBounds_toArray, List.set_cons_zero, List.set_cons_succ, List.getElem_toArray, List.getElem_cons_succ, List.getElem_cons_zero]
     refine wpAnyH_take (i := 5) (v := undef) rfl (by kernel_rfl) (by kernel_rfl) (by kernel_rfl) (fun _ _ _ h => h) (Or.inr ⟨by rfl, rfl⟩) (by assumption) ?_
     try simp only [Act.put, List.setIfInBounds_toArray, List.set_cons_zero, List.set_cons_succ, List.getElem_toArray, List.getElem_cons_succ, List.getElem_cons_zero]
     refine wpAnyH_take (i := 6) (v := undef) rfl (by kernel_rfl) (by kernel_rfl) (by kernel_rfl) (fun _ _ _ h => h) (Or.inr ⟨by rfl, rfl⟩) (by assumption) ?_
     try simp only [Act.put, List.setIfInBounds_toArray, List.set_cons_zero, List.set_cons_succ, List.getElem_toArray, List.getElem_cons_succ, List.getElem_cons_zero]
     refine wpAnyH_take (i := 7) (v := undef) rfl (by kernel_rfl) (by kernel_rfl) (by kernel_rfl) (fun _ _ _ h => h) (Or.inr ⟨by rfl, rfl⟩) (by assumption) ?_
     try simp only [Act.put, List.setIfInBounds_toArray, List.set_cons_zero, List.set_cons_succ, List.getElem_toArray, List.getElem_cons_succ, List.getElem_cons_zero]
     refine wpAnyH_take (i := 8) (v := undef) rfl (by kernel_rfl) (by kernel_rfl) (by kernel_rfl) (fun _ _ _ h => h) (Or.inr ⟨by rfl, rfl⟩) (by assumption) ?_
     try simp only [Act.put, List.setIfInBounds_toArray, List.set_cons_zero, List.set_cons_succ, List.getElem_toArray, List.getElem_cons_succ, List.getElem_cons_zero]
     refine wpAnyH_take (i := 9) (v := undef) rfl (by kernel_rfl) (by kernel_rfl) (by kernel_rfl) (fun _ _ _ h => h) (Or.inr ⟨by rfl, rfl⟩) (by assumption) ?_
     try simp only [Act.put, List.setIfInBounds_toArray, List.set_cons_zero, List.set_cons_succ, List.getElem_toArray, List.getElem_cons_succ, List.getElem_cons_zero]
     refine wpAnyH_take (i := 10) (v := undef) rfl (by kernel_rfl) (by kernel_rfl) (by kernel_rfl) (fun _ _ _ h => h) (Or.inr ⟨by rfl, rfl⟩) (by assumption) ?_
     try simp only [Act.put, List.setIfInBounds_toArray, List.set_cons_zero, List.set_cons_succ, List.getElem_toArray, List.getElem_cons_succ, List.getElem_cons_zero]
     refine wpAnyH_take (i := 11) (v := undef) rfl (by kernel_rfl) (by kernel_rfl) (by kernel_rfl) (fun _ _ _ h => h) (Or.inr ⟨by rfl, rfl⟩) (by assumption) ?_
     try simp only [Act.put, List.setIfInBounds_toArray, List.set_cons_zero, List.set_cons_succ, List.getElem_toArray, List.getElem_cons_succ, List.getElem_cons_zero]
     refine wpAnyH_take (i := 12) (v := undef) rfl (by kernel_rfl) (by kernel_rfl) (by kernel_rfl) (fun _ _ _ h => h) (Or.inr ⟨by rfl, rfl⟩) (by assumption) ?_
     try simp only [Act.put, List.setIfInBounds_toArray, List.set_cons_zero, List.set_cons_succ, List.getElem_toArray, List.getElem_cons_succ, List.getElem_cons_zero]
     refine wpAnyH_take (i := 13) (v := undef) rfl (by kernel_rfl) (by kernel_rfl) (by kernel_rfl) (fun _ _ _ h => h) (Or.inr ⟨by rfl, rfl⟩) (by assumption) ?_
     try simp only [Act.put, List.setIfInBounds_toArray, List.set_cons_zero, List.set_cons_succ, List.getElem_toArray, List.getElem_cons_succ, List.getElem_cons_zero]
     refine wpAnyH_take (i := 14) (v := undef) rfl (by kernel_rfl) (by kernel_rfl) (by kernel_rfl) (fun _ _ _ h => h) (Or.inr ⟨by rfl, rfl⟩) (by assumption) ?_
     try simp only [Act.put, List.setIfInBounds_toArray, List.set_cons_zero, List.set_cons_succ, List.getElem_toArray, List.getElem_cons_succ, List.getElem_cons_zero]
     refine wpAnyH_take (i := 15) (v := undef) rfl (by kernel_rfl) (by kernel_rfl) (by kernel_rfl) (fun _ _ _ h => h) (Or.inr ⟨by rfl, rfl⟩) (by assumption) ?_
     try simp only [Act.put, List.setIfInBounds_toArray, List.set_cons_zero, List.set_cons_succ, List.getElem_toArray, List.getElem_cons_succ, List.getElem_cons_zero]
     refine' wpAnyH_take (i := 16) (v := _) rfl (by kernel_rfl) (by kernel_rfl) (by kernel_rfl) (fun _ _ _ h => h) (Or.inl ⟨by rfl, ?thy1_4⟩) (by assumption) ?_
     case thy1_4 => (intro w hSw; (try dsimp only at hSw); go_simp; try with_reducible rfl)
     try simp only [Act.put, List.setIfInBounds_toArray, List.set_cons_zero, List.set_cons_succ, List.getElem_toArray, List.getElem_cons_succ, List.getElem_cons_zero]
     refine wpAnyH_done (by kernel_rfl) ?_ _
     go_wp2_with fail
     go_roundw
     case rel => exact ⟨i + 1, by omega, by go_num, ⟨zs', HZ.out, bx_drew HB.out⟩, HG.out.drew⟩
     case measure => simp [intOf]; omega
    | succ j =>
     obtain ⟨x, ex, hx⟩ := perm_nat HZ.out (show j + 1 < n by omega)
     obtain ⟨y, ey, hy⟩ := perm_nat HZ.out (show j < n by omega)
     have hl : zs'.length = n := by rw [HZ.out.length_eq]; simp [idxL]
     have c1 : wr.cell? ⟨g, j + 1, none⟩ = some (.int .i64 x) := HB.out.blk.cell (j + 1) (by rw [List.getElem?_map, ← ex, List.getD_eq_getElem?_getD, List.getElem?_eq_getElem (by omega)]; rfl)
     have c0 : wr.cell? ⟨g, j, none⟩ = some (.int .i64 y) := HB.out.blk.cell j (by rw [List.getElem?_map, ← ey, List.getD_eq_getElem?_getD, List.getElem?_eq_getElem (by omega)]; rfl)
     have HCC := Lib.hid (HC.out x y hx hy)
     have lg := HB.out.lt
     have hj0 : (0 : Int) ≤ (j : Int) := by omega
     have hj1 : (0 : Int) ≤ (j : Int) + 1 := by omega
     have hj2 : (j : Int) + 1 < (n : Int) := by omega
     have hj3 : (j : Int) < (n : Int) := by omega
     have hwp : IntKind.i64.wrap (j : Int) = (j : Int) := by rw [IntKind.wrap_i64]; omega
     go_wp2_with fail
     refine wp_region_held_drew (S := fun w' => w'.cell? ⟨g, j + 1, none⟩ = some (.int .i64 x) ∧ w'.cell? ⟨g, j, none⟩ = some (.int .i64 y)) (by kernel_rfl) ⟨c1, c0⟩ (fun hH => ?_)
     refine' wpAnyH_take (i := 0) (v := _) rfl (by kernel_rfl) (by kernel_rfl) (by kernel_rfl) (fun _ _ _ h => h) (Or.inl ⟨by rfl, ?thy2_0⟩) (by assumption) ?_
     case thy2_0 => (intro w hSw; (try dsimp only at hSw); go_simp; try with_reducible rfl)
     try simp only [Act.put, List.setIfInBounds_toArray, List.set_cons_zero, List.set_cons_succ, List.getElem_toArray, List.getElem_cons_zero]
     refine' wpAnyH_take (i := 1) (v := _) rfl (by kernel_rfl) (by kernel_rfl) (by kernel_rfl) (fun _ _ _ h => h) (Or.inl ⟨by rfl, ?thy2_1⟩) (by assumption) ?_
     case thy2_1 => (intro w hSw; (try dsimp only at hSw); go_simp; try with_reducible rfl)
     try simp only [Act.put, List.setIfInBounds_toArray, List.set_cons_zero, List.set_cons_succ, List.getElem_toArray, List.getElem_cons_succ, List.getElem_cons_zero]
     refine' wpAnyH_take (i := 2) (v := _) rfl (by kernel_rfl) (by kernel_rfl) (by kernel_rfl) (fun _ _ _ h => h) (Or.inl ⟨by rfl, ?thy2_2⟩) (by assumption) ?_
     case thy2_2 => (intro w hSw; (try dsimp only at hSw); go_simp; try with_reducible rfl)
     try simp only [Act.put, List.setIfInBounds_toArray, List.set_cons_zero, List.set_cons_succ, List.getElem_toArray, List.getElem_cons_succ, List.getElem_cons_zero]
     refine' wpAnyH_take (i := 3) (v := _) rfl (by kernel_rfl) (by kernel_rfl) (by kernel_rfl) (fun _ _ _ h => h) (Or.inl ⟨by rfl, ?thy2_3⟩) (by assumption) ?_
     case thy2_3 => (intro w hSw; (try dsimp only at hSw); go_simp; try with_reducible rfl)
     try simp only [Act.put, List.setIfInBounds_toArray, List.set_cons_zero, List.set_cons_succ, List.getElem_toArray, List.getElem_cons_succ, List.getElem_cons_zero]
     refine' wpAnyH_take (i := 4) (v := _) rfl (by kernel_rfl) (by kernel_rfl) (by kernel_rfl) (fun _ _ _ h => h) (Or.inl ⟨by rfl, ?thy2_4⟩) (by assumption) ?_
     case thy2_4 => (intro w hSw; (try dsimp only at hSw); go_simp; try with_reducible rfl)
     try simp only [Act.put, List.setIfInBounds_toArray, List.set_cons_zero, List.set_cons_succ, List.getElem_toArray, List.getElem_cons_succ, List.getElem_cons_zero]
     refine' wpAnyH_take (i := 5) (v := _) rfl (by kernel_rfl) (by kernel_rfl) (by kernel_rfl) (fun _ _ _ h => h) (Or.inl ⟨by rfl, ?thy2_5⟩) (by assumption) ?_
     case thy2_5 => (intro w hSw; (try dsimp only at hSw); go_simp; try with_reducible rfl)
     try simp only [Act.put, List.setIfInBounds_toArray, List.set_cons_zero, List.set_cons_succ, List.getElem_toArray, List.getElem_cons_succ, List.getElem_cons_zero]
     refine' wpAnyH_take (i := 6) (v := _) rfl (by kernel_rfl) (by kernel_rfl) (by kernel_rfl) (fun _ _ _ h => h) (Or.inl ⟨by rfl, ?thy2_6⟩) (by assumption) ?_
     case thy2_6 => (intro w hSw; (try dsimp only at hSw); go_simp; try with_reducible rfl)
     try simp only [Act.put, List.setIfInBounds_toArray, List.set_cons_zero, List.set_cons_succ, List.getElem_toArray, List.getElem_cons_succ, List.getElem_cons_zero]
     refine' wpAnyH_take (i := 7) (v := _) rfl (by kernel_rfl) (by kernel_rfl) (by kernel_rfl) (fun _ _ _ h => h) (Or.inl ⟨by rfl, ?thy2_7⟩) (by assumption) ?_
     case thy2_7 => (intro w hSw; (try dsimp only at hSw); go_simp; try with_reducible rfl)
     try simp only [Act.put, List.setIfInBounds_toArray, List.set_cons_zero, List.set_cons_succ, List.getElem_toArray, List.getElem_cons_succ, List.getElem_cons_zero]
     refine' wpAnyH_take (i := 8) (v := _) rfl (by kernel_rfl) (by kernel_rfl) (by kernel_rfl) (fun _ _ _ h => h) (Or.inl ⟨by rfl, ?thy2_8⟩) (by assumption) ?_
     case thy2_8 => (intro w hSw; (try dsimp only at hSw); go_simp; try with_reducible rfl)
     try simp only [Act.put, List.setIfInBounds_toArray, List.set_cons_zero, List.set_cons_succ, List.getElem_toArray, List.getElem_cons_succ, List.getElem_cons_zero]
     refine' wpAnyH_take (i := 9) (v := _) rfl (by kernel_rfl) (by kernel_rfl) (by kernel_rfl) (fun _ _ _ h => h) (Or.inl ⟨by rfl, ?thy2_9⟩) (by assumption) ?_
     case thy2_9 => (intro w hSw; (try dsimp only at hSw); go_simp; try with_reducible rfl)
     try simp only [Act.put, List.setIfInBounds_toArray, List.set_cons_zero, List.set_cons_succ, List.getElem_toArray, List.getElem_cons_succ, List.getElem_cons_zero]
     refine' wpAnyH_take (i := 10) (v := _) rfl (by kernel_rfl) (by kernel_rfl) (by kernel_rfl) (fun _ _ _ h => h) (Or.inl ⟨by rfl, ?thy2_10⟩) (by assumption) ?_
     case thy2_10 => (intro w hSw; (try dsimp only at hSw); go_simp; try with_reducible rfl)
     try simp only [Act.put, List.setIfInBounds_toArray, List.set_cons_zero, List.set_cons_succ, List.getElem_toArray, List.getElem_cons_succ, List.getElem_cons_zero]
     refine' wpAnyH_take (i := 11) (v := _) rfl (by kernel_rfl) (by kernel_rfl) (by kernel_rfl) (fun _ _ _ h => h) (Or.inl ⟨by rfl, ?thy2_11⟩) (by assumption) ?_
     case thy2_11 => (intro w hSw; (try dsimp only at hSw); go_simp; try with_reducible rfl)
     try simp only [Act.put, List.setIfInBounds_toArray, List.set_cons_zero, List.set_cons_succ, List.getElem_toArray, List.getElem_cons_succ, List.getElem_cons_zero]
     refine' wpAnyH_take (i := 12) (v := _) rfl (by kernel_rfl) (by kernel_rfl) (by kernel_rfl) (fun _ _ _ h => h) (Or.inl ⟨by rfl, ?thy2_12⟩) (by assumption) ?_
     case thy2_12 => (intro w hSw; (try dsimp only at hSw); go_simp; try with_reducible rfl)
     try simp only [Act.put, List.setIfInBounds_toArray, List.set_cons_zero, List.set_cons_succ, List.getElem_toArray, List.getElem_cons_succ, List.getElem_cons_zero]
     refine' wpAnyH_take (i := 13) (v := _) rfl (by kernel_rfl) (by kernel_rfl) (by kernel_rfl) (fun _ _ _ h => h) (Or.inl ⟨by rfl, ?thy2_13⟩) (by assumption) ?_
     case thy2_13 => (intro w hSw; (try dsimp only at hSw); go_simp; try with_reducible rfl)
     try simp only [Act.put, List.setIfInBounds_toArray, List.set_cons_zero, List.set_cons_succ, List.getElem_toArray, List.getElem_cons_succ, List.getElem_cons_zero]
     refine wpAnyH_ready (rs := [14]) (by kernel_rfl) (by simp) ?_
     refine AllReadyH.cons rfl (fun K hK => ?_) AllReadyH.nil
     go_simp
     go_at_call 75
     refine (HCC.out _ HG.out.drew).mono ?_
     rintro e x1 ⟨c, rfl, hgx⟩
     have HB1 := Lib.hid ((bx_drew HB.out).gr hgx); have HG1 := Lib.hid (HG.out.drew.trans hgx)
     have k1 := (hgx.cell (p := ⟨g, j + 1, none⟩) lg).trans c1; have k0 := (hgx.cell (p := ⟨g, j, none⟩) lg).trans c0
     clear hgx
     go_wp2_with fail
     refine hK.out _ _ ?_ (fun hN => ?_)
     ·exact ⟨k1, k0⟩
     clear hK K hH k1 k0
     have hH := hN; clear hN
     try simp only [Act.put, List.setIfInBounds_toArray, List.set_cons_zero, List.set_cons_succ, List.getElem_toArray, List.getElem_cons_succ, List.getElem_cons_zero]
     refine' wpAnyH_take (i := 15) (v := _) rfl (by kernel_rfl) (by kernel_rfl) (by kernel_rfl) (fun _ _ _ h => h) (Or.inl ⟨by rfl, ?thy2_14⟩) (by assumption) ?_
     case thy2_14 => (intro w hSw; (try dsimp only at hSw); go_simp; try with_reducible rfl)
     try simp only [Act.put, List.setIfInBounds_toArray, List.set_cons_zero, List.set_cons_succ, List.getElem_toArray, List.getElem_cons_succ, List.getElem_cons_zero]
     refine' wpAnyH_take (i := 16) (v := _) rfl (by kernel_rfl) (by kernel_rfl) (by kernel_rfl) (fun _ _ _ h => h) (Or.inl ⟨by rfl, ?thy2_15⟩) (by assumption) ?_
     case thy2_15 => (intro w hSw; (try dsimp only at hSw); go_simp; try with_reducible rfl)
     try simp only [Act.put, List.setIfInBounds_toArray, List.set_cons_zero, List.set_cons_succ, List.getElem_toArray, List.getElem_cons_succ, List.getElem_cons_zero]
     refine wpAnyH_done (by kernel_rfl) ?_ _
     by_cases hcc : c < 0
     ·clear hH
      have c1 := HB1.out.blk.cell (j + 1) (by rw [List.getElem?_map, List.getElem?_eq_getElem (by omega)]; rfl)
      have c0 := HB1.out.blk.cell j (by rw [List.getElem?_map, List.getElem?_eq_getElem (by omega)]; rfl)
      have f1 := HB1.out.blk.free (j + 1) (by rw [List.getElem?_map, List.getElem?_eq_getElem (by omega)]; rfl)
      have f0 := HB1.out.blk.free j (by rw [List.getElem?_map, List.getElem?_eq_getElem (by omega)]; rfl)
      have lg1 := HB1.out.lt
      go_wp2_with fail
      go_big_region
      all_goals go_wp2_with fail
      refine ⟨⟨j, by omega, rfl, ⟨swp zs' j, (swp_perm zs' j (by omega)).trans HZ.out, ?_⟩, ?_⟩, by simp [intOf]⟩
      ·have h1 := bx_drew (bx_seti (bx_seti HB1.out (j + 1) (.int .i64 (zs'.getD j 0))) j (.int .i64 (zs'.getD (j + 1) 0)))
       rw [← List.map_set, ← List.map_set] at h1
       have e0 : zs'.getD j 0 = zs'[j] := by rw [List.getD_eq_getElem?_getD, List.getElem?_eq_getElem (by omega)]; rfl
       have e1 : zs'.getD (j + 1) 0 = zs'[j + 1] := by rw [List.getD_eq_getElem?_getD, List.getElem?_eq_getElem (by omega)]; rfl
       unfold swp
       rw [e0, e1] at h1 ⊢
       exact h1
      ·exact ((HG1.out.setCell (by show w0.heap.size ≤ g; omega) _).setCell (by show w0.heap.size ≤ g; omega) _).drew
     ·have hcc' : 0 ≤ c := by omega
      clear hH
      go_wp2_with fail
      go_roundw
      case rel => exact ⟨i + 1, by omega, by go_num, ⟨zs', HZ.out, HB1.out⟩, HG1.out⟩
      case measure => simp [intOf]; omega
  ·go_wp2_with fail
   exact bodyPost_end (results_none rfl _ _ _) rfl ⟨rfl, zs', HZ.out, HB.out, HG.out⟩
end Mt
end Go.Proofs.YtlfoglklibhbnaaGreat
namespace Go.Proofs.YtlfoglklibhbnaaGreat
open Go.RowKit
namespace Mt
attribute [local go_sem ↓] Go.wp_at_zero Go.wp_at_succ
theorem wrapU (M : Nat) (h : M ≤ 1000000) : IntKind.u64.wrap (M : Int) = (M : Int) := by rw [IntKind.wrap_u64]; omega
set_option maxHeartbeats 8000000 in
set_option maxRecDepth 100000 in
theorem len64_any (n : Nat) (hn : n ≤ 12) (w : World) :
  Calls Tryz.prog 130 #[.int .u64 n] w fun e w' => ∃ l : Int, e = .returned (.int .i64 l) ∧ w = w' := by
 have h : n = 0 ∨ n = 1 ∨ n = 2 ∨ n = 3 ∨ n = 4 ∨ n = 5 ∨ n = 6 ∨ n = 7 ∨ n = 8 ∨ n = 9 ∨ n = 10 ∨ n = 11 ∨ n = 12 := by omega
 rcases h with rfl | rfl | rfl | rfl | rfl | rfl | rfl | rfl | rfl | rfl | rfl | rfl | rfl
 all_goals
  go_enter Tryz.func130, Tryz.ntmps130
  go_wp2_with fail
  go_ret
  exact ⟨_, rfl, rfl⟩
set_option maxHeartbeats 8000000 in
set_option maxRecDepth 100000 in
theorem len_any (n : Nat) (hn : n ≤ 12) (w : World) :
  Calls Tryz.prog 102 #[.int .u64 n] w fun e w' => ∃ l : Int, e = .returned (.int .i64 l) ∧ w = w' := by
 have H := Lib.hid (len64_any n hn w)
 go_enter Tryz.func102, Tryz.ntmps102
 go_wp2_with fail
 refine H.out.mono ?_
 rintro e w1 ⟨l, rfl, rfl⟩
 go_wp2_with fail
 go_ret
 exact ⟨l, rfl, rfl⟩
set_option maxHeartbeats 8000000 in
set_option maxRecDepth 100000 in
theorem pdq_any (pv : Value) (l : Int) (w0 : World) (g n cap : Nat) (zs : List Int) (w : World) (hn : n ≤ 12) (hc : CmpP w0 pv n) (hz : zs.Perm (idxL n)) (hb : Bx w g 3 (zs.map (Value.int .i64))) (h0 : Gr w0 w) (hg : w0.heap.size ≤ g) :
  Calls Tryz.prog 101 #[.slice (some ⟨g, 0, none⟩) n cap, .int .i64 0, .int .i64 n, .int .i64 l, .func (.func 75) #[pv] #[]] w fun e w' => e = .returned (.tuple #[]) ∧ ∃ zs' : List Int, zs'.Perm (idxL n) ∧ Bx w' g 3 (zs'.map (Value.int .i64)) ∧ Gr w0 w' := by
 have H := Lib.hid (ins_any pv w0 g n cap zs w hn hc hz hb h0 hg)
 have d0 : decide ((n : Int) ≤ 12) = true := by simp; omega
 clear hc hz hb h0
 go_enter Tryz.func101, Tryz.ntmps101
 go_wp2_with fail
 refine wp_loop_rounds 1 ?_
 rw [rounds_succ]
 go_wp2_with fail
 refine H.out.mono ?_
 rintro e w1 ⟨rfl, zs', h1, h2, h3⟩
 have HR := Lib.hid (And.intro h1 (And.intro h2 h3))
 clear h1 h2 h3
 go_wp2_with fail
 (try simp only [Exit.inBlock, Exit.then])
 exact bodyPost_ret (results_none rfl _ _ _) rfl ⟨rfl, zs', HR.out⟩
set_option maxHeartbeats 8000000 in
set_option maxRecDepth 100000 in
theorem sort_of (pv : Value) (w0 : World) (g n cap : Nat) (zs : List Int) (w : World) (hn : n ≤ 12) (hc : CmpP w0 pv n) (hz : zs.Perm (idxL n)) (hb : Bx w g 3 (zs.map (Value.int .i64))) (h0 : Gr w0 w) (hg : w0.heap.size ≤ g) :
  Calls Tryz.prog 74 #[.slice (some ⟨g, 0, none⟩) n cap, .func (.func 75) #[pv] #[]] w fun e w' => e = .returned (.tuple #[]) ∧ ∃ zs' : List Int, zs'.Perm (idxL n) ∧ Bx w' g 3 (zs'.map (Value.int .i64)) ∧ Gr w0 w' := by
 have HL := Lib.hid (len_any n hn w)
 have HP := Lib.hid (fun l => pdq_any pv l w0 g n cap zs w hn hc hz hb h0 hg)
 have u1 : IntKind.u64.wrap (n : Int) = (n : Int) := wrapU n (by omega)
 clear hc hz hb h0
 go_enter Tryz.func74, Tryz.ntmps74
 go_wp2_with fail
 refine HL.out.mono ?_
 rintro e w1 ⟨l, rfl, rfl⟩
 go_wp2_with fail
 refine (HP.out l).mono ?_
 rintro e w1 ⟨rfl, hr⟩
 have HR := Lib.hid hr
 clear hr
 go_wp2_with fail
 exact bodyPost_end (results_none rfl _ _ _) rfl ⟨rfl, HR.out⟩
theorem set_idx (n k : Nat) (hk : k < n) : (idxL k ++ List.replicate (n - k) 0).set k (k : Int) = idxL (k + 1) ++ List.replicate (n - (k + 1)) 0 := by
 have hl : (idxL k).length = k := by simp [idxL]
 rw [List.set_append_right _ _ (by omega), hl, Nat.sub_self, show n - k = (n - (k + 1)) + 1 by omega, List.replicate_succ, List.set_cons_zero]
 unfold idxL
 rw [List.range_succ, List.map_append, List.append_assoc]
 rfl
set_option maxHeartbeats 8000000 in
set_option maxRecDepth 100000 in
theorem order_any (a : Option Addr) (cap : Nat) (ps : List PA) (w : World) (hr : PRows w a ps) (hl : ps.length ≤ 12) :
  Calls Tryz.prog 46 #[.slice a ps.length cap] w fun e w' => ∃ g, ∃ zs' : List Int, e = .returned (.slice (some ⟨g, 0, none⟩) ps.length ps.length) ∧ zs'.Perm (idxL ps.length) ∧ Bx w' g 3 (zs'.map (Value.int .i64)) ∧ w.heap.size ≤ g ∧ Gr w w' := by
 obtain ⟨i0, hi, hz0, hz1, hz2⟩ := info_parts infoInt
 have HC : Hid (CmpP w (.slice a ps.length cap) ps.length) := Lib.hid (fun x y hx hy w1 g1 => by_any a cap x y ps w1 (hr.later g1) hx hy (by omega))
 clear hr
 generalize ps.length = n at *
 go_enter Tryz.func46, Tryz.ntmps46
 go_wp2_with (first | (refine wpList_make_full _ rfl (.tmp 6) (.tmp 6) 50 rfl w.heap.size 3 i0 (.int .i64 0) 1 Tryz.underlying50 hi hz0 hz1 .i64 .i64 _ _ n rfl rfl ?c1 ?c2 ?c3 ?c4 ?c5 ?_))
 case c1 => rfl
 case c2 => rfl
 case c3 => first | omega | (rw [hz2]; omega)
 case c4 => unfold maxLen; omega
 try case c5 => simp
 intro w1 hown hgrow
 have hG : Gr w w1 := Below.grown (Gr.refl _) hgrow (Nat.le_refl _) (fun k hk => by simp at hk)
 have hB : Bx w1 w.heap.size 3 ((idxL 0 ++ List.replicate (n - 0) (0 : Int)).map (Value.int .i64)) := by
  have := own_bx hown
  rw [toList_madeCells_one] at this
  simpa [idxL] using this
 obtain ⟨g, hgg⟩ : ∃ g, w.heap.size = g := ⟨_, rfl⟩
 have hgw : w.heap.size ≤ g := by omega
 rw [hgg] at hB ⊢
 have HB := Lib.hid hB; have HG := Lib.hid hG; have HGG := Lib.hid hgg
 clear hB hG hown hgrow hgg
 go_wp2_with fail
 go_loopw [10] (fun v10 wr => ∃ k : Nat, k ≤ n ∧ v10 = .int .i64 k ∧ Bx wr g 3 ((idxL k ++ List.replicate (n - k) (0 : Int)).map (Value.int .i64)) ∧ Gr w wr) (fun v10 _ => n - (intOf v10).toNat)
 case atStart => exact ⟨0, Nat.zero_le _, rfl, HB.out, HG.out⟩
 case round =>
  clear HB HG
  obtain ⟨k, hk, rfl, hb, hg⟩ := hrel
  have HB := Lib.hid hb; have HG := Lib.hid hg
  clear hb hg
  by_cases hlt : k < n
  ·have hk0 : (0 : Int) ≤ (k : Int) := by omega
   have hlen : ((idxL k ++ List.replicate (n - k) (0 : Int)).map (Value.int .i64)).length = n := by simp [idxL]; omega
   obtain ⟨u, hu⟩ : ∃ u, ((idxL k ++ List.replicate (n - k) (0 : Int)).map (Value.int .i64))[k]? = some u := ⟨_, List.getElem?_eq_getElem (by omega)⟩
   have c0 := HB.out.blk.cell k hu
   have f0 := HB.out.blk.free k hu
   have lg := HB.out.lt
   clear hlen hu
   go_wp2_with fail
   go_roundw
   case rel =>
    refine ⟨k + 1, by omega, by go_num, ?_, HG.out.setCell (by show w.heap.size ≤ g; exact hgw) _⟩
    have := bx_seti HB.out k (.int .i64 (k : Int))
    rw [← List.map_set, set_idx n k hlt] at this
    exact this
   case measure => simp [intOf]; omega
  ·have hkn : k = n := by omega
   subst hkn
   have HS := Lib.hid (sort_of (.slice a k cap) w g k k _ wr hl HC.out (List.Perm.refl _) (by have := HB.out; simpa using this) HG.out hgw)
   clear HB
   go_wp2_with fail
   refine HS.out.mono ?_
   rintro e w2 ⟨rfl, zs', h1, h2, h3⟩
   have H1 := Lib.hid h1; have H2 := Lib.hid h2; have H3 := Lib.hid h3
   clear h1 h2 h3
   go_wp2_with fail
   go_ret
   exact ⟨g, zs', rfl, H1.out, H2.out, hgw, H3.out⟩
end Mt
end Go.Proofs.YtlfoglklibhbnaaGreat
namespace Go.Proofs.YtlfoglklibhbnaaGreat
open Go.RowKit Go.Maps
namespace Mt
attribute [local go_sem ↓] Go.wp_at_zero Go.wp_at_succ
theorem plainElem_bool_inv {H : Type} {P : Program} {e : TypeId} (he : P.underlying e = some .bool) {v : Value} {z : DataW H × List MemPlace} (h : plainElem P e v = some z) : ∃ x, v = .bool x ∧ z = (.lit (.bool x), []) := by
 unfold plainElem at h
 rw [he] at h
 cases v <;> simp at h
 rename_i x
 exact ⟨x, rfl, h.symm⟩
theorem wpList_lookup_own_bool {H : Type} {P : Program} (w : World) {ops : Array Oper} {rest : List Oper} {o : Oper} {a : Act} {Q : Exit → Act → World → Prop}
  (hg : o.guard = none) (m x : Operand) (t : TypeId) (hop : o.op = Op.lookup t m x false)
  (k e : TypeId) (K : Keyed P k) (ht : P.underlying t = some (.map k e)) (he : P.underlying e = some .bool) (hz : (zeroValue e).run P w = .ok (.bool false) w) (b n : Nat) (D : DataW H)
  (hm : a.eval m = .map (some b)) (hown : w.ownsMap P k (plainElem P e) b n D) (key : Value) (kl : Lit) (hx : a.eval x = key) (hkey : keyOf P k key = some kl)
  (hK : ∀ c : Bool, D.atKey kl (.lit (.bool false)) = .lit (.bool c) → wpList P ops Q rest (a.put o.dst (.bool c)) w) :
  wpList P ops Q (o :: rest) a w := by
 refine wpList_plain hg fun K' hK' => ?_
 obtain ⟨v, ps, hrun, hv⟩ := hown.lookup K ht hz (plainElem_bool he false) hkey
 obtain ⟨c, rfl, hc⟩ := plainElem_bool_inv he hv
 simp only [Prod.mk.injEq] at hc
 unfold Oper.wp
 simp [execOp, hop, hm, hx, hrun, Result.andThen]
 exact hK' _ _ (hK c hc.1)
theorem mlaw : Keyed Tryz.prog 3 := int_keyed Tryz.underlying3
theorem bzero (w : World) : (zeroValue 4).run Tryz.prog w = .ok (.bool false) w := by kernel_rfl
def SeenM (L : List Int) (w : World) (b : Nat) : Prop := ∃ n, ∃ D : DataW Unit, n ≤ L.length ∧ w.ownsMap Tryz.prog 3 (plainElem (H := Unit) Tryz.prog 4) b n D ∧ IsMap D ∧ ∀ z : Int, D.atKey (.int .i64 z) (.lit (.bool false)) = .lit (.bool (decide (z ∈ L)))
theorem SeenM.gr {L : List Int} {w w' : World} {b : Nat} (h : SeenM L w b) (g : Gr w w') : SeenM L w' b := by
 obtain ⟨n, D, h1, ⟨es, clock, hb, r⟩, h3, h4⟩ := h
 exact ⟨n, D, h1, ⟨es, clock, (Below.block g b (Array.getElem?_eq_some_iff.1 hb).1).trans hb, r⟩, h3, h4⟩
theorem seen_put {L : List Int} {D : DataW Unit} (hm : IsMap D) (ha : ∀ z : Int, D.atKey (.int .i64 z) (.lit (.bool false)) = .lit (.bool (decide (z ∈ L)))) (x : Int) :
  IsMap (D.put (.int .i64 x) (.lit (.bool true))) ∧ ∀ z : Int, (D.put (.int .i64 x) (.lit (.bool true))).atKey (.int .i64 z) (.lit (.bool false)) = .lit (.bool (decide (z ∈ L ++ [x]))) := by
 refine ⟨hm.put _ _, fun z => ?_⟩
 by_cases e : z = x
 ·subst e
  rw [atKey_put_same hm (by simp [WideAt.IsKeyLit])]
  simp
 ·rw [atKey_put_other (fun h => by injection h with _ h; exact e h), ha z]
  simp [e]
def ptris (ps : List PA) : List Int := ps.flatMap (·.tris)
theorem ptris_succ {ps : List PA} {i : Nat} (hi : i < ps.length) : ptris (ps.take (i + 1)) = ptris (ps.take i) ++ (ps[i]).tris := by
 unfold ptris
 rw [List.take_succ_eq_append_getElem hi, List.flatMap_append]
 simp
theorem ptris_few : ∀ {ps : List PA}, (∀ p ∈ ps, p.tris.length ≤ 12) → (ptris ps).length ≤ 12 * ps.length
 | [], _ => by simp [ptris]
 | p :: ps, h => by
  have h1 := h p (by simp)
  have h2 := ptris_few (ps := ps) (fun q hq => h q (by simp [hq]))
  unfold ptris at h2 ⊢
  simp only [List.flatMap_cons, List.length_append, List.length_cons]
  omega
theorem ptris_nd {ps : List PA} (h : (ptris ps).Nodup) {i k : Nat} (hi : i < ps.length) (hk : k < (ps[i]).tris.length) : (ps[i]).tris.getD k 0 ∉ ptris (ps.take i) ++ (ps[i]).tris.take k := by
 have e : ptris ps = ptris (ps.take (i + 1)) ++ ptris (ps.drop (i + 1)) := by
  unfold ptris; rw [← List.flatMap_append, List.take_append_drop]
 rw [e, List.nodup_append] at h
 have h1 := h.1
 rw [ptris_succ hi] at h1
 have e2 : (ps[i]).tris = (ps[i]).tris.take k ++ (ps[i]).tris.getD k 0 :: (ps[i]).tris.drop (k + 1) := by
  rw [List.getD_eq_getElem?_getD, List.getElem?_eq_getElem hk]
  simp
 rw [e2, ← List.append_assoc, List.nodup_append] at h1
 intro hm
 exact h1.2.2 _ hm _ (by simp) rfl
set_option maxHeartbeats 8000000 in
set_option maxRecDepth 100000 in
theorem rowright_any (a : Option Addr) (cap : Nat) (ps : List PA) (w : World) (hr : PRows w a ps) (hg : ∀ p ∈ ps, PGood p) (hnd : (ptris ps).Nodup) (hl : ps.length ≤ 12) :
  Calls Tryz.prog 45 #[.slice a ps.length cap] w fun e w' => e = .returned (.bool true) ∧ Gr w w' := by
 have hmm := @run_makeMap Tryz.prog
 have HR := Lib.hid hr; have HGD := Lib.hid hg; have HND := Lib.hid hnd
 clear hr hg hnd
 obtain ⟨len, hlen⟩ : ∃ len, ps.length = len := ⟨_, rfl⟩
 have HL := Lib.hid hlen
 rw [hlen] at hl ⊢
 clear hlen
 go_enter Tryz.func45, Tryz.ntmps45
 go_wp2_with fail
 go_loopw [11] (fun v11 wr => ∃ i : Nat, i ≤ len ∧ v11 = .int .i64 i ∧ SeenM (ptris (ps.take i)) wr w.heap.size ∧ Gr w wr) (fun v11 _ => len - (intOf v11).toNat)
 case atStart => exact ⟨0, Nat.zero_le _, rfl, ⟨0, .map [], Nat.zero_le _, World.ownsMap_made _ _ _ _, isMap_empty, fun n => rfl⟩, (Gr.refl _).alloc _⟩
 case round =>
  obtain ⟨i, hi, rfl, hs, hg⟩ := hrel
  have HS := Lib.hid hs; have HG := Lib.hid hg
  clear hs hg
  by_cases hlt : i < len
  ·have hlt' : i < ps.length := by rw [HL.out]; exact hlt
   obtain ⟨b, off, rfl, lb, hpm, c0, c1, c2, c3⟩ := prow_op (HR.out.later HG.out) hlt'
   have hpg := HGD.out _ (List.getElem_mem hlt')
   have hm0 := HR.out.2 _ (List.getElem_mem hlt')
   have hsc := ptris_succ hlt'
   have hnx := fun k => ptris_nd (k := k) HND.out hlt'
   generalize ps[i] = p at *
   have HPM := Lib.hid hpm; have HPG := Lib.hid hpg; have HSC := Lib.hid hsc; have HNX := Lib.hid hnx; have HM0 := Lib.hid hm0
   clear hpm hpg hsc hnx hm0
   obtain ⟨ta, tc, tris, ua, uc, uv, W, H⟩ := p
   simp only at c0 c1 c2 c3
   have hi0 : (0 : Int) ≤ (i : Int) := by omega
   obtain ⟨V, hV⟩ : ∃ V, wr.alloc (.cells #[.slice ta tris.length tc, .slice ua uv.length uc, .int .i64 W, .int .i64 H] 70) = V := ⟨_, rfl⟩
   obtain ⟨s, hsz⟩ : ∃ s, wr.heap.size = s := ⟨_, rfl⟩
   have hX : Bx V s 70 [.slice ta tris.length tc, .slice ua uv.length uc, .int .i64 W, .int .i64 H] := by rw [← hV]; exact Bx.new (vs := [.slice ta tris.length tc, .slice ua uv.length uc, .int .i64 W, .int .i64 H]) hsz.symm
   have hgV : Gr wr V := by rw [← hV]; exact (Gr.refl _).alloc _
   have x0 := hX.blk.cell 0 rfl; have x1 := hX.blk.cell 1 rfl; have x2 := hX.blk.cell 2 rfl; have x3 := hX.blk.cell 3 rfl; have lX := hX.lt
   have HX := Lib.hid hX; have HGV := Lib.hid hgV
   clear hX hgV
   go_wp2_with fail
   refine (fis_good ⟨ta, tc, tris, ua, uc, uv, W, H⟩ HPG.out V (HPM.out.later HGV.out)).mono ?_
   rintro e w2 ⟨rfl, hg2⟩
   have HS2 := Lib.hid (HS.out.gr (HGV.out.trans hg2)); have HG2 := Lib.hid (HG.out.trans (HGV.out.trans hg2)); have HM2 := Lib.hid (HPM.out.later (HGV.out.trans hg2))
   have hX2 := HX.out.gr hg2
   clear hV hsz x0 x1 x2 x3 lX hg2 HS HG HPM HX HGV c0 c1 c2 c3
   have x0 := hX2.blk.cell 0 rfl; have lX := hX2.lt
   clear hX2
   go_wp2_with fail
   clear x0 lX
   go_loopw [21] (fun v21 wx => ∃ k : Nat, k ≤ tris.length ∧ v21 = .int .i64 k ∧ SeenM (ptris (ps.take i) ++ tris.take k) wx w.heap.size ∧ Gr w wx) (fun v21 _ => tris.length - (intOf v21).toNat)
   case atStart => exact ⟨0, Nat.zero_le _, rfl, by simpa using HS2.out, HG2.out⟩
   case round =>
    clear HS2 HG2
    obtain ⟨k, hk, rfl, hs, hg⟩ := hrel
    have HG := Lib.hid hg
    by_cases hkt : k < tris.length
    ·have hk12 : tris.length ≤ 12 := by
      have a2 := HPG.out.len; have a3 := HPG.out.few
      simp only at a2 a3
      omega
     obtain ⟨bt, ot, eta, hbt, hcell, hI⟩ := row_at (HM0.out.1.later hg) hkt
     simp only at eta
     subst eta
     obtain ⟨n, D, hn, hown, hm, ha⟩ := hs
     have hnl : n < maxLen := by
      have h1 : (ptris (ps.take i) ++ tris.take k).length ≤ 1000000 := by
       have a1 := ptris_few (ps := ps.take i) (fun p hp => by have := HGD.out p (List.mem_of_mem_take hp); have h2 := this.len; have h3 := this.few; omega)
       have a2 := HPG.out.len; have a3 := HPG.out.few
       simp only at a2 a3
       rw [List.length_append, List.length_take]
       have : (ps.take i).length ≤ 12 := by rw [List.length_take]; omega
       omega
      unfold maxLen; omega
     have hkey : keyOf Tryz.prog 3 (.int .i64 (tris.getD k 0)) = some (.int .i64 (tris.getD k 0)) := keyOf_int_mk Tryz.underlying3 (wf_of_I hI)
     have hno := HNX.out k hkt
     have hat0 := ha (tris.getD k 0)
     have hput := seen_put hm ha (tris.getD k 0)
     have hst : (tris.take (k + 1)) = tris.take k ++ [tris.getD k 0] := by
      rw [List.take_succ_eq_append_getElem hkt, List.getD_eq_getElem?_getD, List.getElem?_eq_getElem hkt]; rfl
     have HPUT := Lib.hid hput; have HST := Lib.hid hst
     rw [decide_eq_false hno] at hat0
     have hlen1 : n + 1 ≤ (ptris (ps.take i) ++ tris.take (k + 1)).length := by rw [hst, ← List.append_assoc, List.length_append]; simp; simpa using hn
     have HLN := Lib.hid hlen1
     have hk0 : (0 : Int) ≤ (k : Int) := by omega
     clear hm ha hput hst hno hlen1 hg
     generalize tris.getD k 0 = z at *
     go_wp2_with (first
      | (at_lookup; refine wpList_lookup_own_bool _ rfl _ _ 150 rfl 3 4 mlaw (by kernel_rfl) Tryz.underlying4 (bzero _) w.heap.size n _ rfl hown _ _ rfl hkey ?_; intro c hat; obtain rfl : c = false := (by have := hat.symm.trans hat0; simpa using this))
      | (at_mapUpdate; refine wpList_mapUpdate_own _ rfl _ _ _ 150 rfl 3 4 mlaw (by kernel_rfl) _ w.heap.size n _ rfl hown hnl _ _ _ rfl rfl hkey _ [] (plainElem_bool Tryz.underlying4 true) ?_; intro w1 hown1 hgrow1))
     have hs1 : SeenM (ptris (ps.take i) ++ tris.take (k + 1)) w1 w.heap.size := ⟨n + 1, _, HLN.out, hown1, HPUT.out.1, fun z' => by rw [HST.out, ← List.append_assoc]; exact HPUT.out.2 z'⟩
     have hg1 : Gr w w1 := Below.grown HG.out hgrow1 HG.out.size (fun j hj => by cases hj; exact Nat.le_refl _)
     clear hown hown1 hgrow1 HPUT HST HLN HNX HSC hnl hkey hat0 hn HM0 hcell
     go_roundw
     case rel => exact ⟨k + 1, by omega, by go_num, hs1, hg1⟩
     case measure => simp [intOf]; omega
    ·have hkl : k = tris.length := by omega
     subst hkl
     rw [List.take_length, ← HSC.out] at hs
     have HS3 := Lib.hid hs
     clear hs
     go_wp2_with fail
     go_roundw
     case rel => exact ⟨i + 1, by omega, by go_num, HS3.out, HG.out⟩
     case measure => simp [intOf]; omega
  ·have hil : i = len := by omega
   subst hil
   go_wp2_with fail
   go_ret
   exact ⟨rfl, HG.out⟩
end Mt
end Go.Proofs.YtlfoglklibhbnaaGreat
