/- The walk of LightSum. -/
import Derived.Test.YtdkeiopcdajkpaaLs
import Derived.Test.YtdkeiopcdajkpaaAp
import Derived.Test.YtdkeiopcdajkpaaN3
set_option linter.unusedVariables false
namespace Go.Proofs.Ytdkeiopcdajkpaa
open Go.RowKit
namespace Ls

def D (zs : List Int) (m : Nat) : List Int := (zs.drop m).reverse
theorem D_none (zs : List Int) : D zs zs.length = [] := by simp [D]
theorem D_all (zs : List Int) : D zs 0 = zs.reverse := by simp [D]
theorem D_step (zs : List Int) (k : Nat) (h : k < zs.length) : D zs k = D zs (k + 1) ++ [zs.getD k 0] := by
  unfold D
  rw [List.drop_eq_getElem_cons h, List.reverse_cons]
  simp [List.getD, List.getElem?_eq_getElem h]
theorem D_length (zs : List Int) (m : Nat) : (D zs m).length = zs.length - m := by simp [D]
theorem D_mem {zs : List Int} {m : Nat} {x : Int} (h : x ∈ D zs m) : x ∈ zs := by
  unfold D at h; rw [List.mem_reverse] at h; exact List.mem_of_mem_drop h
/-- All that shines, without a bound. -/
def tot : List Int → Int
  | [] => 0
  | x :: l => min (max x 0) 255 + tot l
theorem tot_nn : ∀ l, 0 ≤ tot l
  | [] => by unfold tot; omega
  | x :: l => by have := tot_nn l; unfold tot; omega
theorem tot_app : ∀ l m, tot (l ++ m) = tot l + tot m
  | [], m => by simp [tot]
  | x :: l, m => by simp only [List.cons_append, tot, tot_app l m]; omega
theorem tot_rev : ∀ l, tot l.reverse = tot l
  | [] => rfl
  | x :: l => by rw [List.reverse_cons, tot_app, tot_rev l]; simp only [tot]; omega
theorem fold_tot : ∀ (l : List Int) (n : Int), 0 ≤ n ∧ n ≤ 255 → l.foldl st n = min (n + tot l) 255
  | [], n, h => by simp only [List.foldl, tot]; omega
  | x :: l, n, h => by
    have := tot_nn l
    rw [List.foldl_cons, fold_tot l _ (by unfold st; omega)]
    unfold st; simp only [tot]; omega
theorem sm_tot (l : List Int) : sm l = min (tot l) 255 := by unfold sm; rw [fold_tot l 0 (by omega)]; omega
theorem sm_rev (l : List Int) : sm l.reverse = sm l := by rw [sm_tot, sm_tot, tot_rev]
theorem sm_more (l : List Int) (d : Int) : sm (l ++ [d]) = st (sm l) d := by
  unfold sm; rw [List.foldl_append]; rfl
theorem sm_two {s d : Int} (h : 0 ≤ s ∧ s ≤ 255) : sm [s, d] = st s d := by
  have : st 0 s = s := by unfold st; omega
  unfold sm; simp only [List.foldl, this]
theorem shone_any (w : World) : Calls Try.prog 30 #[] w fun e w' => e = .returned (.bool true) ∧ Gr w w' :=
  Sx.flat_run (Sx.c_shone w) rfl [] rfl (by intro a h; cases h)
end Ls
open Ls
set_option maxHeartbeats 4000000 in
set_option maxRecDepth 100000 in
theorem walk_LightSum (w : World) (p : Option Addr) (len cap : Nat) (zs : List Int) (hr : IsRow .i64 w p len zs) (hn : p = none → cap = 0) (d : Int) (_ : I d) :
    Calls Try.prog 12 #[.slice p len cap, .int .i64 d] w fun e w' => e = .returned (.bool true) ∧ Gr w w' := by
  rename_i hd
  have hm := hr.2.1
  by_cases hl : 60 < len
  · clear hr hn hd
    go_enter Try.func12, Try.ntmps12
    go_wp2
    go_ret
    exact ⟨rfl, Gr.refl _⟩
  · have hz : zs.length = len := hr.1
    have HR := Lib.hid hr; clear hr
    have hl2 : len ≤ 60 := by omega
    have HZ := Lib.hid hz; clear hl hm hz
    obtain ⟨i0, hi, hz0', hz1, hz2⟩ := info_parts Ow.infoInt
    have HN := Lib.hid hn; clear hn
    have HD := Lib.hid hd; clear hd
    go_enter Try.func12, Try.ntmps12
    go_wp2_with fail
    go_loopw [5, 6] (fun v5 v6 wr => ∃ m : Nat, m ≤ len ∧ v6 = .int .i64 ((m : Int) - 1) ∧ wr.ownsRow w.heap.size 3 1 v5 ((D zs m).map (Value.int .i64)).length ((D zs m).map (Value.int .i64)) ∧ Gr w wr) (fun _ i _ => (intOf i + 1).toNat)
    case atStart => exact ⟨len, Nat.le_refl _, rfl, by rw [← HZ.out, D_none]; exact World.ownsRow_nil _ _ _ _, Gr.refl _⟩
    case round =>
      obtain ⟨m, hm, rfl, hrow, hgr⟩ := hrel
      cases m with
      | succ k =>
        have ek : (((k + 1 : Nat) : Int) - 1) = (k : Int) := by omega
        rw [ek]; clear ek
        obtain ⟨_, _, hwz, hcells⟩ := HR.out
        obtain ⟨b, off, rfl, hcell⟩ := hcells (by omega)
        have hc0 := hcell k (by omega)
        have hck : wr.cell? ⟨b, off + k, none⟩ = some (.int .i64 (zs.getD k 0)) := by rw [hgr.cell (lt_of_cell hc0)]; exact hc0
        have hds := D_step zs k (by rw [HZ.out]; omega)
        have hzl := HZ.out
        clear hcells hcell hwz hc0
        generalize zs.getD k 0 = z at hck hds
        have hdl := D_length zs (k + 1)
        have HRW := Lib.hid hrow; have HG := Lib.hid hgr; have HDS := Lib.hid hds; have HDL := Lib.hid hdl
        clear hrow hgr hds hdl hzl
        go_wp2_with (first
          | (at_builtin; refine append_two rfl (.tmp 20) (.tmp 25) 37 rfl w.heap.size 3 i0 (.int .i64 0) 1 8 Try.underlying37 hi hz0' hz1 hz2 rfl (by decide) _ _ _ rfl (HRW.out.alloc _) ⟨wr.heap.size, 0, none⟩ 1 1 [.int .i64 z] rfl rfl (by exact one_new _ _ _) (by intro u hu; simp at hu; subst hu; rfl) (by decide) ?c4 ?c5 ?c6 ?_))
        case c4 => have := HDL.out; have := HZ.out; unfold maxLen; simp; omega
        case c5 => have := HDL.out; have := HZ.out; simp; omega
        case c6 => have := HG.out.size; simp; omega
        intro v' w1 hown hgrow hmoved
        have h1 := HG.out.alloc (.cells #[.int .i64 z] 3)
        have hg1 : Gr w w1 := Below.grown h1 hgrow h1.size (fun k hk => (HRW.out.lt k hk).1)
        have HO := Lib.hid hown; have HG1 := Lib.hid hg1
        clear hown hgrow hmoved h1 hg1
        go_wp2
        go_roundw
        case rel => exact ⟨k, by omega, rfl, by rw [HDS.out]; simpa using HO.out, HG1.out⟩
        case measure => simp [intOf]
      | zero =>
        rw [show (((0 : Nat) : Int) - 1) = -1 from rfl]
        obtain ⟨a5, cap5, rfl, row5⟩ := row_owned (zs := D zs 0) (by simpa using hrow) (by rw [D_length, HZ.out]; omega) (fun n hn => HR.out.2.2.1 n (D_mem hn))
        have f1 : sm (D zs 0) = sm zs := by rw [D_all]; exact sm_rev zs
        have f2 := sm_more zs d
        have f0 := sm_bd zs
        have f3 := sm_two (d := d) f0
        obtain ⟨S, hS⟩ : ∃ S, sm zs = S := ⟨_, rfl⟩
        obtain ⟨T, hT⟩ : ∃ T, st S d = T := ⟨_, rfl⟩
        rw [hS] at f0 f1 f2 f3
        rw [hT] at f2 f3
        have g1 : S ≤ T := by rw [← hT]; unfold st; omega
        have g2 : ¬ 0 < d → T = S := by rw [← hT]; unfold st; omega
        obtain ⟨f01, f02⟩ := f0
        have HG := Lib.hid hgr; have HS := Lib.hid hS; have F1 := Lib.hid f1; have F2 := Lib.hid f2; have F3 := Lib.hid f3; have G2 := Lib.hid g2; have R5 := Lib.hid row5
        clear hgr hS hT f1 f2 f3 g2 row5 hrow hm
        by_cases h0 : len = 0
        · subst h0
          have hzs : zs = [] := List.eq_nil_of_length_eq_zero HZ.out
          subst hzs
          cases p with
          | none =>
            have hcap := HN.out rfl
            subst hcap
            have HO : Hid (wr.ownsRow wr.heap.size 3 1 (.slice none 0 0) ([] : List Int).length (([] : List Int).map (Value.int .i64))) := Lib.hid (World.ownsRow_nil _ _ _ _)
            have HG1 : Hid (Gr wr wr) := Lib.hid (Gr.refl _)
            go_wp2_with (first
              | (at_builtin; refine append_two rfl (.tmp 30) (.tmp 32) 37 rfl wr.heap.size 3 i0 (.int .i64 0) 1 8 Try.underlying37 hi hz0' hz1 hz2 rfl (by decide) _ _ _ rfl (HO.out.alloc _) ⟨wr.heap.size, 0, none⟩ 1 1 [.int .i64 d] rfl rfl (by exact one_new _ _ _) (by intro u hu; simp at hu; subst hu; rfl) (by decide) ?tl0_4 ?tl0_5 ?tl0_6 ?_))
            try case tl0_4 => have := HZ.out; unfold maxLen; simp <;> omega
            try case tl0_5 => have := HZ.out; simp <;> omega
            try case tl0_6 => have := HG1.out.size; simp; omega
            intro v'' w2 hown2 hgrow2 hmoved2
            have h1 := HG1.out.alloc (.cells #[.int .i64 d] 3)
            have hg2 : Gr wr w2 := Below.grown h1 hgrow2 h1.size (fun k hk => (HO.out.lt k hk).1)
            obtain ⟨a7, cap7, rfl, row7⟩ := row_owned (zs := ([] : List Int) ++ [d]) (by first | simpa using hown2 | (rw [List.length_append, HZ.out]; simpa using hown2)) (by have := HZ.out; simp <;> omega) (fun n hn => by
              rw [List.mem_append] at hn
              rcases hn with hn | hn
              · exact HR.out.2.2.1 n hn
              · simp at hn; subst hn; exact wf_of_I HD.out)
            have HG2 := Lib.hid hg2; have R7 := Lib.hid row7
            clear hown2 hgrow2 hmoved2 h1 hg2 row7
            go_wp2_with fail
            refine (sum_any _ _ _ ([] : List Int) _ (by exact HR.out.later (HG.out.trans HG2.out))).mono ?_; rintro e _ ⟨rfl, rfl⟩; rw [HS.out]
            go_wp2_with fail
            refine (sum_any _ _ _ (([] : List Int) ++ [d]) _ (by first | exact R7.out | (have h := R7.out; rw [List.length_append, HZ.out] at h; exact h))).mono ?_; rintro e _ ⟨rfl, rfl⟩; rw [F2.out]
            go_wp2_with fail
            refine (shone_any _).mono ?_; rintro e w4 ⟨rfl, hg4⟩
            have HG4 := Lib.hid hg4; clear hg4
            go_wp2_with fail
            refine (sum_any _ _ _ (D ([] : List Int) 0) _ (by exact R5.out.later (HG2.out.trans HG4.out))).mono ?_; rintro e _ ⟨rfl, rfl⟩; rw [F1.out]
            have hss : (S == S) = true := by simp
            have htt : (T == T) = true := by simp
            go_wp2_with fail
            refine (sum_any _ _ _ [S, d] _ (by exact row_new _ [S, d] _ (by simp) (by
              intro n hn
              simp at hn
              rcases hn with rfl | rfl
              · exact wf_of_I ⟨by omega, by omega⟩
              · exact wf_of_I HD.out))).mono ?_; rintro e _ ⟨rfl, rfl⟩; rw [F3.out]
            by_cases hdp : 0 < d
            · go_wp2
              go_ret
              exact ⟨rfl, ((HG.out.trans HG2.out).trans HG4.out).alloc _⟩
            · have := G2.out (by omega)
              subst this
              go_wp2
              go_ret
              exact ⟨rfl, ((HG.out.trans HG2.out).trans HG4.out).alloc _⟩
          | some x =>
            have HO : Hid (wr.ownsRow wr.heap.size 3 1 (.slice none 0 0) ([] : List Int).length (([] : List Int).map (Value.int .i64))) := Lib.hid (World.ownsRow_nil _ _ _ _)
            have HG1 : Hid (Gr wr wr) := Lib.hid (Gr.refl _)
            go_wp2_with (first
              | (at_builtin; refine append_two rfl (.tmp 30) (.tmp 32) 37 rfl wr.heap.size 3 i0 (.int .i64 0) 1 8 Try.underlying37 hi hz0' hz1 hz2 rfl (by decide) _ _ _ rfl (HO.out.alloc _) ⟨wr.heap.size, 0, none⟩ 1 1 [.int .i64 d] rfl rfl (by exact one_new _ _ _) (by intro u hu; simp at hu; subst hu; rfl) (by decide) ?tl1_4 ?tl1_5 ?tl1_6 ?_))
            try case tl1_4 => have := HZ.out; unfold maxLen; simp <;> omega
            try case tl1_5 => have := HZ.out; simp <;> omega
            try case tl1_6 => have := HG1.out.size; simp; omega
            intro v'' w2 hown2 hgrow2 hmoved2
            have h1 := HG1.out.alloc (.cells #[.int .i64 d] 3)
            have hg2 : Gr wr w2 := Below.grown h1 hgrow2 h1.size (fun k hk => (HO.out.lt k hk).1)
            obtain ⟨a7, cap7, rfl, row7⟩ := row_owned (zs := ([] : List Int) ++ [d]) (by first | simpa using hown2 | (rw [List.length_append, HZ.out]; simpa using hown2)) (by have := HZ.out; simp <;> omega) (fun n hn => by
              rw [List.mem_append] at hn
              rcases hn with hn | hn
              · exact HR.out.2.2.1 n hn
              · simp at hn; subst hn; exact wf_of_I HD.out)
            have HG2 := Lib.hid hg2; have R7 := Lib.hid row7
            clear hown2 hgrow2 hmoved2 h1 hg2 row7
            go_wp2_with fail
            refine (sum_any _ _ _ ([] : List Int) _ (by exact HR.out.later (HG.out.trans HG2.out))).mono ?_; rintro e _ ⟨rfl, rfl⟩; rw [HS.out]
            go_wp2_with fail
            refine (sum_any _ _ _ (([] : List Int) ++ [d]) _ (by first | exact R7.out | (have h := R7.out; rw [List.length_append, HZ.out] at h; exact h))).mono ?_; rintro e _ ⟨rfl, rfl⟩; rw [F2.out]
            go_wp2_with fail
            refine (shone_any _).mono ?_; rintro e w4 ⟨rfl, hg4⟩
            have HG4 := Lib.hid hg4; clear hg4
            go_wp2_with fail
            refine (sum_any _ _ _ (D ([] : List Int) 0) _ (by exact R5.out.later (HG2.out.trans HG4.out))).mono ?_; rintro e _ ⟨rfl, rfl⟩; rw [F1.out]
            have hss : (S == S) = true := by simp
            have htt : (T == T) = true := by simp
            go_wp2_with fail
            refine (sum_any _ _ _ [S, d] _ (by exact row_new _ [S, d] _ (by simp) (by
              intro n hn
              simp at hn
              rcases hn with rfl | rfl
              · exact wf_of_I ⟨by omega, by omega⟩
              · exact wf_of_I HD.out))).mono ?_; rintro e _ ⟨rfl, rfl⟩; rw [F3.out]
            by_cases hdp : 0 < d
            · go_wp2
              go_ret
              exact ⟨rfl, ((HG.out.trans HG2.out).trans HG4.out).alloc _⟩
            · have := G2.out (by omega)
              subst this
              go_wp2
              go_ret
              exact ⟨rfl, ((HG.out.trans HG2.out).trans HG4.out).alloc _⟩
        · obtain ⟨_, _, hwz, hcells⟩ := HR.out
          obtain ⟨b, off, rfl, hcell⟩ := hcells (by omega)
          have HC := Lib.hid hcell; clear hcell hcells hwz
          go_wp2_with (first
            | (at_builtin; refine wpList_append_own _ rfl _ _ 37 rfl wr.heap.size 3 i0 (.int .i64 0) 1 8 Try.underlying37 hi hz0' hz1 hz2 rfl (by decide) _ 0 [] rfl (World.ownsRow_nil _ _ _ _) ⟨b, off, none⟩ len cap (zs.map (Value.int .i64)) rfl ?nz1 ?nz2 ?nz3 ?nz4 ?nz5 ?nz6 ?_))
          try case nz1 => simpa using HZ.out
          case nz2 =>
            intro j u hj
            have hjl : j < zs.length := by
              apply Classical.byContradiction; intro hc
              rw [List.getElem?_eq_none (by omega)] at hj; simp at hj
            rw [List.getElem?_eq_getElem hjl] at hj
            simp at hj; subst hj
            have hc := HC.out j (by rw [← HZ.out]; exact hjl)
            have hc2 : wr.cell? ⟨b, off + j, none⟩ = some (.int .i64 zs[j]) := by
              rw [HG.out.cell (lt_of_cell hc), hc]
              simp [List.getD, List.getElem?_eq_getElem hjl]
            first | exact hc2 | (rw [add_none]; exact hc2) | simpa [add_none] using hc2
          case nz3 => first | (intro u hu; rfl) | (intro u hu; rw [List.mem_map] at hu; obtain ⟨y, _, rfl⟩ := hu; rfl) | (intro u x hx hu; subst hu; rfl) | simp [Value.oneCell']
          try case nz4 => unfold maxLen; omega
          try case nz5 => omega
          try case nz6 => exact Nat.le_refl _
          intro v' w1 hown hgrow _
          have hg : Gr wr w1 := (Below.refl _ _).grown hgrow (Nat.le_refl _) (fun k hk => by simp [Value.ownBlock] at hk)
          have HO : Hid (w1.ownsRow wr.heap.size 3 1 v' zs.length (zs.map (Value.int .i64))) := Lib.hid (by rw [HZ.out]; simpa using hown)
          have HG1 := Lib.hid hg; clear hown hgrow hg
          go_wp2_with (first
            | (at_builtin; refine append_two rfl (.tmp 30) (.tmp 32) 37 rfl wr.heap.size 3 i0 (.int .i64 0) 1 8 Try.underlying37 hi hz0' hz1 hz2 rfl (by decide) _ _ _ rfl (HO.out.alloc _) ⟨w1.heap.size, 0, none⟩ 1 1 [.int .i64 d] rfl rfl (by exact one_new _ _ _) (by intro u hu; simp at hu; subst hu; rfl) (by decide) ?tl2_4 ?tl2_5 ?tl2_6 ?_))
          try case tl2_4 => have := HZ.out; unfold maxLen; simp <;> omega
          try case tl2_5 => have := HZ.out; simp <;> omega
          try case tl2_6 => have := HG1.out.size; simp; omega
          intro v'' w2 hown2 hgrow2 hmoved2
          have h1 := HG1.out.alloc (.cells #[.int .i64 d] 3)
          have hg2 : Gr wr w2 := Below.grown h1 hgrow2 h1.size (fun k hk => (HO.out.lt k hk).1)
          obtain ⟨a7, cap7, rfl, row7⟩ := row_owned (zs := zs ++ [d]) (by first | simpa using hown2 | (rw [List.length_append, HZ.out]; simpa using hown2)) (by have := HZ.out; simp <;> omega) (fun n hn => by
            rw [List.mem_append] at hn
            rcases hn with hn | hn
            · exact HR.out.2.2.1 n hn
            · simp at hn; subst hn; exact wf_of_I HD.out)
          have HG2 := Lib.hid hg2; have R7 := Lib.hid row7
          clear hown2 hgrow2 hmoved2 h1 hg2 row7
          go_wp2_with fail
          refine (sum_any _ _ _ zs _ (by exact HR.out.later (HG.out.trans HG2.out))).mono ?_; rintro e _ ⟨rfl, rfl⟩; rw [HS.out]
          go_wp2_with fail
          refine (sum_any _ _ _ (zs ++ [d]) _ (by first | exact R7.out | (have h := R7.out; rw [List.length_append, HZ.out] at h; exact h))).mono ?_; rintro e _ ⟨rfl, rfl⟩; rw [F2.out]
          go_wp2_with fail
          refine (shone_any _).mono ?_; rintro e w4 ⟨rfl, hg4⟩
          have HG4 := Lib.hid hg4; clear hg4
          go_wp2_with fail
          refine (sum_any _ _ _ (D zs 0) _ (by exact R5.out.later (HG2.out.trans HG4.out))).mono ?_; rintro e _ ⟨rfl, rfl⟩; rw [F1.out]
          have hss : (S == S) = true := by simp
          have htt : (T == T) = true := by simp
          go_wp2_with fail
          refine (sum_any _ _ _ [S, d] _ (by exact row_new _ [S, d] _ (by simp) (by
            intro n hn
            simp at hn
            rcases hn with rfl | rfl
            · exact wf_of_I ⟨by omega, by omega⟩
            · exact wf_of_I HD.out))).mono ?_; rintro e _ ⟨rfl, rfl⟩; rw [F3.out]
          by_cases hdp : 0 < d
          · go_wp2
            go_ret
            exact ⟨rfl, ((HG.out.trans HG2.out).trans HG4.out).alloc _⟩
          · have := G2.out (by omega)
            subst this
            go_wp2
            go_ret
            exact ⟨rfl, ((HG.out.trans HG2.out).trans HG4.out).alloc _⟩
end Go.Proofs.Ytdkeiopcdajkpaa
