/- Parts of the proof of TopPoint. No condition of their own. -/
import Derived.Test.YtlfoglklibhbnaaGreatTpV
import Derived.Test.YtlfoglklibhbnaaGreatTpZ
import Derived.Deep.RegionHeld3
import Derived.Test.YtlfoglklibhbnaaGreatTpQ
import Derived.Deep.DeepCutAuto
import Derived.Test.YtlfoglklibhbnaaGreatTpU
import Derived.Deep.AppendLies
set_option linter.unusedVariables false
set_option linter.unusedSimpArgs false
namespace Go.Proofs.YtlfoglklibhbnaaGreat
open Go.RowKit
namespace Mt
attribute [local go_sem ↓] Go.wp_at_zero Go.wp_at_succ
theorem overlap_raw (a0 a1 a2 a3 a4 a5 b0 b1 b2 b3 b4 b5 : Int) (w : World) : Calls Tryz.prog 67 #[.agg #[.int .i64 a0, .int .i64 a1, .int .i64 a2, .int .i64 a3, .int .i64 a4, .int .i64 a5], .agg #[.int .i64 b0, .int .i64 b1, .int .i64 b2, .int .i64 b3, .int .i64 b4, .int .i64 b5]] w
   fun e w' => e = .returned (.tuple #[.bool (Sx.fb 59 0 [a0, a1, a2, a3, a4, a5, b0, b1, b2, b3, b4, b5]), .int .i64 (Sx.fi 59 1 [a0, a1, a2, a3, a4, a5, b0, b1, b2, b3, b4, b5])]) ∧ Gr w w' := Sx.flat_run (Sx.c_overlap w) rfl [a0, a1, a2, a3, a4, a5, b0, b1, b2, b3, b4, b5] rfl trivial
theorem shN_six (d : MD) (i ax : Nat) : ∃ u0 v0 u1 v1 u2 v2, shN d i ax = [u0, v0, u1, v1, u2, v2] := ⟨_, _, _, _, _, _, rfl⟩
set_option maxHeartbeats 8000000 in
set_option maxRecDepth 100000 in
theorem fits1_any (k ax : Nat) (sd : Int) (hax : ax < 3) (tr : Value) (s pb bp b : Nat) (m : ML) (d : MD) (s0 s1 s2 s3 s4 s5 : Int) (w : World) (h : IsM w m d) (hm : meshB d = true) (hk : k < d.F.length) (hb : Body w b m) (hp : Piece w bp b ax sd tr) (hs : Bx w s 39 [.int .i64 s0, .int .i64 s1, .int .i64 s2, .int .i64 s3, .int .i64 s4, .int .i64 s5]) (hpb : Bx w pb 102 [.pointer (some ⟨bp, 0, none⟩)]) :
  Calls Tryz.prog 66 #[.int .i64 k, .pointer (some ⟨s, 0, none⟩), .pointer (some ⟨pb, 0, none⟩)] w fun e w' => ∃ bb, e = .returned (.bool bb) ∧ Gr w w' := by
 have HM := Lib.hid h; have HMB := Lib.hid hm; have HK := Lib.hid hk; have HBD := Lib.hid hb
 have hp' : Bx w bp 104 [.pointer (some ⟨b, 0, none⟩), .int .i64 ax, .int .i64 sd, tr] := hp
 have HP := Lib.hid hp'; have HS := Lib.hid hs; have HPB := Lib.hid hpb
 have lp := hp'.lt; have ls := hs.lt; have lpb := hpb.lt
 clear h hm hk hb hp hp' hs hpb
 go_enter Tryz.func66, Tryz.ntmps66
 go_wp2_with fail
 refine wp_region_held_drew (S := fun w' => w'.cell? ⟨s, 0, none⟩ = some (.int .i64 s0) ∧ w'.cell? ⟨s, 1, none⟩ = some (.int .i64 s1) ∧ w'.cell? ⟨s, 2, none⟩ = some (.int .i64 s2) ∧ w'.cell? ⟨s, 3, none⟩ = some (.int .i64 s3) ∧ w'.cell? ⟨s, 4, none⟩ = some (.int .i64 s4) ∧ w'.cell? ⟨s, 5, none⟩ = some (.int .i64 s5) ∧ w'.cell? ⟨pb, 0, none⟩ = some (.pointer (some ⟨bp, 0, none⟩)) ∧ w'.cell? ⟨bp, 0, none⟩ = some (.pointer (some ⟨b, 0, none⟩)) ∧ w'.cell? ⟨bp, 1, none⟩ = some (.int .i64 ax)) (by kernel_rfl) ?_ (fun hH => ?_)
 ·exact ⟨HS.out.blk.cell 0 rfl, HS.out.blk.cell 1 rfl, HS.out.blk.cell 2 rfl, HS.out.blk.cell 3 rfl, HS.out.blk.cell 4 rfl, HS.out.blk.cell 5 rfl, HPB.out.blk.cell 0 rfl, HP.out.blk.cell 0 rfl, HP.out.blk.cell 1 rfl⟩
 refine' wpAnyH_take (i := 0) (v := _) rfl (by kernel_rfl) (by kernel_rfl) (by kernel_rfl) (fun _ _ _ h => h) (Or.inl ⟨by rfl, ?thy1_0⟩) (by assumption) ?_
 case thy1_0 => (intro w hSw; (try dsimp only at hSw); go_simp; try with_reducible rfl)
 try simp only [Act.put, List.setIfInBounds_toArray, List.set_cons_zero, List.set_cons_succ, List.getElem_toArray, List.getElem_cons_zero]
 refine' wpAnyH_take (i := 1) (v := _) rfl (by kernel_rfl) (by kernel_rfl) (by kernel_rfl) (fun _ _ _ h => h) (Or.inl ⟨by rfl, ?thy1_1⟩) (by assumption) ?_
 case thy1_1 => (intro w hSw; (try dsimp only at hSw); go_simp; try with_reducible rfl)
 try simp only [Act.put, List.setIfInBounds_toArray, List.set_cons_zero, List.set_cons_succ, List.getElem_toArray, List.getElem_cons_succ, List.getElem_cons_zero]
 refine' wpAnyH_take (i := 2) (v := _) rfl (by kernel_rfl) (by kernel_rfl) (by kernel_rfl) (fun _ _ _ h => h) (Or.inl ⟨by rfl, ?thy1_2⟩) (by assumption) ?_
 case thy1_2 => (intro w hSw; (try dsimp only at hSw); go_simp; try with_reducible rfl)
 try simp only [Act.put, List.setIfInBounds_toArray, List.set_cons_zero, List.set_cons_succ, List.getElem_toArray, List.getElem_cons_succ, List.getElem_cons_zero]
 refine' wpAnyH_take (i := 3) (v := _) rfl (by kernel_rfl) (by kernel_rfl) (by kernel_rfl) (fun _ _ _ h => h) (Or.inl ⟨by rfl, ?thy1_3⟩) (by assumption) ?_
 case thy1_3 => (intro w hSw; (try dsimp only at hSw); go_simp; try with_reducible rfl)
 try simp only [Act.put, List.setIfInBounds_toArray, List.set_cons_zero, List.set_cons_succ, List.getElem_toArray, List.getElem_cons_succ, List.getElem_cons_zero]
 refine' wpAnyH_take (i := 4) (v := _) rfl (by kernel_rfl) (by kernel_rfl) (by kernel_rfl) (fun _ _ _ h => h) (Or.inl ⟨by rfl, ?thy1_4⟩) (by assumption) ?_
 case thy1_4 => (intro w hSw; (try dsimp only at hSw); go_simp; try with_reducible rfl)
 try simp only [Act.put, List.setIfInBounds_toArray, List.set_cons_zero, List.set_cons_succ, List.getElem_toArray, List.getElem_cons_succ, List.getElem_cons_zero]
 refine' wpAnyH_take (i := 5) (v := _) rfl (by kernel_rfl) (by kernel_rfl) (by kernel_rfl) (fun _ _ _ h => h) (Or.inl ⟨by rfl, ?thy1_5⟩) (by assumption) ?_
 case thy1_5 => (intro w hSw; (try dsimp only at hSw); go_simp; try with_reducible rfl)
 try simp only [Act.put, List.setIfInBounds_toArray, List.set_cons_zero, List.set_cons_succ, List.getElem_toArray, List.getElem_cons_succ, List.getElem_cons_zero]
 refine' wpAnyH_take (i := 6) (v := _) rfl (by kernel_rfl) (by kernel_rfl) (by kernel_rfl) (fun _ _ _ h => h) (Or.inl ⟨by rfl, ?thy1_6⟩) (by assumption) ?_
 case thy1_6 => (intro w hSw; (try dsimp only at hSw); go_simp; try with_reducible rfl)
 try simp only [Act.put, List.setIfInBounds_toArray, List.set_cons_zero, List.set_cons_succ, List.getElem_toArray, List.getElem_cons_succ, List.getElem_cons_zero]
 refine' wpAnyH_take (i := 7) (v := _) rfl (by kernel_rfl) (by kernel_rfl) (by kernel_rfl) (fun _ _ _ h => h) (Or.inl ⟨by rfl, ?thy1_7⟩) (by assumption) ?_
 case thy1_7 => (intro w hSw; (try dsimp only at hSw); go_simp; try with_reducible rfl)
 try simp only [Act.put, List.setIfInBounds_toArray, List.set_cons_zero, List.set_cons_succ, List.getElem_toArray, List.getElem_cons_succ, List.getElem_cons_zero]
 refine' wpAnyH_take (i := 8) (v := _) rfl (by kernel_rfl) (by kernel_rfl) (by kernel_rfl) (fun _ _ _ h => h) (Or.inl ⟨by rfl, ?thy1_8⟩) (by assumption) ?_
 case thy1_8 => (intro w hSw; (try dsimp only at hSw); go_simp; try with_reducible rfl)
 try simp only [Act.put, List.setIfInBounds_toArray, List.set_cons_zero, List.set_cons_succ, List.getElem_toArray, List.getElem_cons_succ, List.getElem_cons_zero]
 refine' wpAnyH_take (i := 9) (v := _) rfl (by kernel_rfl) (by kernel_rfl) (by kernel_rfl) (fun _ _ _ h => h) (Or.inl ⟨by rfl, ?thy1_9⟩) (by assumption) ?_
 case thy1_9 => (intro w hSw; (try dsimp only at hSw); go_simp; try with_reducible rfl)
 try simp only [Act.put, List.setIfInBounds_toArray, List.set_cons_zero, List.set_cons_succ, List.getElem_toArray, List.getElem_cons_succ, List.getElem_cons_zero]
 refine' wpAnyH_take (i := 10) (v := _) rfl (by kernel_rfl) (by kernel_rfl) (by kernel_rfl) (fun _ _ _ h => h) (Or.inl ⟨by rfl, ?thy1_10⟩) (by assumption) ?_
 case thy1_10 => (intro w hSw; (try dsimp only at hSw); go_simp; try with_reducible rfl)
 try simp only [Act.put, List.setIfInBounds_toArray, List.set_cons_zero, List.set_cons_succ, List.getElem_toArray, List.getElem_cons_succ, List.getElem_cons_zero]
 refine wpAnyH_ready (rs := [11]) (by kernel_rfl) (by simp) ?_
 refine AllReadyH.cons rfl (fun K hK => ?_) AllReadyH.nil
 go_simp
 go_at_call 25
 refine (shadow_any k ax hax b m d _ (HM.out.later (Gr.refl w).drew) HMB.out HK.out (bx_drew HBD.out)).mono ?_
 rintro e w2 ⟨rfl, hg⟩
 have HG2 := Lib.hid ((Gr.refl w).drew.trans hg)
 obtain ⟨u0, v0, u1, v1, u2, v2, es⟩ := shN_six d k ax
 rw [es, show agOf [u0, v0, u1, v1, u2, v2] = .agg #[.int .i64 u0, .int .i64 v0, .int .i64 u1, .int .i64 v1, .int .i64 u2, .int .i64 v2] from rfl]
 clear es
 have Q := Lib.hid ((bx_drew HS.out).gr hg); clear HS; have HS := Lib.hid Q.out; clear Q
 have Q := Lib.hid ((bx_drew HPB.out).gr hg); clear HPB; have HPB := Lib.hid Q.out; clear Q
 have Q := Lib.hid ((bx_drew HP.out).gr hg); clear HP; have HP := Lib.hid Q.out; clear Q
 have hcc : w2.cell? ⟨s, 0, none⟩ = some (.int .i64 s0) ∧ w2.cell? ⟨s, 1, none⟩ = some (.int .i64 s1) ∧ w2.cell? ⟨s, 2, none⟩ = some (.int .i64 s2) ∧ w2.cell? ⟨s, 3, none⟩ = some (.int .i64 s3) ∧ w2.cell? ⟨s, 4, none⟩ = some (.int .i64 s4) ∧ w2.cell? ⟨s, 5, none⟩ = some (.int .i64 s5) ∧ w2.cell? ⟨pb, 0, none⟩ = some (.pointer (some ⟨bp, 0, none⟩)) ∧ w2.cell? ⟨bp, 0, none⟩ = some (.pointer (some ⟨b, 0, none⟩)) ∧ w2.cell? ⟨bp, 1, none⟩ = some (.int .i64 ax) := ⟨HS.out.blk.cell 0 rfl, HS.out.blk.cell 1 rfl, HS.out.blk.cell 2 rfl, HS.out.blk.cell 3 rfl, HS.out.blk.cell 4 rfl, HS.out.blk.cell 5 rfl, HPB.out.blk.cell 0 rfl, HP.out.blk.cell 0 rfl, HP.out.blk.cell 1 rfl⟩
 clear hg
 go_wp2_with fail
 refine hK.out _ _ ?_ (fun hN => ?_)
 ·exact hcc
 clear hK K hH hcc
 have hH := hN; clear hN
 try simp only [Act.put, List.setIfInBounds_toArray, List.set_cons_zero, List.set_cons_succ, List.getElem_toArray, List.getElem_cons_succ, List.getElem_cons_zero]
 refine wpAnyH_ready (rs := [12]) (by kernel_rfl) (by simp) ?_
 refine AllReadyH.cons rfl (fun K hK => ?_) AllReadyH.nil
 go_simp
 go_at_call 67
 refine (overlap_raw s0 s1 s2 s3 s4 s5 u0 v0 u1 v1 u2 v2 _).mono ?_
 rintro e w3 ⟨rfl, hg⟩
 have HG3 := Lib.hid (HG2.out.trans hg)
 generalize Sx.fb 59 0 [s0, s1, s2, s3, s4, s5, u0, v0, u1, v1, u2, v2] = bb
 generalize Sx.fi 59 1 [s0, s1, s2, s3, s4, s5, u0, v0, u1, v1, u2, v2] = cc
 have Q := Lib.hid ((HS.out).gr hg); clear HS; have HS := Lib.hid Q.out; clear Q
 have Q := Lib.hid ((HPB.out).gr hg); clear HPB; have HPB := Lib.hid Q.out; clear Q
 have Q := Lib.hid ((HP.out).gr hg); clear HP; have HP := Lib.hid Q.out; clear Q
 have hcc : w3.cell? ⟨s, 0, none⟩ = some (.int .i64 s0) ∧ w3.cell? ⟨s, 1, none⟩ = some (.int .i64 s1) ∧ w3.cell? ⟨s, 2, none⟩ = some (.int .i64 s2) ∧ w3.cell? ⟨s, 3, none⟩ = some (.int .i64 s3) ∧ w3.cell? ⟨s, 4, none⟩ = some (.int .i64 s4) ∧ w3.cell? ⟨s, 5, none⟩ = some (.int .i64 s5) ∧ w3.cell? ⟨pb, 0, none⟩ = some (.pointer (some ⟨bp, 0, none⟩)) ∧ w3.cell? ⟨bp, 0, none⟩ = some (.pointer (some ⟨b, 0, none⟩)) ∧ w3.cell? ⟨bp, 1, none⟩ = some (.int .i64 ax) := ⟨HS.out.blk.cell 0 rfl, HS.out.blk.cell 1 rfl, HS.out.blk.cell 2 rfl, HS.out.blk.cell 3 rfl, HS.out.blk.cell 4 rfl, HS.out.blk.cell 5 rfl, HPB.out.blk.cell 0 rfl, HP.out.blk.cell 0 rfl, HP.out.blk.cell 1 rfl⟩
 clear hg
 go_wp2_with fail
 refine hK.out _ _ ?_ (fun hN => ?_)
 ·exact hcc
 clear hK K hH hcc
 have hH := hN; clear hN
 try simp only [Act.put, List.setIfInBounds_toArray, List.set_cons_zero, List.set_cons_succ, List.getElem_toArray, List.getElem_cons_succ, List.getElem_cons_zero]
 refine' wpAnyH_take (i := 13) (v := _) rfl (by kernel_rfl) (by kernel_rfl) (by kernel_rfl) (fun _ _ _ h => h) (Or.inl ⟨by rfl, ?thy1_11⟩) (by assumption) ?_
 case thy1_11 => (intro w hSw; (try dsimp only at hSw); go_simp; try with_reducible rfl)
 try simp only [Act.put, List.setIfInBounds_toArray, List.set_cons_zero, List.set_cons_succ, List.getElem_toArray, List.getElem_cons_succ, List.getElem_cons_zero]
 refine' wpAnyH_take (i := 14) (v := _) rfl (by kernel_rfl) (by kernel_rfl) (by kernel_rfl) (fun _ _ _ h => h) (Or.inl ⟨by rfl, ?thy1_12⟩) (by assumption) ?_
 case thy1_12 => (intro w hSw; (try dsimp only at hSw); go_simp; try with_reducible rfl)
 try simp only [Act.put, List.setIfInBounds_toArray, List.set_cons_zero, List.set_cons_succ, List.getElem_toArray, List.getElem_cons_succ, List.getElem_cons_zero]
 refine' wpAnyH_take (i := 15) (v := _) rfl (by kernel_rfl) (by kernel_rfl) (by kernel_rfl) (fun _ _ _ h => h) (Or.inl ⟨by rfl, ?thy1_13⟩) (by assumption) ?_
 case thy1_13 => (intro w hSw; (try dsimp only at hSw); go_simp; try with_reducible rfl)
 try simp only [Act.put, List.setIfInBounds_toArray, List.set_cons_zero, List.set_cons_succ, List.getElem_toArray, List.getElem_cons_succ, List.getElem_cons_zero]
 refine' wpAnyH_take (i := 16) (v := _) rfl (by kernel_rfl) (by kernel_rfl) (by kernel_rfl) (fun _ _ _ h => h) (Or.inl ⟨by rfl, ?thy1_14⟩) (by assumption) ?_
 case thy1_14 => (intro w hSw; (try dsimp only at hSw); go_simp; try with_reducible rfl)
 try simp only [Act.put, List.setIfInBounds_toArray, List.set_cons_zero, List.set_cons_succ, List.getElem_toArray, List.getElem_cons_succ, List.getElem_cons_zero]
 refine' wpAnyH_take (i := 17) (v := _) rfl (by kernel_rfl) (by kernel_rfl) (by kernel_rfl) (fun _ _ _ h => h) (Or.inl ⟨by rfl, ?thy1_15⟩) (by assumption) ?_
 case thy1_15 => (intro w hSw; (try dsimp only at hSw); go_simp; try with_reducible rfl)
 try simp only [Act.put, List.setIfInBounds_toArray, List.set_cons_zero, List.set_cons_succ, List.getElem_toArray, List.getElem_cons_succ, List.getElem_cons_zero]
 refine wpAnyH_done (by kernel_rfl) ?_ _
 go_wp2_with fail
 go_ret
 exact ⟨bb, rfl, HG3.out⟩
set_option maxHeartbeats 8000000 in
set_option maxRecDepth 100000 in
theorem fits2_any (k : Int) (ax sd : Int) (a : Option Addr) (len cap : Nat) (zs : List Int) (pb bp b : Nat) (w : World) (hp : Piece w bp b ax sd (.slice a len cap)) (hr : IsRow .i64 w a len zs) (hpb : Bx w pb 102 [.pointer (some ⟨bp, 0, none⟩)]) :
  Calls Tryz.prog 70 #[.int .i64 k, .pointer (some ⟨pb, 0, none⟩)] w fun e w' => ∃ bb, e = .returned (.bool bb) ∧ Gr w w' := by
 have hp' : Bx w bp 104 [.pointer (some ⟨b, 0, none⟩), .int .i64 ax, .int .i64 sd, .slice a len cap] := hp
 have c0 := hpb.blk.cell 0 rfl; have c3 := hp'.blk.cell 3 rfl; have lp := hp'.lt; have lpb := hpb.lt
 have HC := Lib.hid (contains_any a len cap zs k w hr)
 clear hp hp' hpb hr
 generalize zs.contains k = bb at *
 go_enter Tryz.func70, Tryz.ntmps70
 go_wp2_with fail
 refine (HC.out).mono ?_
 rintro e w2 ⟨rfl, rfl⟩
 go_wp2_with fail
 go_ret
 exact ⟨bb, rfl, Gr.refl _⟩
end Mt
end Go.Proofs.YtlfoglklibhbnaaGreat
namespace Go.Proofs.YtlfoglklibhbnaaGreat
open Go.RowKit
namespace Mt
attribute [local go_sem ↓] Go.wp_at_zero Go.wp_at_succ
theorem far6 {w : World} {s c i : Nat} {v0 v1 v2 v3 v4 v5 : Value} : ∀ (_ : Unit) (_ : Unit), s ≠ c → ((((((w.setCell ⟨s, 0, none⟩ v0).setCell ⟨s, 1, none⟩ v1).setCell ⟨s, 2, none⟩ v2).setCell ⟨s, 3, none⟩ v3).setCell ⟨s, 4, none⟩ v4).setCell ⟨s, 5, none⟩ v5).cell? ⟨c, i, none⟩ = w.cell? ⟨c, i, none⟩ := by
 intro _ _ h
 have ne : ∀ j, (⟨c, i, none⟩ : Addr) ≠ ⟨s, j, none⟩ := fun j e => by injection e with e; exact h e.symm
 have ne' : ∀ j, (⟨s, j, none⟩ : Addr) ≠ ⟨c, i, none⟩ := fun j e => ne j e.symm
 rw [World.cell?_setCell_other _ _ _ _ (by first | exact ne _ | exact ne' _), World.cell?_setCell_other _ _ _ _ (by first | exact ne _ | exact ne' _), World.cell?_setCell_other _ _ _ _ (by first | exact ne _ | exact ne' _), World.cell?_setCell_other _ _ _ _ (by first | exact ne _ | exact ne' _), World.cell?_setCell_other _ _ _ _ (by first | exact ne _ | exact ne' _), World.cell?_setCell_other _ _ _ _ (by first | exact ne _ | exact ne' _)]
def FitsP (d : MD) (ax sd i : Int) (zs : List Int) (w : World) (e : Ending) (w' : World) : Prop := ∃ bb, e = .returned (.bool bb) ∧ (bb = true → lookB d ax sd i = true ∧ zs.contains i = false) ∧ Gr w w'
theorem look_at {d : MD} {ax sd i : Int} (h : lookB d ax sd i = true) : ∃ n : Nat, i = n ∧ n < d.F.length := by
 unfold lookB at h
 rw [Bool.and_eq_true] at h
 have h2 := h.1
 unfold fcI at h2
 split at h2
 ·rename_i hc
  exact ⟨i.toNat, by omega, by omega⟩
 ·simp at h2
set_option maxHeartbeats 16000000 in
set_option maxRecDepth 100000 in
theorem fits_any (i : Int) (ax : Nat) (sd : Int) (hax : ax < 3) (a : Option Addr) (len cap : Nat) (zs : List Int) (bp b : Nat) (m : ML) (d : MD) (w : World) (h : IsM w m d) (hm : meshB d = true) (hl : d.F.length ≤ 1000) (hb : Body w b m) (hp : Piece w bp b ax sd (.slice a len cap)) (hr : IsRow .i64 w a len zs) (hz : ∀ z ∈ zs, ∃ k : Nat, z = k ∧ k < d.F.length) (hzl : len ≤ 1000000) :
  Calls Tryz.prog 36 #[.pointer (some ⟨bp, 0, none⟩), .int .i64 i] w (FitsP d ax sd i zs w) := by
 obtain ⟨V, hV⟩ : ∃ V, w.alloc (.cells #[.pointer (some ⟨bp, 0, none⟩)] 102) = V := ⟨_, rfl⟩
 obtain ⟨pb, hpb⟩ : ∃ pb, w.heap.size = pb := ⟨_, rfl⟩
 have hg : Gr w V := by rw [← hV]; exact (Gr.refl w).alloc _
 have hPB : Bx V pb 102 [.pointer (some ⟨bp, 0, none⟩)] := by rw [← hV]; exact Bx.new (vs := [.pointer (some ⟨bp, 0, none⟩)]) hpb.symm
 have hp' : Bx w bp 104 [.pointer (some ⟨b, 0, none⟩), .int .i64 ax, .int .i64 sd, .slice a len cap] := hp
 have hP := hp'.gr hg
 have HM := Lib.hid (h.later hg); have HMB := Lib.hid hm; have HL := Lib.hid hl; have HB := Lib.hid (Bx.gr hb hg); have HR := Lib.hid (hr.later hg); have HZ := Lib.hid hz; have HG := Lib.hid hg
 have HP := Lib.hid hP; have HPB := Lib.hid hPB
 have HLK := Lib.hid (looks_any i ax sd (.slice a len cap) bp b m d V (h.later hg) hm (Bx.gr hb hg) hP)
 have q0 := hPB.blk.cell 0 rfl; have lq := hPB.lt
 clear h hm hl hb hp hp' hr hz hP hPB hg
 generalize hlk : lookB d ax sd i = lk at *
 have HLB := Lib.hid hlk
 clear hlk
 go_enter Tryz.func36, Tryz.ntmps36
 go_wp2_with fail
 clear hV hpb
 refine (HLK.out).mono ?_
 rintro e w1 ⟨rfl, hg⟩
 have HG1 := Lib.hid (HG.out.trans hg); have hP1 := HP.out.gr hg; have hPB1 := HPB.out.gr hg
 have p0 := hP1.blk.cell 0 rfl; have p1 := hP1.blk.cell 1 rfl; have p3 := hP1.blk.cell 3 rfl; have lp := hP1.lt
 have HP1 := Lib.hid hP1; have HPB1 := Lib.hid hPB1
 have HV1 := Lib.hid hg
 clear q0 lq hP1 hPB1 hg HLK HP HPB
 have q0 := HPB1.out.blk.cell 0 rfl; have lq := HPB1.out.lt
 cases lk
 ·go_wp2_with fail
  go_ret
  exact ⟨false, rfl, (fun h => nomatch h), HG1.out⟩
 obtain ⟨n, rfl, hn⟩ := look_at HLB.out
 have HN := Lib.hid hn
 have HCN := Lib.hid (contains_any a len cap zs n w1 (HR.out.later HV1.out))
 clear hn
 generalize hcn : zs.contains (n : Int) = cn at *
 have HCC := Lib.hid hcn
 clear hcn
 go_wp2_with fail
 refine (HCN.out).mono ?_
 rintro e w2 ⟨rfl, rfl⟩
 clear HCN
 cases cn
 ·go_wp2_with fail
  have hS0 : Gr w1 w1 ∧ w1.cell? ⟨pb, 0, none⟩ = some (.pointer (some ⟨bp, 0, none⟩)) ∧ w1.cell? ⟨bp, 0, none⟩ = some (.pointer (some ⟨b, 0, none⟩)) ∧ w1.cell? ⟨bp, 1, none⟩ = some (.int .i64 ax) := ⟨Gr.refl _, q0, p0, p1⟩
  obtain ⟨u0, v0, u1, v1, u2, v2, es⟩ := shN_six d n ax
  have HSH := Lib.hid (show ∀ x, Gr w1 x → Calls Tryz.prog 25 #[.pointer (some ⟨b, 0, none⟩), .int .i64 n, .int .i64 ax] x fun e w' => e = .returned (.agg #[.int .i64 u0, .int .i64 v0, .int .i64 u1, .int .i64 v1, .int .i64 u2, .int .i64 v2]) ∧ Gr x w' from fun x g => by
   have := shadow_any n ax hax b m d x (HM.out.later (HV1.out.trans g)) HMB.out HN.out (Bx.gr HB.out (HV1.out.trans g))
   rw [es] at this
   exact this)
  clear es
  go_cut [5] (fun s5 wx => ∃ s, s5 = .pointer (some ⟨s, 0, none⟩) ∧ Bx wx s 39 [.int .i64 u0, .int .i64 v0, .int .i64 u1, .int .i64 v1, .int .i64 u2, .int .i64 v2] ∧ Gr w1 wx)
  case first =>
   refine wp_region_held_drew (S := fun w' => w'.cell? ⟨pb, 0, none⟩ = some (.pointer (some ⟨bp, 0, none⟩)) ∧ w'.cell? ⟨bp, 0, none⟩ = some (.pointer (some ⟨b, 0, none⟩)) ∧ w'.cell? ⟨bp, 1, none⟩ = some (.int .i64 ax)) (by kernel_rfl) ?_ (fun hH => ?_)
   ·exact ⟨q0, p0, p1⟩
   refine' wpAnyH_take (i := 0) (v := _) rfl (by kernel_rfl) (by kernel_rfl) (by kernel_rfl) (fun _ _ _ h => h) (Or.inl ⟨by rfl, ?thy1_0⟩) (by assumption) ?_
   case thy1_0 => (intro w hSw; (try dsimp only at hSw); go_simp; try with_reducible rfl)
   try simp only [Act.put, List.setIfInBounds_toArray, List.set_cons_zero, List.set_cons_succ, List.getElem_toArray, List.getElem_cons_zero]
   refine' wpAnyH_take (i := 1) (v := _) rfl (by kernel_rfl) (by kernel_rfl) (by kernel_rfl) (fun _ _ _ h => h) (Or.inl ⟨by rfl, ?thy1_1⟩) (by assumption) ?_
   case thy1_1 => (intro w hSw; (try dsimp only at hSw); go_simp; try with_reducible rfl)
   try simp only [Act.put, List.setIfInBounds_toArray, List.set_cons_zero, List.set_cons_succ, List.getElem_toArray, List.getElem_cons_succ, List.getElem_cons_zero]
   refine' wpAnyH_take (i := 2) (v := _) rfl (by kernel_rfl) (by kernel_rfl) (by kernel_rfl) (fun _ _ _ h => h) (Or.inl ⟨by rfl, ?thy1_2⟩) (by assumption) ?_
   case thy1_2 => (intro w hSw; (try dsimp only at hSw); go_simp; try with_reducible rfl)
   try simp only [Act.put, List.setIfInBounds_toArray, List.set_cons_zero, List.set_cons_succ, List.getElem_toArray, List.getElem_cons_succ, List.getElem_cons_zero]
   refine' wpAnyH_take (i := 3) (v := _) rfl (by kernel_rfl) (by kernel_rfl) (by kernel_rfl) (fun _ _ _ h => h) (Or.inl ⟨by rfl, ?thy1_3⟩) (by assumption) ?_
   case thy1_3 => (intro w hSw; (try dsimp only at hSw); go_simp; try with_reducible rfl)
   try simp only [Act.put, List.setIfInBounds_toArray, List.set_cons_zero, List.set_cons_succ, List.getElem_toArray, List.getElem_cons_succ, List.getElem_cons_zero]
   refine' wpAnyH_take (i := 4) (v := _) rfl (by kernel_rfl) (by kernel_rfl) (by kernel_rfl) (fun _ _ _ h => h) (Or.inl ⟨by rfl, ?thy1_4⟩) (by assumption) ?_
   case thy1_4 => (intro w hSw; (try dsimp only at hSw); go_simp; try with_reducible rfl)
   try simp only [Act.put, List.setIfInBounds_toArray, List.set_cons_zero, List.set_cons_succ, List.getElem_toArray, List.getElem_cons_succ, List.getElem_cons_zero]
   refine' wpAnyH_take (i := 5) (v := _) rfl (by kernel_rfl) (by kernel_rfl) (by kernel_rfl) (fun _ _ _ h => h) (Or.inl ⟨by rfl, ?thy1_5⟩) (by assumption) ?_
   case thy1_5 => (intro w hSw; (try dsimp only at hSw); go_simp; try with_reducible rfl)
   try simp only [Act.put, List.setIfInBounds_toArray, List.set_cons_zero, List.set_cons_succ, List.getElem_toArray, List.getElem_cons_succ, List.getElem_cons_zero]
   refine' wpAnyH_take (i := 6) (v := _) rfl (by kernel_rfl) (by kernel_rfl) (by kernel_rfl) (fun _ _ _ h => h) (Or.inl ⟨by rfl, ?thy1_6⟩) (by assumption) ?_
   case thy1_6 => (intro w hSw; (try dsimp only at hSw); go_simp; try with_reducible rfl)
   try simp only [Act.put, List.setIfInBounds_toArray, List.set_cons_zero, List.set_cons_succ, List.getElem_toArray, List.getElem_cons_succ, List.getElem_cons_zero]
   refine' wpAnyH_take (i := 7) (v := _) rfl (by kernel_rfl) (by kernel_rfl) (by kernel_rfl) (fun _ _ _ h => h) (Or.inl ⟨by rfl, ?thy1_7⟩) (by assumption) ?_
   case thy1_7 => (intro w hSw; (try dsimp only at hSw); go_simp; try with_reducible rfl)
   try simp only [Act.put, List.setIfInBounds_toArray, List.set_cons_zero, List.set_cons_succ, List.getElem_toArray, List.getElem_cons_succ, List.getElem_cons_zero]
   refine' wpAnyH_take (i := 8) (v := _) rfl (by kernel_rfl) (by kernel_rfl) (by kernel_rfl) (fun _ _ _ h => h) (Or.inl ⟨by rfl, ?thy1_8⟩) (by assumption) ?_
   case thy1_8 => (intro w hSw; (try dsimp only at hSw); go_simp; try with_reducible rfl)
   try simp only [Act.put, List.setIfInBounds_toArray, List.set_cons_zero, List.set_cons_succ, List.getElem_toArray, List.getElem_cons_succ, List.getElem_cons_zero]
   refine' wpAnyH_take (i := 9) (v := _) rfl (by kernel_rfl) (by kernel_rfl) (by kernel_rfl) (fun _ _ _ h => h) (Or.inl ⟨by rfl, ?thy1_9⟩) (by assumption) ?_
   case thy1_9 => (intro w hSw; (try dsimp only at hSw); go_simp; try with_reducible rfl)
   try simp only [Act.put, List.setIfInBounds_toArray, List.set_cons_zero, List.set_cons_succ, List.getElem_toArray, List.getElem_cons_succ, List.getElem_cons_zero]
   refine wpAnyH_ready (rs := [10, 11]) (by kernel_rfl) (by simp) ?_
   refine AllReadyH.cons rfl (fun K hK => ?_) (AllReadyH.cons rfl (fun K hK => ?_) AllReadyH.nil)
   ·go_simp
    go_at_call 25
    refine (HSH.out _ (Gr.refl _).drew).mono ?_
    rintro e x1 ⟨rfl, hg⟩
    have hgx1 := (Gr.refl w1).drew.trans hg
    have hc1 := (HPB1.out.gr hgx1).blk.cell 0 rfl; have hc2 := (HP1.out.gr hgx1).blk.cell 0 rfl; have hc3 := (HP1.out.gr hgx1).blk.cell 1 rfl
    have HGX1 := Lib.hid hgx1
    have lq1 := (HPB1.out.gr hgx1).lt; have lp1 := (HP1.out.gr hgx1).lt
    clear hgx1 hg
    go_wp2_with fail
    refine hK.out _ _ ?_ (fun hN => ?_)
    ·exact ⟨hc1, hc2, hc3⟩
    clear hc1 hc2 hc3
    clear hK K hH
    have hH := hN; clear hN
    try simp only [Act.put, List.setIfInBounds_toArray, List.set_cons_zero, List.set_cons_succ, List.getElem_toArray, List.getElem_cons_succ, List.getElem_cons_zero]
    refine wpAnyH_ready (rs := [11]) (by kernel_rfl) (by simp) ?_
    refine AllReadyH.cons rfl (fun K hK => ?_) AllReadyH.nil
    go_simp
    obtain ⟨X, hX⟩ : ∃ X, x1.alloc (.cells #[.int .i64 0, .int .i64 0, .int .i64 0, .int .i64 0, .int .i64 0, .int .i64 0] 39) = X := ⟨_, rfl⟩
    obtain ⟨s, hs⟩ : ∃ s, x1.heap.size = s := ⟨_, rfl⟩
    have hx : Bx X s 39 [.int .i64 0, .int .i64 0, .int .i64 0, .int .i64 0, .int .i64 0, .int .i64 0] := by rw [← hX]; exact Bx.new (vs := [.int .i64 0, .int .i64 0, .int .i64 0, .int .i64 0, .int .i64 0, .int .i64 0]) hs.symm
    have hgx : Gr w1 X := by rw [← hX]; exact HGX1.out.alloc _
    have hsw : w1.heap.size ≤ s := by have := HGX1.out.size; omega
    have hsq : pb < s := by omega
    have hsp : bp < s := by omega
    rw [hX, hs]
    refine hK.out _ _ ?_ (fun hN => ?_)
    ·rw [← hX]
     exact ⟨(World.cell?_alloc_past _ _ _ lq1).trans hH.1, (World.cell?_alloc_past _ _ _ lp1).trans hH.2.1, (World.cell?_alloc_past _ _ _ lp1).trans hH.2.2⟩
    clear hX hs
    clear hK K hH
    have hH := hN; clear hN
    try simp only [Act.put, List.setIfInBounds_toArray, List.set_cons_zero, List.set_cons_succ, List.getElem_toArray, List.getElem_cons_succ, List.getElem_cons_zero]
    have f0 := hx.blk.free 0 rfl; have f1 := hx.blk.free 1 rfl; have f2 := hx.blk.free 2 rfl; have f3 := hx.blk.free 3 rfl; have f4 := hx.blk.free 4 rfl; have f5 := hx.blk.free 5 rfl
    have o0 := hx.blk.cell 0 rfl; have o1 := hx.blk.cell 1 rfl; have o2 := hx.blk.cell 2 rfl; have o3 := hx.blk.cell 3 rfl; have o4 := hx.blk.cell 4 rfl; have o5 := hx.blk.cell 5 rfl
    have lx := hx.lt
    have HX := Lib.hid hx; have HGX := Lib.hid hgx
    clear hx hgx
    refine wpAnyH_ready (rs := [12]) (by kernel_rfl) (by simp) ?_
    refine AllReadyH.cons rfl (fun K hK => ?_) AllReadyH.nil
    go_simp
    refine hK.out _ _ ?_ (fun hN => ?_)
    ·refine ⟨?_, ?_, ?_⟩
     ·rw [far6 () () (by omega)]; exact hH.1
     ·rw [far6 () () (by omega)]; exact hH.2.1
     ·rw [far6 () () (by omega)]; exact hH.2.2
    clear hK K hH
    have hH := hN; clear hN
    try simp only [Act.put, List.setIfInBounds_toArray, List.set_cons_zero, List.set_cons_succ, List.getElem_toArray, List.getElem_cons_succ, List.getElem_cons_zero]
    refine wpAnyH_done (by kernel_rfl) ?_ _
    go_wp2_with fail
    go_meet
    case rel => exact ⟨s, rfl, bx_seti (bx_seti (bx_seti (bx_seti (bx_seti (bx_seti HX.out 0 (.int .i64 u0)) 1 (.int .i64 v0)) 2 (.int .i64 u1)) 3 (.int .i64 v1)) 4 (.int .i64 u2)) 5 (.int .i64 v2), (((((HGX.out.setCell (by simp; omega) _).setCell (by simp; omega) _).setCell (by simp; omega) _).setCell (by simp; omega) _).setCell (by simp; omega) _).setCell (by simp; omega) _⟩
   ·go_simp
    obtain ⟨X, hX⟩ : ∃ X, w1.drew.alloc (.cells #[.int .i64 0, .int .i64 0, .int .i64 0, .int .i64 0, .int .i64 0, .int .i64 0] 39) = X := ⟨_, rfl⟩
    obtain ⟨s, hs⟩ : ∃ s, w1.heap.size = s := ⟨_, rfl⟩
    have hx1 : Bx X s 39 [.int .i64 0, .int .i64 0, .int .i64 0, .int .i64 0, .int .i64 0, .int .i64 0] := by rw [← hX]; exact Bx.new (w := w1.drew) (vs := [.int .i64 0, .int .i64 0, .int .i64 0, .int .i64 0, .int .i64 0, .int .i64 0]) hs.symm
    have hgx1 : Gr w1 X := by rw [← hX]; exact (Gr.refl w1).drew.alloc _
    have hsw : w1.heap.size ≤ s := by omega
    have hsq : pb < s := by omega
    have hsp : bp < s := by omega
    rw [show (w1.alloc (.cells #[.int .i64 0, .int .i64 0, .int .i64 0, .int .i64 0, .int .i64 0, .int .i64 0] 39)).drew = X from hX]
    refine hK.out _ _ ?_ (fun hN => ?_)
    ·exact ⟨(HPB1.out.gr hgx1).blk.cell 0 rfl, (HP1.out.gr hgx1).blk.cell 0 rfl, (HP1.out.gr hgx1).blk.cell 1 rfl⟩
    have HX1 := Lib.hid hx1; have HGX1 := Lib.hid hgx1
    clear hX hx1 hgx1
    clear hK K hH
    have hH := hN; clear hN
    try simp only [Act.put, List.setIfInBounds_toArray, List.set_cons_zero, List.set_cons_succ, List.getElem_toArray, List.getElem_cons_succ, List.getElem_cons_zero]
    refine wpAnyH_ready (rs := [10]) (by kernel_rfl) (by simp) ?_
    refine AllReadyH.cons rfl (fun K hK => ?_) AllReadyH.nil
    go_simp
    go_at_call 25
    refine (HSH.out _ HGX1.out).mono ?_
    rintro e x1 ⟨rfl, hg⟩
    have hx := HX1.out.gr hg
    have hgx := HGX1.out.trans hg
    go_wp2_with fail
    refine hK.out _ _ ?_ (fun hN => ?_)
    ·exact ⟨(HPB1.out.gr hgx).blk.cell 0 rfl, (HP1.out.gr hgx).blk.cell 0 rfl, (HP1.out.gr hgx).blk.cell 1 rfl⟩
    clear hg
    clear hK K hH
    have hH := hN; clear hN
    try simp only [Act.put, List.setIfInBounds_toArray, List.set_cons_zero, List.set_cons_succ, List.getElem_toArray, List.getElem_cons_succ, List.getElem_cons_zero]
    have f0 := hx.blk.free 0 rfl; have f1 := hx.blk.free 1 rfl; have f2 := hx.blk.free 2 rfl; have f3 := hx.blk.free 3 rfl; have f4 := hx.blk.free 4 rfl; have f5 := hx.blk.free 5 rfl
    have o0 := hx.blk.cell 0 rfl; have o1 := hx.blk.cell 1 rfl; have o2 := hx.blk.cell 2 rfl; have o3 := hx.blk.cell 3 rfl; have o4 := hx.blk.cell 4 rfl; have o5 := hx.blk.cell 5 rfl
    have lx := hx.lt
    have HX := Lib.hid hx; have HGX := Lib.hid hgx
    clear hx hgx
    refine wpAnyH_ready (rs := [12]) (by kernel_rfl) (by simp) ?_
    refine AllReadyH.cons rfl (fun K hK => ?_) AllReadyH.nil
    go_simp
    refine hK.out _ _ ?_ (fun hN => ?_)
    ·refine ⟨?_, ?_, ?_⟩
     ·rw [far6 () () (by omega)]; exact hH.1
     ·rw [far6 () () (by omega)]; exact hH.2.1
     ·rw [far6 () () (by omega)]; exact hH.2.2
    clear hK K hH
    have hH := hN; clear hN
    try simp only [Act.put, List.setIfInBounds_toArray, List.set_cons_zero, List.set_cons_succ, List.getElem_toArray, List.getElem_cons_succ, List.getElem_cons_zero]
    refine wpAnyH_done (by kernel_rfl) ?_ _
    go_wp2_with fail
    go_meet
    case rel => exact ⟨s, rfl, bx_seti (bx_seti (bx_seti (bx_seti (bx_seti (bx_seti HX.out 0 (.int .i64 u0)) 1 (.int .i64 v0)) 2 (.int .i64 u1)) 3 (.int .i64 v1)) 4 (.int .i64 u2)) 5 (.int .i64 v2), (((((HGX.out.setCell (by simp; omega) _).setCell (by simp; omega) _).setCell (by simp; omega) _).setCell (by simp; omega) _).setCell (by simp; omega) _).setCell (by simp; omega) _⟩
  case rest =>
   obtain ⟨s, rfl, hs, hg⟩ := hcut
   have hPc := HP1.out.gr hg; have hQc := HPB1.out.gr hg
   have HGc := Lib.hid (HG1.out.trans hg); have HVc := Lib.hid (HV1.out.trans hg)
   have HOV := Lib.hid (con_ov (fun _ _ => True) (.pointer (some ⟨s, 0, none⟩)) (.pointer (some ⟨pb, 0, none⟩)) a len cap zs wc (HR.out.later (HV1.out.trans hg)) hzl (fun j hj w1 g1 => by
    obtain ⟨k, e, hk⟩ := HZ.out (zs.getD j 0) (by rw [List.getD_eq_getElem?_getD, List.getElem?_eq_getElem (by rw [HR.out.1]; exact hj)]; exact List.getElem_mem _)
    rw [e]
    exact (fits1_any k ax sd hax _ s pb bp b m d u0 v0 u1 v1 u2 v2 w1 (HM.out.later (HVc.out.trans g1)) HMB.out hk (Bx.gr HB.out (HVc.out.trans g1)) (Bx.gr hPc g1) (hs.gr g1) (hQc.gr g1)).mono fun e w' ⟨bb, h1, h2⟩ => ⟨bb, h1, trivial, h2⟩))
   have HPc := Lib.hid hPc; have HQc := Lib.hid hQc
   clear q0 lq p0 p1 p3 lp
   have q0 := hQc.blk.cell 0 rfl; have p0 := hPc.blk.cell 0 rfl; have p3 := hPc.blk.cell 3 rfl; have lq := hQc.lt; have lp := hPc.lt; have ls := hs.lt
   clear hPc hQc hs hg HSH
   go_wp2_with fail
   refine (HOV.out).mono ?_
   rintro e w3 ⟨ov, rfl, -, hg⟩
   have hP3 := HPc.out.gr hg; have hQ3 := HQc.out.gr hg; have hB3 : Body w3 b m := Bx.gr HB.out (HVc.out.trans hg)
   have HG3 := Lib.hid (HGc.out.trans hg); have HV3 := Lib.hid (HVc.out.trans hg)
   clear q0 lq p0 p3 lp ls HOV hg
   cases ov
   ·have HP3 := Lib.hid hP3; have HQ3 := Lib.hid hQ3
    obtain ⟨⟨av, lv, cv⟩, ⟨at', lt, ct⟩, ⟨an, ln, cn⟩, ⟨af, lf, cf⟩⟩ := m
    have hB3' : Bx w3 b 125 [.slice av lv cv, .slice at' lt ct, .slice an ln cn, .slice af lf cf] := hB3
    have q0 := hQ3.blk.cell 0 rfl; have p0 := hP3.blk.cell 0 rfl; have p3 := hP3.blk.cell 3 rfl; have lq := hQ3.lt; have lp := hP3.lt
    have b0 := hB3'.blk.cell 0 rfl; have b1 := hB3'.blk.cell 1 rfl; have b2 := hB3'.blk.cell 2 rfl; have b3 := hB3'.blk.cell 3 rfl; have lb := hB3'.lt
    have HNX := Lib.hid (next_any ⟨⟨av, lv, cv⟩, ⟨at', lt, ct⟩, ⟨an, ln, cn⟩, ⟨af, lf, cf⟩⟩ d n w3 (HM.out.later HV3.out) HMB.out HN.out HL.out)
    unfold ML.val SL.v at HNX
    clear hP3 hQ3 hB3 hB3'
    go_wp2_with fail
    refine (HNX.out).mono ?_
    rintro e w4 ⟨a4, cap4, ns, rfl, hr4, hl4, hg⟩
    have hP4 := HP3.out.gr hg; have hQ4 := HQ3.out.gr hg
    have HG4 := Lib.hid (HG3.out.trans hg)
    have HNB := Lib.hid (con_nb (fun _ _ => True) (.pointer (some ⟨pb, 0, none⟩)) a4 ns.length cap4 ns w4 hr4 (by omega) (fun j hj w1 g1 =>
     (fits2_any (ns.getD j 0) ax sd a len cap zs pb bp b w1 (Bx.gr hP4 g1) (HR.out.later ((HV3.out.trans hg).trans g1)) (hQ4.gr g1)).mono fun e w' ⟨bb, h1, h2⟩ => ⟨bb, h1, trivial, h2⟩))
    clear q0 lq p0 p3 lp b0 b1 b2 b3 lb HNX hr4 hl4 hg
    have q0 := hQ4.blk.cell 0 rfl; have p3 := hP4.blk.cell 3 rfl; have lq := hQ4.lt; have lp := hP4.lt
    clear hP4 hQ4
    by_cases h0 : len = 0
    ·subst h0
     go_wp2_with fail
     go_ret
     exact ⟨true, rfl, fun _ => ⟨HLB.out, HCC.out⟩, HG4.out⟩
    ·have h00 : ((len : Int) == 0) = false := by simpa using h0
     have h01 : (len == 0) = false := by simpa using h0
     clear h0
     go_wp2_with fail
     refine (HNB.out).mono ?_
     rintro e w5 ⟨nb, rfl, -, hg⟩
     have HG5 := Lib.hid (HG4.out.trans hg)
     clear hg HNB q0 p3 lq lp
     go_wp2_with fail
     go_ret
     exact ⟨nb, rfl, fun _ => ⟨HLB.out, HCC.out⟩, HG5.out⟩
   ·clear hP3 hQ3 hB3
    go_wp2_with fail
    go_ret
    exact ⟨false, rfl, (fun h => nomatch h), HG3.out⟩
 ·go_wp2_with fail
  go_ret
  exact ⟨false, rfl, (fun h => nomatch h), HG1.out⟩
end Mt
end Go.Proofs.YtlfoglklibhbnaaGreat
namespace Go.Proofs.YtlfoglklibhbnaaGreat
open Go.RowKit
namespace Mt
structure CH where
 ax : Int
 sd : Int
 a : Option Addr
 cap : Nat
 tris : List Int
def CH.vs (c : CH) : List Value := [.int .i64 c.ax, .int .i64 c.sd, .slice c.a c.tris.length c.cap]
def chv (cs : List CH) : List Value := cs.flatMap CH.vs
theorem chv_snoc (cs : List CH) (c : CH) : chv (cs ++ [c]) = chv cs ++ c.vs := by simp [chv]
theorem chv_get : ∀ (cs : List CH) (i : Nat) (h : i < cs.length) (j : Nat), j < 3 → (chv cs)[i * 3 + j]? = (cs[i]).vs[j]?
 | [], i, h, _, _ => by simp at h
 | c :: cs, i, h, j, hj => by
  have e : chv (c :: cs) = c.vs ++ chv cs := rfl
  have hl : c.vs.length = 3 := rfl
  rw [e]
  cases i with
  | zero => rw [List.getElem?_append_left (by omega)]; simp
  | succ i =>
   rw [List.getElem?_append_right (by omega), hl, show (i + 1) * 3 + j - 3 = i * 3 + j by omega]
   simpa using chv_get cs i (by simpa using h) j hj
def ChOk (w : World) (No : Nat → Prop) (c : CH) : Prop := IsRow .i64 w c.a c.tris.length c.tris ∧ ∀ ad : Addr, c.a = some ad → ¬ No ad.block ∧ ad.block < w.heap.size
theorem ChOk.ks {S : Nat → Prop} {w w' : World} {No : Nat → Prop} {c : CH} (h : ChOk w No c) (hk : Ks S w w') (hS : ∀ k, S k → No k ∨ w.heap.size ≤ k) : ChOk w' No c := by
 obtain ⟨h1, h2⟩ := h
 refine ⟨?_, fun ad e => ⟨(h2 ad e).1, Nat.lt_of_lt_of_le (h2 ad e).2 hk.size⟩⟩
 obtain ⟨q1, q2, q3, q4⟩ := h1
 refine ⟨q1, q2, q3, fun hl => ?_⟩
 obtain ⟨b, off, e, hc⟩ := q4 hl
 have hb := h2 ⟨b, off, none⟩ e
 refine ⟨b, off, e, fun i hi => ?_⟩
 rw [hk.cell (p := ⟨b, off + i, none⟩) hb.2 (fun hs => (hS _ hs).elim hb.1 (fun h => by have := hb.2; simp at h this; omega))]
 exact hc i hi
theorem ChOk.reno {w : World} {No No' : Nat → Prop} {c : CH} (h : ChOk w No c) (hn : ∀ k, No' k → No k ∨ w.heap.size ≤ k) : ChOk w No' c :=
 ⟨h.1, fun ad e => ⟨fun hN => (hn _ hN).elim (h.2 ad e).1 (fun h' => by have := (h.2 ad e).2; omega), (h.2 ad e).2⟩⟩
def ChRows (w : World) (a : Option Addr) (cs : List CH) : Prop :=
 (0 < cs.length → ∃ b off, a = some ⟨b, off, none⟩ ∧ ∀ i (h : i < cs.length) j v, (cs[i]).vs[j]? = some v → w.cell? ⟨b, off + (i * 3 + j), none⟩ = some v) ∧ ∀ c ∈ cs, IsRow .i64 w c.a c.tris.length c.tris
theorem ChRows.later {w w' : World} {a : Option Addr} {cs : List CH} (h : ChRows w a cs) (g : Gr w w') : ChRows w' a cs := by
 refine ⟨fun hl => ?_, fun c hc => (h.2 c hc).later g⟩
 obtain ⟨b, off, e, hc⟩ := h.1 hl
 exact ⟨b, off, e, fun i hi j v hv => by rw [g.cell (lt_of_cell (hc i hi j v hv))]; exact hc i hi j v hv⟩
theorem vs_lt {c : CH} {j : Nat} {v : Value} (h : c.vs[j]? = some v) : j < 3 := (List.getElem?_eq_some_iff.1 h).1
theorem ch_rows {w : World} {base : Nat} {v : Value} {cs : List CH} (h : w.ownsRow base 60 3 v cs.length (chv cs)) (hc : ∀ c ∈ cs, IsRow .i64 w c.a c.tris.length c.tris) : ∃ a cap, v = .slice a cs.length cap ∧ ChRows w a cs := by
 have h' := h
 obtain ⟨h1, h2⟩ := h
 rcases h2 with ⟨hv, h0⟩ | ⟨g, cap, cur, hv, hb, hh, hnc, hrest⟩
 ·exact ⟨none, 0, by rw [hv, h0], fun hl => by omega, hc⟩
 ·refine ⟨some ⟨g, 0, none⟩, cap, hv, fun _ => ⟨g, 0, rfl, fun i hi j v' hj => ?_⟩, hc⟩
  have hcell : ∀ j u, (chv cs)[j]? = some u → w.cell? ((⟨g, 0, none⟩ : Addr).add j) = some u := World.ownsRow.cells h' (by rw [hv]; rfl)
  have := hcell (i * 3 + j) v' (by rw [chv_get cs i hi j (vs_lt hj)]; exact hj)
  rwa [add_none] at this
def faces (d : MD) : Nat → List Int
 | 0 => []
 | k + 1 => faces d k ++ (if fcI 2 d k == 0 then [(k : Int)] else [])
theorem faces_mem {d : MD} : ∀ {k : Nat} {z : Int}, z ∈ faces d k ↔ ∃ n : Nat, z = n ∧ n < k ∧ (fcI 2 d n == 0) = true
 | 0, z => by simp [faces]
 | k + 1, z => by
  unfold faces
  rw [List.mem_append, faces_mem (k := k)]
  constructor
  ·rintro (⟨n, e, h1, h2⟩ | h)
   ·exact ⟨n, e, by omega, h2⟩
   ·split at h
    ·rename_i hc
     simp at h; exact ⟨k, h, by omega, hc⟩
    ·simp at h
  ·rintro ⟨n, e, h1, h2⟩
   by_cases hk : n = k
   ·subst hk; right; rw [if_pos h2]; simp [e]
   ·exact .inl ⟨n, e, by omega, h2⟩
theorem faces_len (d : MD) : ∀ k, (faces d k).length ≤ k
 | 0 => by simp [faces]
 | k + 1 => by unfold faces; rw [List.length_append]; have := faces_len d k; split <;> simp <;> omega
theorem faces_nodup (d : MD) : ∀ k, (faces d k).Nodup
 | 0 => by simp [faces]
 | k + 1 => by
  unfold faces
  rw [List.nodup_append]
  refine ⟨faces_nodup d k, by split <;> simp, fun a ha b hb e => ?_⟩
  subst e
  obtain ⟨n, e, h1, _⟩ := faces_mem.1 ha
  split at hb
  ·simp at hb; omega
  ·simp at hb
def GrowOk (d : MD) (cs : List CH) : Prop := (cs.flatMap CH.tris).Perm (faces d d.F.length) ∧ ∀ c ∈ cs, c.tris ≠ [] ∧ 0 ≤ c.ax ∧ c.ax < 3 ∧ ∀ t ∈ c.tris, lookB d c.ax c.sd t = true
end Mt
end Go.Proofs.YtlfoglklibhbnaaGreat
namespace Go.Proofs.YtlfoglklibhbnaaGreat
open Go.RowKit
namespace Mt
attribute [local go_sem ↓] Go.wp_at_zero Go.wp_at_succ
theorem infoChart : (Tryz.prog.info? 60).map (fun i => (i.zero, i.size, i.bytes)) = some (some (.agg #[.int .i64 0, .int .i64 0, .slice none 0 0]), 3, 40) := by kernel_rfl
def slen : Value → Nat
 | .slice _ n _ => n
 | _ => 0
def FreeOk (base : Nat) (w : World) (v : Value) (fs : List Int) : Prop := ∃ a cap, v = .slice a fs.length cap ∧ fs.length ≤ cap ∧ cap ≤ maxLen ∧ (0 < fs.length → ∃ g, a = some ⟨g, 0, none⟩ ∧ base ≤ g ∧ Blk w g (fs.map (Value.int .i64)))
theorem blk_left {w : World} {g : Nat} {xs ys : List Value} (h : Blk w g (xs ++ ys)) : Blk w g xs := by
 refine ⟨h.1, fun i v hi => h.2 i v ?_⟩
 rw [List.getElem?_append_left (List.getElem?_eq_some_iff.1 hi).1]; exact hi
theorem own_ks2 {w w' : World} {S : Nat → Prop} {base : Nat} {e : TypeId} {size : Nat} {v : Value} {n : Nat} {xs : List Value} (h : w.ownsRow base e size v n xs) (hk : Ks S w w') (hS : ∀ k, v.ownBlock = some k → ¬ S k) : w'.ownsRow base e size v n xs := by
 obtain ⟨h1, h2⟩ := h
 refine ⟨h1, ?_⟩
 rcases h2 with h2 | ⟨g, cap, cur, hv, hb, hh, hr⟩
 ·exact .inl h2
 ·have hlt : g < w.heap.size := (Array.getElem?_eq_some_iff.1 hh).1
  exact .inr ⟨g, cap, cur, hv, hb, (hk.block g hlt (hS g (by rw [hv]; rfl))).trans hh, hr⟩
theorem ks_grown2 {w w' : World} {row : Option Nat} (h : w.grownBy w' row) : Ks (fun k => row = some k) w w' := ⟨h.os, h.tape, h.output, h.size, fun k hk hs => h.block k hk (fun e => hs e.symm)⟩
theorem perm_cut {l : List Int} {q : Nat} (h : q < l.length) : (l.getD q 0 :: (l.take q ++ l.drop (q + 1))).Perm l := by
 have e : l.getD q 0 = l[q] := by simp [List.getD, h]
 have h2 : l = l.take q ++ l[q] :: l.drop (q + 1) := by rw [← List.drop_eq_getElem_cons h, List.take_append_drop]
 rw [e]
 conv => rhs; rw [h2]
 exact List.perm_middle.symm
theorem Ks.mono' {S T : Nat → Prop} {a b : World} (h : Ks S a b) (hs : ∀ k, S k → T k) : Ks T a b := ⟨h.os, h.tape, h.output, h.size, fun k hk hT => h.block k hk (fun h' => hT (hs k h'))⟩
theorem ks_set {w : World} {p : Addr} {v : Value} {g : Nat} (h : p.block = g) : Ks (fun k => k = g) w (w.setCell p v) :=
 ⟨rfl, rfl, rfl, by simp [World.setCell], fun k _ hk => Below.heap_setCell w p v k (fun e => hk (by rw [e]; exact h))⟩
theorem Fa_owns {w w' : World} {base : Nat} {e : TypeId} {size : Nat} {v : Value} {n : Nat} {xs : List Value} (h : w.ownsRow base e size v n xs) (hg : Gr w w') : w'.ownsRow base e size v n xs := own_ks2 h (Ks.of_gr (S := fun _ => False) hg) (fun _ _ h => h)
theorem fc_ax (d : MD) (i : Int) : 0 ≤ fcI 0 d i ∧ fcI 0 d i < 3 := by
 unfold fcI
 split
 ·show 0 ≤ (if (ptsN d i.toNat).all Sx.ss && !Sx.flat0 (ptsN d i.toNat) then Sx.faceA (ptsN d i.toNat) else 0) ∧ (if (ptsN d i.toNat).all Sx.ss && !Sx.flat0 (ptsN d i.toNat) then Sx.faceA (ptsN d i.toNat) else 0) < 3
  split
  ·unfold Sx.faceA Sx.axis; split <;> split <;> omega
  ·omega
 ·simp
theorem look_self {d : MD} {n : Nat} (h : (fcI 2 d n == 0) = true) : lookB d (fcI 0 d n) (fcI 1 d n) n = true := by
 unfold lookB; rw [h]; simp
def GrowP (d : MD) (w : World) (e : Ending) (w' : World) : Prop := ∃ a cap cs, e = .returned (.tuple #[.slice a cs.length cap, .int .i64 0]) ∧ cs.length ≤ d.F.length ∧ ChRows w' a cs ∧ GrowOk d cs ∧ Gr w w'
set_option maxHeartbeats 8000000 in
set_option maxRecDepth 100000 in
theorem grow_any (m : ML) (d : MD) (w : World) (h : IsM w m d) (ht : tameB d = true) (hl : d.F.length ≤ 1000) :
  Calls Tryz.prog 17 #[m.val] w (GrowP d w) := by
 obtain ⟨i0, hi, hz0, hz1, hz2⟩ := info_parts infoInt
 obtain ⟨j0, hj, hy0, hy1, hy2⟩ := info_parts infoChart
 have HMD := Lib.hid h; have HT := Lib.hid ht
 have HMB := Lib.hid (tame_mesh ht)
 obtain ⟨⟨av, lv, cv⟩, ⟨at', lt, ct⟩, ⟨an, ln, cn⟩, ⟨af, lf, cf⟩⟩ := m
 have hlf : d.F.length = lf := h.f.1
 rw [hlf] at hl
 have HLF := Lib.hid hlf
 have hB : Bx (w.alloc (.cells #[.slice av lv cv, .slice at' lt ct, .slice an ln cn, .slice af lf cf] 26)) w.heap.size 26 [.slice av lv cv, .slice at' lt ct, .slice an ln cn, .slice af lf cf] := Bx.new (vs := [.slice av lv cv, .slice at' lt ct, .slice an ln cn, .slice af lf cf]) rfl
 have hG : Gr w (w.alloc (.cells #[.slice av lv cv, .slice at' lt ct, .slice an ln cn, .slice af lf cf] 26)) := (Gr.refl w).alloc _
 have HO := Lib.hid (open_any ⟨⟨av, lv, cv⟩, ⟨at', lt, ct⟩, ⟨an, ln, cn⟩, ⟨af, lf, cf⟩⟩ d _ (h.later hG))
 have c0 := hB.blk.cell 0 rfl; have c1 := hB.blk.cell 1 rfl; have c2 := hB.blk.cell 2 rfl; have c3 := hB.blk.cell 3 rfl
 have HB := Lib.hid hB; have HG := Lib.hid hG
 rw [ht] at HO
 clear h ht hlf hB hG
 unfold ML.val SL.v
 unfold ML.val SL.v at HO
 go_enter Tryz.func17, Tryz.ntmps17
 go_wp2_with fail
 refine (HO.out).mono ?_
 rintro e w1 ⟨b, rfl, hb, hge, hg⟩
 have hB1 := HB.out.gr hg
 have c3' := hB1.blk.cell 3 rfl
 have HBD := Lib.hid (show Body w1 b ⟨⟨av, lv, cv⟩, ⟨at', lt, ct⟩, ⟨an, ln, cn⟩, ⟨af, lf, cf⟩⟩ from hb)
 have HG1 := Lib.hid (HG.out.trans hg)
 clear c0 c1 c2 c3 hB1 hg hge hb HO HB HG
 have hM1 : IsM w1 ⟨⟨av, lv, cv⟩, ⟨at', lt, ct⟩, ⟨an, ln, cn⟩, ⟨af, lf, cf⟩⟩ d := HMD.out.later HG1.out
 have HM1 := Lib.hid hM1
 clear hM1
 obtain ⟨M, hM⟩ : ∃ M : ML, (⟨⟨av, lv, cv⟩, ⟨at', lt, ct⟩, ⟨an, ln, cn⟩, ⟨af, lf, cf⟩⟩ : ML) = M := ⟨_, rfl⟩
 rw [hM] at HBD HM1
 clear hM HMD
 go_wp2_with fail
 go_loopw [6, 25] (fun v6 v25 wr => ∃ k : Nat, k ≤ lf ∧ v25 = .int .i64 k ∧ wr.ownsRow w1.heap.size 3 1 v6 (faces d k).length ((faces d k).map (Value.int .i64)) ∧ Gr w1 wr) (fun _ v25 _ => lf - (intOf v25).toNat)
 case atStart => exact ⟨0, Nat.zero_le _, rfl, World.ownsRow_nil _ _ _ _, Gr.refl _⟩
 case round =>
  clear c3'
  obtain ⟨k, hk, rfl, hown, hg⟩ := hrel
  obtain ⟨a6, cap6, rfl⟩ := own_slice hown
  have HOW := Lib.hid hown; have HG := Lib.hid hg
  clear hown hg
  by_cases hlt : k < lf
  ·have HW := Lib.hid (way_any (k : Int) b M d wr (HM1.out.later HG.out) HMB.out (Bx.gr HBD.out HG.out))
   have hfl := faces_len d k
   have hfs : faces d (k + 1) = faces d k ++ (if fcI 2 d k == 0 then [(k : Int)] else []) := rfl
   have HFS := Lib.hid hfs
   clear hfs
   generalize fcI 0 d (k : Int) = r0 at *
   generalize fcI 1 d (k : Int) = r1 at *
   generalize hr2 : (fcI 2 d (k : Int) == 0) = ok at *
   clear hr2
   go_wp2_with fail
   refine (HW.out).mono ?_
   rintro e w2 ⟨rfl, hg⟩
   have hg2 : Gr w1 (w2.alloc (.cells #[.int .i64 r0, .int .i64 r1] 79)) := (HG.out.trans hg).alloc _
   have ho2 := Fa_owns (Fa_owns HOW.out hg) ((Gr.refl w2).alloc (.cells #[.int .i64 r0, .int .i64 r1] 79))
   have HG2 := Lib.hid hg2; have HO2 := Lib.hid ho2
   clear hg hg2 ho2 HW
   cases ok
   ·go_wp2_with fail
    go_roundw
    case rel =>
     refine ⟨k + 1, by omega, by go_num, ?_, HG2.out⟩
     rw [HFS.out]; simpa using HO2.out
    case measure => simp [intOf]; omega
   ·go_wp2_with (first
     | (at_builtin; go_loud (refine wpList_append_own _ rfl (.tmp 35) (.tmp 37) 50 rfl w1.heap.size 3 i0 (.int .i64 0) 1 8 Tryz.underlying50 hi hz0 hz1 hz2 rfl (by decide) (.slice a6 (faces d k).length cap6) (faces d k).length ((faces d k).map (Value.int .i64)) (by rfl) (HO2.out.alloc _) ⟨w2.heap.size + 1, 0, none⟩ 1 1 [.int .i64 k] (by rfl) rfl (by simpa using World.news_of_block (World.alloc_heap_new (w2.alloc (.cells #[.int .i64 r0, .int .i64 r1] 79)) (.cells #[.int .i64 k] 3))) ?c3 ?c4 ?c5 ?c6 ?_)))
    case c3 => intro u hu; simp at hu; subst hu; rfl
    case c4 => unfold maxLen; omega
    case c5 => omega
    case c6 => have := HG2.out.size; simp at *; omega
    intro v' w3 hown3 hgrow _
    have hg3 : Gr w1 w3 := Below.grown (HG2.out.alloc _) hgrow (HG2.out.alloc _).size (fun j hj => (HO2.out.lt j hj).1)
    have HO3 := Lib.hid hown3; have HG3 := Lib.hid hg3
    clear hown3 hgrow hg3
    go_wp2_with fail
    go_roundw
    case rel =>
     refine ⟨k + 1, by omega, by go_num, ?_, HG3.out⟩
     rw [HFS.out, if_pos trivial, List.length_append, List.map_append]; exact HO3.out
    case measure => simp [intOf]; omega
  ·have hkl : k = lf := by omega
   subst hkl
   have hfl := faces_len d k
   have hF0 : FreeOk w1.heap.size wr (.slice a6 (faces d k).length cap6) (faces d k) := by
    refine ⟨a6, cap6, rfl, (own_cap HOW.out).1, (own_cap HOW.out).2, fun hp => ?_⟩
    obtain ⟨g, c, e, hgb, _⟩ := HOW.out.form hp
    cases e
    exact ⟨g, rfl, hgb, own_blk HOW.out⟩
   have HF0 := Lib.hid hF0
   clear hF0 HOW hlt
   go_wp2_with fail
   go_loopw [6, 10] (fun v6 v10 wx => ∃ (fs : List Int) (cs : List CH), FreeOk w1.heap.size wx v6 fs ∧ wx.ownsRow w1.heap.size 60 3 v10 cs.length (chv cs) ∧ (v10.ownBlock = none ∨ v10.ownBlock ≠ v6.ownBlock) ∧ (∀ c ∈ cs, ChOk wx (fun q => v10.ownBlock = some q ∨ v6.ownBlock = some q) c) ∧ (cs.flatMap CH.tris ++ fs).Perm (faces d k) ∧ (∀ c ∈ cs, c.tris ≠ [] ∧ 0 ≤ c.ax ∧ c.ax < 3 ∧ ∀ t ∈ c.tris, lookB d c.ax c.sd t = true) ∧ cs.length + fs.length ≤ k ∧ Gr w1 wx) (fun v6 _ _ => slen v6)
   case atStart => exact ⟨faces d k, [], HF0.out, World.ownsRow_nil _ _ _ _, .inl rfl, (fun c hc => nomatch hc), List.Perm.refl _, (fun c hc => nomatch hc), by simpa using hfl, HG.out⟩
   case round =>
    clear HF0 HG hfl
    obtain ⟨fs, cs, hfr, hown, hsep, hch, hpm, hlk, hln, hg⟩ := hrel
    obtain ⟨af', capf, rfl, hcf, hcm, hblk⟩ := hfr
    obtain ⟨a10, cap10, rfl⟩ := own_slice hown
    have HCM := Lib.hid hcm; have HCF := Lib.hid hcf
    have HOW := Lib.hid hown; have HSEP := Lib.hid hsep; have HCH := Lib.hid hch; have HPM := Lib.hid hpm; have HLK := Lib.hid hlk; have HLN := Lib.hid hln; have HG := Lib.hid hg
    clear hown hsep hch hpm hlk hln hg hcm hcf
    by_cases hfp : 0 < fs.length
    ·obtain ⟨g, rfl, hgb, hbk⟩ := hblk hfp
     have HBK := Lib.hid hbk
     have hmem0 : fs.getD 0 0 ∈ faces d k := HPM.out.mem_iff.1 (List.mem_append_right _ (by rw [List.getD_eq_getElem?_getD, List.getElem?_eq_getElem hfp]; exact List.getElem_mem _))
     obtain ⟨n0, en0, hn0, hf20⟩ := faces_mem.1 hmem0
     have hc0 : wr.cell? ⟨g, 0, none⟩ = some (.int .i64 (n0 : Int)) := by
      refine hbk.cell 0 ?_
      rw [List.getElem?_map, List.getElem?_eq_getElem hfp, ← en0]
      simp [List.getD, hfp]
     have HW := Lib.hid (way_any (n0 : Int) b M d wr (HM1.out.later HG.out) HMB.out (Bx.gr HBD.out HG.out))
     have hls := look_self hf20
     have hax := fc_ax d n0
     obtain ⟨ax, eax⟩ : ∃ ax : Nat, fcI 0 d (n0 : Int) = ax := ⟨(fcI 0 d (n0 : Int)).toNat, by omega⟩
     rw [eax] at HW hls hax
     generalize fcI 1 d (n0 : Int) = sd at *
     have hax3 : ax < 3 := by omega
     have HLS := Lib.hid hls; have HEN := Lib.hid en0
     have hgl := hbk.1
     have HGB := Lib.hid hgb
     clear hbk hblk hmem0 en0 hf20 hax eax hls hgb
     go_wp2_with fail
     refine (HW.out).mono ?_
     rintro e w2 ⟨rfl, hg⟩
     obtain ⟨V, hV⟩ : ∃ V, (w2.alloc (.cells #[.int .i64 ax, .int .i64 sd] 79)).alloc (.cells #[.pointer (some ⟨b, 0, none⟩), .int .i64 ax, .int .i64 sd, .slice none 0 0] 104) = V := ⟨_, rfl⟩
     obtain ⟨s2, hs2⟩ : ∃ s2, w2.heap.size = s2 := ⟨_, rfl⟩
     have gV2 : Gr w2 V := by rw [← hV]; exact ((Gr.refl w2).alloc _).alloc _
     have gV : Gr wr V := hg.trans gV2
     have hWB : Bx V s2 79 [.int .i64 ax, .int .i64 sd] := by rw [← hV]; exact (Bx.new (w := w2) (vs := [.int .i64 ax, .int .i64 sd]) hs2.symm).alloc _
     have hWB0 : Bx (w2.alloc (.cells #[.int .i64 ax, .int .i64 sd] 79)) s2 79 [.int .i64 ax, .int .i64 sd] := Bx.new (w := w2) (vs := [.int .i64 ax, .int .i64 sd]) hs2.symm
     have hPB : Bx V (s2 + 1) 104 [.pointer (some ⟨b, 0, none⟩), .int .i64 ax, .int .i64 sd, .slice none 0 0] := by rw [← hV]; exact Bx.new (vs := [.pointer (some ⟨b, 0, none⟩), .int .i64 ax, .int .i64 sd, .slice none 0 0]) (by simp; omega)
     have hgs : g < s2 := by have := hg.size; omega
     have hcV : V.cell? ⟨g, 0, none⟩ = some (.int .i64 (n0 : Int)) := (gV.cell hgl).trans hc0
     have hsw : wr.heap.size ≤ s2 := by have := hg.size; omega
     have hch1 : ∀ c ∈ cs, ChOk V (fun q => ((Value.slice a10 cs.length cap10).ownBlock = some q ∨ some g = some q) ∨ q = s2 ∨ q = s2 + 1) c := fun c hc =>
      ((HCH.out c hc).reno (No' := fun q => ((Value.slice a10 cs.length cap10).ownBlock = some q ∨ some g = some q) ∨ q = s2 ∨ q = s2 + 1) (fun q hq => by
       rcases hq with hq | rfl | rfl
       ·exact .inl hq
       ·exact .inr hsw
       ·exact .inr (by omega))).ks (Ks.of_gr (S := fun _ => False) gV) (fun _ h => h.elim)
     have HCV := Lib.hid hch1
     have HOLT := Lib.hid (show ∀ j, (Value.slice a10 cs.length cap10).ownBlock = some j → j < s2 from fun j hj => by have := own_lt HOW.out j hj; omega)
     have HG00 := Lib.hid (show w1.heap.size ≤ s2 from by have := HG.out.size; omega)
     have HGV := Lib.hid (HG.out.trans gV); have HOV := Lib.hid (Fa_owns HOW.out gV); have HBV := Lib.hid (HBK.out.gr gV)
     have HWB := Lib.hid hWB; have HPB := Lib.hid hPB
     have w0 := hWB0.blk.cell 0 rfl; have w1' := hWB0.blk.cell 1 rfl; have lw := hWB0.lt
     have hVs : s2 + 2 ≤ V.heap.size := by have := hPB.lt; omega
     clear hch1 gV2 gV hWB hPB hWB0 hg HW HG HOW HCH hc0
     go_wp2_with fail
     clear hV hs2 w0 w1' lw
     go_loopw [6, 14] (fun v6 v14 wx => ∃ (fs' ts : List Int) (vt : Value), v6 = .slice (some ⟨g, 0, none⟩) fs'.length capf ∧ fs'.length ≤ capf ∧ Blk wx g (fs'.map (Value.int .i64)) ∧ ((∃ q : Nat, q < fs'.length ∧ v14 = .int .i64 q ∧ lookB d ax sd (fs'.getD q 0) = true) ∨ (v14 = .int .i64 (-1) ∧ ts ≠ [])) ∧ Bx wx (s2 + 1) 104 [.pointer (some ⟨b, 0, none⟩), .int .i64 ax, .int .i64 sd, vt] ∧ wx.ownsRow V.heap.size 3 1 vt ts.length (ts.map (Value.int .i64)) ∧ (ts ++ fs').Perm fs ∧ (∀ t ∈ ts, lookB d ax sd t = true) ∧ Ks (fun q => q = g ∨ q = s2 + 1) V wx) (fun v6 _ _ => slen v6)
     case atStart => exact ⟨fs, [], .slice none 0 0, rfl, HCF.out, HBV.out, .inl ⟨0, hfp, rfl, by rw [HEN.out]; exact HLS.out⟩, HPB.out, World.ownsRow_nil _ _ _ _, List.Perm.refl _, (fun t ht => nomatch ht), Ks.refl _ _⟩
     case round =>
      clear HBV HPB hcV
      obtain ⟨fs', ts, vt, rfl, hcf', hbk, hat, hpb, hown, hpm, hlk, hks⟩ := hrel
      obtain ⟨at', capt, rfl⟩ := own_slice hown
      have HBK2 := Lib.hid hbk; have HPB := Lib.hid hpb; have HOT := Lib.hid hown; have HPM2 := Lib.hid hpm; have HLK2 := Lib.hid hlk; have HKS := Lib.hid hks
      have hlenp : ts.length + fs'.length = fs.length := by have := hpm.length_eq; simpa using this
      have HLP := Lib.hid hlenp
      have hszV : V.heap.size ≤ wr.heap.size := hks.size
      clear hown hpm hlk hks hlenp
      rcases hat with ⟨q, hq, rfl, hlq⟩ | ⟨rfl, hne⟩
      ·obtain ⟨z, hz⟩ : ∃ z, fs'.getD q 0 = z := ⟨_, rfl⟩
       have hcz : wr.cell? ⟨g, q, none⟩ = some (.int .i64 z) := by
        refine hbk.cell q ?_
        rw [List.getElem?_map, List.getElem?_eq_getElem hq, ← hz]
        simp [List.getD, hq]
       rw [hz] at hlq
       have HZ := Lib.hid hz; have HLQ := Lib.hid hlq
       have p3 := hpb.blk.cell 3 rfl
       have lpb := hpb.lt
       have lg := hbk.1
       have hq0 : (0 : Int) ≤ (q : Int) := by omega
       have hq1 : (q : Int) < (fs'.length : Int) := by omega
       clear hbk hpb hz hlq
       go_wp2_with fail
       go_cut [61] (fun s61 wx => ∃ gt capt', s61 = .pointer (some ⟨s2 + 1, 0, none⟩) ∧ Bx wx (s2 + 1) 104 [.pointer (some ⟨b, 0, none⟩), .int .i64 ax, .int .i64 sd, .slice (some ⟨gt, 0, none⟩) (ts.length + 1) capt'] ∧ wx.ownsRow V.heap.size 3 1 (.slice (some ⟨gt, 0, none⟩) (ts.length + 1) capt') (ts.length + 1) ((ts ++ [z]).map (Value.int .i64)) ∧ Blk wx g (fs'.map (Value.int .i64)) ∧ Ks (fun q => q = g ∨ q = s2 + 1) V wx)
       case first =>
        refine wp_region_held_drew (S := fun w' => w'.cell? ⟨g, q, none⟩ = some (.int .i64 z)) (by kernel_rfl) ?_ (fun hH => ?_)
        ·exact hcz
        refine' wpAnyH_take (i := 0) (v := _) rfl (by kernel_rfl) (by kernel_rfl) (by kernel_rfl) (fun _ _ _ h => h) (Or.inl ⟨by rfl, ?thy3_0⟩) (by assumption) ?_
        case thy3_0 => (intro w hSw; (try dsimp only at hSw); go_simp; try with_reducible rfl)
        try simp only [Act.put, List.setIfInBounds_toArray, List.set_cons_zero, List.set_cons_succ, List.getElem_toArray, List.getElem_cons_zero]
        refine' wpAnyH_take (i := 1) (v := _) rfl (by kernel_rfl) (by kernel_rfl) (by kernel_rfl) (fun _ _ _ h => h) (Or.inl ⟨by rfl, ?thy3_1⟩) (by assumption) ?_
        case thy3_1 => (intro w hSw; (try dsimp only at hSw); go_simp; try with_reducible rfl)
        try simp only [Act.put, List.setIfInBounds_toArray, List.set_cons_zero, List.set_cons_succ, List.getElem_toArray, List.getElem_cons_succ, List.getElem_cons_zero]
        refine' wpAnyH_take (i := 2) (v := _) rfl (by kernel_rfl) (by kernel_rfl) (by kernel_rfl) (fun _ _ _ h => h) (Or.inl ⟨by rfl, ?thy3_2⟩) (by assumption) ?_
        case thy3_2 => (intro w hSw; (try dsimp only at hSw); go_simp; try with_reducible rfl)
        try simp only [Act.put, List.setIfInBounds_toArray, List.set_cons_zero, List.set_cons_succ, List.getElem_toArray, List.getElem_cons_succ, List.getElem_cons_zero]
        refine' wpAnyH_take (i := 3) (v := _) rfl (by kernel_rfl) (by kernel_rfl) (by kernel_rfl) (fun _ _ _ h => h) (Or.inl ⟨by rfl, ?thy3_3⟩) (by assumption) ?_
        case thy3_3 => (intro w hSw; (try dsimp only at hSw); go_simp; try with_reducible rfl)
        try simp only [Act.put, List.setIfInBounds_toArray, List.set_cons_zero, List.set_cons_succ, List.getElem_toArray, List.getElem_cons_succ, List.getElem_cons_zero]
        refine' wpAnyH_take (i := 5) (v := _) rfl (by kernel_rfl) (by kernel_rfl) (by kernel_rfl) (fun _ _ _ h => h) (Or.inl ⟨by rfl, ?thy3_4⟩) (by assumption) ?_
        case thy3_4 => (intro w hSw; (try dsimp only at hSw); go_simp; try with_reducible rfl)
        try simp only [Act.put, List.setIfInBounds_toArray, List.set_cons_zero, List.set_cons_succ, List.getElem_toArray, List.getElem_cons_succ, List.getElem_cons_zero]
        refine' wpAnyH_take (i := 6) (v := _) rfl (by kernel_rfl) (by kernel_rfl) (by kernel_rfl) (fun _ _ _ h => h) (Or.inl ⟨by rfl, ?thy3_5⟩) (by assumption) ?_
        case thy3_5 => (intro w hSw; (try dsimp only at hSw); go_simp; try with_reducible rfl)
        try simp only [Act.put, List.setIfInBounds_toArray, List.set_cons_zero, List.set_cons_succ, List.getElem_toArray, List.getElem_cons_succ, List.getElem_cons_zero]
        refine' wpAnyH_take (i := 7) (v := _) rfl (by kernel_rfl) (by kernel_rfl) (by kernel_rfl) (fun _ _ _ h => h) (Or.inl ⟨by rfl, ?thy3_6⟩) (by assumption) ?_
        case thy3_6 => (intro w hSw; (try dsimp only at hSw); go_simp; try with_reducible rfl)
        try simp only [Act.put, List.setIfInBounds_toArray, List.set_cons_zero, List.set_cons_succ, List.getElem_toArray, List.getElem_cons_succ, List.getElem_cons_zero]
        refine' wpAnyH_take (i := 8) (v := _) rfl (by kernel_rfl) (by kernel_rfl) (by kernel_rfl) (fun _ _ _ h => h) (Or.inl ⟨by rfl, ?thy3_7⟩) (by assumption) ?_
        case thy3_7 => (intro w hSw; (try dsimp only at hSw); go_simp; try with_reducible rfl)
        try simp only [Act.put, List.setIfInBounds_toArray, List.set_cons_zero, List.set_cons_succ, List.getElem_toArray, List.getElem_cons_succ, List.getElem_cons_zero]
        refine wpAnyH_ready (rs := [4, 9]) (by kernel_rfl) (by simp) ?_
        refine AllReadyH.cons rfl (fun K hK => ?_) (AllReadyH.cons rfl (fun K hK => ?_) AllReadyH.nil)
        ·go_simp
         refine hK.out _ _ ?_ (fun hN => ?_)
         ·exact hH
         clear hK K hH
         have hH := hN; clear hN
         try simp only [Act.put, List.setIfInBounds_toArray, List.set_cons_zero, List.set_cons_succ, List.getElem_toArray, List.getElem_cons_succ, List.getElem_cons_zero]
         refine wpAnyH_ready (rs := [9]) (by kernel_rfl) (by simp) ?_
         refine AllReadyH.cons rfl (fun K hK => ?_) AllReadyH.nil
         go_simp
         refine hK.out _ _ ?_ (fun hN => ?_)
         ·exact (World.cell?_alloc_past _ _ _ (by simpa using lg)).trans hH
         clear hK K hH
         have hH := hN; clear hN
         try simp only [Act.put, List.setIfInBounds_toArray, List.set_cons_zero, List.set_cons_succ, List.getElem_toArray, List.getElem_cons_succ, List.getElem_cons_zero]
         refine wpAnyH_ready (rs := [10]) (by kernel_rfl) (by simp) ?_
         refine AllReadyH.cons rfl (fun K hK => ?_) AllReadyH.nil
         refine step_append_lies _ (by rfl) (.tmp 65) (.tmp 70) 50 (by rfl) V.heap.size 3 i0 (.int .i64 0) 1 8 Tryz.underlying50 hi hz0 hz1 hz2 rfl (by omega) (Value.slice at' ts.length capt) ts.length (ts.map (Value.int .i64)) (by rfl) (HOT.out.alloc _) ⟨wr.heap.size, 0, none⟩ 1 1 [.int .i64 z] (by rfl) rfl (World.news_of_block (World.alloc_heap_new wr _)) (by intro u hu; simp at hu; subst hu; rfl) (by omega) (by have := HLP.out; have := HLN.out; unfold maxLen; omega) (by have := HLP.out; have := HLN.out; omega) (by simp; omega) (wr.heap.size + 1) (by simp) ?_
         intro gt capt' w3 hown3 hgrow3 hat3 hlt3
         have hgr3 : wr.grownBy w3 (Value.slice at' ts.length capt).ownBlock := grown_trans ((Gr.refl wr).drew.alloc _) hgrow3
         have hob : ∀ k, (Value.slice at' ts.length capt).ownBlock = some k → V.heap.size ≤ k := own_base HOT.out
         have hpb3 : Bx w3 (s2 + 1) 104 [.pointer (some ⟨b, 0, none⟩), .int .i64 ax, .int .i64 sd, .slice at' ts.length capt] := (hgr3.block _ lpb (fun e => by have := hob _ e.symm; omega)).trans HPB.out
         have hbk3 : Blk w3 g (fs'.map (Value.int .i64)) := Blk.ks HBK2.out (ks_grown2 hgr3) (fun e => by have := hob _ e; omega)
         have hks3 : Ks (fun q => q = g ∨ q = s2 + 1) V w3 := by
          have h1 := ks_grown2 hgr3
          have h2 := HKS.out
          exact ⟨h1.os.trans h2.os, h1.tape.trans h2.tape, h1.output.trans h2.output, Nat.le_trans h2.size h1.size, fun k hk hs => (h1.block k (Nat.lt_of_lt_of_le hk h2.size) (fun e => by have := hob _ e; omega)).trans (h2.block k hk hs)⟩
         have hcz3 : w3.cell? ⟨g, q, none⟩ = some (.int .i64 z) := (hgr3.cell_far ⟨g, q, none⟩ lg (fun e => by have := hob _ e.symm; simp at this; omega)).trans hcz
         have k3 := hpb3.blk.cell 3 rfl; have q3 := hpb3.blk.free 3 rfl; have l3 := hpb3.lt
         have hgtV : V.heap.size ≤ gt := own_base hown3 gt rfl
         have HPB3 := Lib.hid hpb3; have HBK3 := Lib.hid hbk3; have HKS3 := Lib.hid hks3; have HOT3 := Lib.hid hown3
         clear hgrow3 hgr3 hpb3 hbk3 hks3 hat3 hown3 hob
         refine hK.out _ _ ?_ (fun hN => ?_)
         ·exact hcz3
         clear hK K hH
         have hH := hN; clear hN
         try simp only [Act.put, List.setIfInBounds_toArray, List.set_cons_zero, List.set_cons_succ, List.getElem_toArray, List.getElem_cons_succ, List.getElem_cons_zero]
         refine' wpAnyH_take (i := 11) (v := _) rfl (by kernel_rfl) (by kernel_rfl) (by kernel_rfl) (fun _ _ _ h => h) (Or.inl ⟨by rfl, ?thy1_0⟩) (by assumption) ?_
         case thy1_0 => (intro w hSw; (try dsimp only at hSw); go_simp; try with_reducible rfl)
         try simp only [Act.put, List.setIfInBounds_toArray, List.set_cons_zero, List.set_cons_succ, List.getElem_toArray, List.getElem_cons_succ, List.getElem_cons_zero]
         refine' wpAnyH_take (i := 12) (v := _) rfl (by kernel_rfl) (by kernel_rfl) (by kernel_rfl) (fun _ _ _ h => h) (Or.inl ⟨by rfl, ?thy1_1⟩) (by assumption) ?_
         case thy1_1 => (intro w hSw; (try dsimp only at hSw); go_simp; try with_reducible rfl)
         try simp only [Act.put, List.setIfInBounds_toArray, List.set_cons_zero, List.set_cons_succ, List.getElem_toArray, List.getElem_cons_succ, List.getElem_cons_zero]
         refine wpAnyH_ready (rs := [13]) (by kernel_rfl) (by simp) ?_
         refine AllReadyH.cons rfl (fun K hK => ?_) AllReadyH.nil
         go_simp
         refine hK.out _ _ ?_ (fun hN => ?_)
         ·exact (World.cell?_setCell_other _ _ _ _ (by intro h; injection h with h _; omega)).trans hH
         clear hK K hH
         have hH := hN; clear hN
         try simp only [Act.put, List.setIfInBounds_toArray, List.set_cons_zero, List.set_cons_succ, List.getElem_toArray, List.getElem_cons_succ, List.getElem_cons_zero]
         refine wpAnyH_done (by kernel_rfl) ?_ _
         go_wp2_with fail
         go_meet
         case rel =>
          refine ⟨gt, capt', rfl, bx_seti HPB3.out 3 _, own_ks2 (S := fun k => k = s2 + 1) ?_ (ks_set rfl) (fun k e => by simp [Value.ownBlock] at e; omega), Blk.ks HBK3.out (ks_set (g := s2 + 1) rfl) (by omega), HKS3.out.trans ((ks_set (g := s2 + 1) rfl).mono' (fun k hk => .inr hk))⟩
          rw [List.map_append]; exact HOT3.out
        ·have p3a : (wr.alloc (.cells #[.int .i64 z] 3)).cell? ⟨s2 + 1, 3, none⟩ = some (.slice at' ts.length capt) := (World.cell?_alloc_past _ _ _ lpb).trans p3
         go_simp
         refine hK.out _ _ ?_ (fun hN => ?_)
         ·exact (World.cell?_alloc_past _ _ _ (by simpa using lg)).trans hH
         clear hK K hH
         have hH := hN; clear hN
         try simp only [Act.put, List.setIfInBounds_toArray, List.set_cons_zero, List.set_cons_succ, List.getElem_toArray, List.getElem_cons_succ, List.getElem_cons_zero]
         refine wpAnyH_ready (rs := [4]) (by kernel_rfl) (by simp) ?_
         refine AllReadyH.cons rfl (fun K hK => ?_) AllReadyH.nil
         go_simp
         refine hK.out _ _ ?_ (fun hN => ?_)
         ·exact hH
         clear hK K hH
         have hH := hN; clear hN
         try simp only [Act.put, List.setIfInBounds_toArray, List.set_cons_zero, List.set_cons_succ, List.getElem_toArray, List.getElem_cons_succ, List.getElem_cons_zero]
         refine wpAnyH_ready (rs := [10]) (by kernel_rfl) (by simp) ?_
         refine AllReadyH.cons rfl (fun K hK => ?_) AllReadyH.nil
         refine step_append_lies _ (by rfl) (.tmp 65) (.tmp 70) 50 (by rfl) V.heap.size 3 i0 (.int .i64 0) 1 8 Tryz.underlying50 hi hz0 hz1 hz2 rfl (by omega) (Value.slice at' ts.length capt) ts.length (ts.map (Value.int .i64)) (by rfl) (HOT.out.alloc _) ⟨wr.heap.size, 0, none⟩ 1 1 [.int .i64 z] (by rfl) rfl (World.news_of_block (World.alloc_heap_new wr _)) (by intro u hu; simp at hu; subst hu; rfl) (by omega) (by have := HLP.out; have := HLN.out; unfold maxLen; omega) (by have := HLP.out; have := HLN.out; omega) (by simp; omega) (wr.heap.size + 1) (by simp) ?_
         intro gt capt' w3 hown3 hgrow3 hat3 hlt3
         have hgr3 : wr.grownBy w3 (Value.slice at' ts.length capt).ownBlock := grown_trans ((Gr.refl wr).drew.alloc _) hgrow3
         have hob : ∀ k, (Value.slice at' ts.length capt).ownBlock = some k → V.heap.size ≤ k := own_base HOT.out
         have hpb3 : Bx w3 (s2 + 1) 104 [.pointer (some ⟨b, 0, none⟩), .int .i64 ax, .int .i64 sd, .slice at' ts.length capt] := (hgr3.block _ lpb (fun e => by have := hob _ e.symm; omega)).trans HPB.out
         have hbk3 : Blk w3 g (fs'.map (Value.int .i64)) := Blk.ks HBK2.out (ks_grown2 hgr3) (fun e => by have := hob _ e; omega)
         have hks3 : Ks (fun q => q = g ∨ q = s2 + 1) V w3 := by
          have h1 := ks_grown2 hgr3
          have h2 := HKS.out
          exact ⟨h1.os.trans h2.os, h1.tape.trans h2.tape, h1.output.trans h2.output, Nat.le_trans h2.size h1.size, fun k hk hs => (h1.block k (Nat.lt_of_lt_of_le hk h2.size) (fun e => by have := hob _ e; omega)).trans (h2.block k hk hs)⟩
         have hcz3 : w3.cell? ⟨g, q, none⟩ = some (.int .i64 z) := (hgr3.cell_far ⟨g, q, none⟩ lg (fun e => by have := hob _ e.symm; simp at this; omega)).trans hcz
         have k3 := hpb3.blk.cell 3 rfl; have q3 := hpb3.blk.free 3 rfl; have l3 := hpb3.lt
         have hgtV : V.heap.size ≤ gt := own_base hown3 gt rfl
         have HPB3 := Lib.hid hpb3; have HBK3 := Lib.hid hbk3; have HKS3 := Lib.hid hks3; have HOT3 := Lib.hid hown3
         clear hgrow3 hgr3 hpb3 hbk3 hks3 hat3 hown3 hob
         refine hK.out _ _ ?_ (fun hN => ?_)
         ·exact hcz3
         clear hK K hH
         have hH := hN; clear hN
         try simp only [Act.put, List.setIfInBounds_toArray, List.set_cons_zero, List.set_cons_succ, List.getElem_toArray, List.getElem_cons_succ, List.getElem_cons_zero]
         refine' wpAnyH_take (i := 11) (v := _) rfl (by kernel_rfl) (by kernel_rfl) (by kernel_rfl) (fun _ _ _ h => h) (Or.inl ⟨by rfl, ?thy2_0⟩) (by assumption) ?_
         case thy2_0 => (intro w hSw; (try dsimp only at hSw); go_simp; try with_reducible rfl)
         try simp only [Act.put, List.setIfInBounds_toArray, List.set_cons_zero, List.set_cons_succ, List.getElem_toArray, List.getElem_cons_succ, List.getElem_cons_zero]
         refine' wpAnyH_take (i := 12) (v := _) rfl (by kernel_rfl) (by kernel_rfl) (by kernel_rfl) (fun _ _ _ h => h) (Or.inl ⟨by rfl, ?thy2_1⟩) (by assumption) ?_
         case thy2_1 => (intro w hSw; (try dsimp only at hSw); go_simp; try with_reducible rfl)
         try simp only [Act.put, List.setIfInBounds_toArray, List.set_cons_zero, List.set_cons_succ, List.getElem_toArray, List.getElem_cons_succ, List.getElem_cons_zero]
         refine wpAnyH_ready (rs := [13]) (by kernel_rfl) (by simp) ?_
         refine AllReadyH.cons rfl (fun K hK => ?_) AllReadyH.nil
         go_simp
         refine hK.out _ _ ?_ (fun hN => ?_)
         ·exact (World.cell?_setCell_other _ _ _ _ (by intro h; injection h with h _; omega)).trans hH
         clear hK K hH
         have hH := hN; clear hN
         try simp only [Act.put, List.setIfInBounds_toArray, List.set_cons_zero, List.set_cons_succ, List.getElem_toArray, List.getElem_cons_succ, List.getElem_cons_zero]
         refine wpAnyH_done (by kernel_rfl) ?_ _
         go_wp2_with fail
         go_meet
         case rel =>
          refine ⟨gt, capt', rfl, bx_seti HPB3.out 3 _, own_ks2 (S := fun k => k = s2 + 1) ?_ (ks_set rfl) (fun k e => by simp [Value.ownBlock] at e; omega), Blk.ks HBK3.out (ks_set (g := s2 + 1) rfl) (by omega), HKS3.out.trans ((ks_set (g := s2 + 1) rfl).mono' (fun k hk => .inr hk))⟩
          rw [List.map_append]; exact HOT3.out
       case rest =>
        obtain ⟨gt, capt', rfl, hpb, hown, hbk, hks⟩ := hcut
        have HD := Lib.hid (by
         have := delete_any g capf q fs' wc hbk hcf' HCM.out hq
         rw [show ((q + 1 : Nat) : Int) = (q : Int) + 1 from by omega] at this
         exact this)
        have HPB3 := Lib.hid hpb; have HOT3 := Lib.hid hown; have HKS3 := Lib.hid hks
        clear hpb hown hbk hks p3 lpb lg hcz
        have hq9 : (q : Int) ≤ 100000 := by have := HLP.out; have := HLN.out; omega
        go_wp2_with fail
        refine (HD.out).mono ?_
        rintro e w6 ⟨rfl, hb6, hg6⟩
        obtain ⟨fs6, hfs6⟩ : ∃ fs6, fs'.take q ++ fs'.drop (q + 1) = fs6 := ⟨_, rfl⟩
        have hl6 : fs'.length - 1 = fs6.length := by rw [← hfs6]; simp; omega
        have hpq : (z :: fs6).Perm fs' := by rw [← hfs6, ← HZ.out]; exact perm_cut hq
        rw [hfs6] at hb6
        rw [hl6]
        have hl7 : fs6.length < fs'.length := by omega
        have hpm6 : (ts ++ [z] ++ fs6).Perm fs := by
         rw [List.append_assoc]
         exact ((List.Perm.refl ts).append hpq).trans HPM2.out
        have hmem6 : ∀ x ∈ ts ++ [z] ++ fs6, ∃ n : Nat, x = n ∧ n < k := fun x hx => by
         obtain ⟨n, e, h1, _⟩ := faces_mem.1 (HPM.out.mem_iff.1 (List.mem_append_right _ (hpm6.mem_iff.1 hx)))
         exact ⟨n, e, h1⟩
        have hpb6 : Bx w6 (s2 + 1) 104 [.pointer (some ⟨b, 0, none⟩), .int .i64 ax, .int .i64 sd, .slice (some ⟨gt, 0, none⟩) (ts.length + 1) capt'] := Bx.ks HPB3.out (ks_grown2 hg6) (fun e => by injection e; omega)
        have hgtV : V.heap.size ≤ gt := own_base HOT3.out gt rfl
        have hown6 : w6.ownsRow V.heap.size 3 1 (.slice (some ⟨gt, 0, none⟩) (ts.length + 1) capt') (ts.length + 1) ((ts ++ [z]).map (Value.int .i64)) := own_ks2 HOT3.out (ks_grown2 hg6) (fun k e h => by simp [Value.ownBlock] at e; injection h; omega)
        have hks6 : Ks (fun q => q = g ∨ q = s2 + 1) V w6 := HKS3.out.trans ((ks_grown2 hg6).mono' (fun k e => by injection e with e; exact .inl e.symm))
        have hgb := HGB.out
        have hs2g := HGV.out.size
        have hg16 : Gr w1 w6 := hks6.gr HGV.out (fun k hk hs => by have := HG00.out; rcases hs with rfl | rfl <;> omega)
        have hrowt : IsRow .i64 w6 (some ⟨gt, 0, none⟩) (ts ++ [z]).length (ts ++ [z]) := by
         have h1 := hown6
         rw [show ts.length + 1 = (ts ++ [z]).length by simp] at h1
         obtain ⟨a', c', e, hr⟩ := row_owned h1 (by have := HLP.out; have := HLN.out; simp; omega) (fun x hx => by
          obtain ⟨n, e, hn⟩ := hmem6 x (List.mem_append_left _ hx)
          subst e; exact wf_of_I ⟨by omega, by omega⟩)
         cases e; exact hr
        have hrowf : IsRow .i64 w6 (some ⟨g, 0, none⟩) fs6.length fs6 := row_blk (ys := [0]) hb6 (fun x hx => by
          obtain ⟨n, e, hn⟩ := hmem6 x (List.mem_append_right _ hx)
          subst e; exact ⟨by omega, by omega⟩) (by have := HLP.out; have := HLN.out; omega)
        have hix := idx_fit (fun z b => b = true → lookB d ax sd z = true) (.pointer (some ⟨s2 + 1, 0, none⟩)) (some ⟨g, 0, none⟩) fs6.length capf fs6 w6 hrowf (by have := HLP.out; have := HLN.out; omega) (fun j hj w' g' => by
         have hf := fits_any (fs6.getD j 0) ax sd hax3 (some ⟨gt, 0, none⟩) (ts ++ [z]).length capt' (ts ++ [z]) (s2 + 1) b M d w' (HM1.out.later (hg16.trans g')) HMB.out (by rw [HLF.out]; omega) (Bx.gr HBD.out (hg16.trans g')) (by have := hpb6.gr g'; rw [show ts.length + 1 = (ts ++ [z]).length by simp] at this; exact this) (hrowt.later g') (fun x hx => by rw [HLF.out]; exact hmem6 x (List.mem_append_left _ hx)) (by have := HLP.out; have := HLN.out; simp; omega)
         exact hf.mono fun e w' ⟨bb, h1, h2, h3⟩ => ⟨bb, h1, fun h => (h2 h).1, h3⟩)
        have hlk6 : ∀ t ∈ ts ++ [z], lookB d ax sd t = true := fun t ht => by
         rw [List.mem_append] at ht
         rcases ht with ht | ht
         ·exact HLK2.out t ht
         ·simp at ht; subst ht; exact HLQ.out
        have HIX := Lib.hid hix; have HPB6 := Lib.hid hpb6; have HOT6 := Lib.hid hown6; have HKS6 := Lib.hid hks6; have HPM6 := Lib.hid hpm6; have HLK6 := Lib.hid hlk6
        have HB6 := Lib.hid (show Blk w6 g (fs6.map (Value.int .i64)) from by rw [List.map_append] at hb6; exact blk_left hb6)
        clear hix hpb6 hown6 hks6 hpm6 hlk6 hrowt hrowf hg16 hmem6 hpq hfs6 hb6 hg6 hl6 HD
        go_wp2_with fail
        refine (HIX.out).mono ?_
        rintro e w7 ⟨r, rfl, hr, hg7⟩
        have HR := Lib.hid hr
        have HPB7 := Lib.hid (HPB6.out.gr hg7); have HOT7 := Lib.hid (Fa_owns HOT6.out hg7); have HKS7 := Lib.hid (HKS6.out.trans (Ks.of_gr hg7)); have HB7 := Lib.hid (HB6.out.gr hg7)
        clear hr hg7 HIX
        go_wp2_with fail
        go_roundw
        case rel =>
         refine ⟨fs6, ts ++ [z], .slice (some ⟨gt, 0, none⟩) (ts.length + 1) capt', rfl, by omega, HB7.out, ?_, HPB7.out, ?_, HPM6.out, HLK6.out, HKS7.out⟩
         ·rcases HR.out with ⟨rfl, _⟩ | ⟨k', hk', rfl, hR, _⟩
          ·exact .inr ⟨rfl, by simp⟩
          ·exact .inl ⟨k', hk', rfl, hR trivial⟩
         ·rw [show (ts ++ [z]).length = ts.length + 1 by simp]; exact HOT7.out
        case measure => simp [slen]; omega
      ·have lpb := hpb.lt
       have lg := hbk.1
       have p3 := hpb.blk.cell 3 rfl
       have hWr : Bx wr s2 79 [.int .i64 ax, .int .i64 sd] := Bx.ks HWB.out HKS.out (by omega)
       have v0 := hWr.blk.cell 0 rfl; have v1 := hWr.blk.cell 1 rfl; have lv' := hWr.lt
       have hOr : wr.ownsRow w1.heap.size 60 3 (.slice a10 cs.length cap10) cs.length (chv cs) := own_ks2 HOV.out HKS.out (fun j hj => by
        have := HOLT.out j hj
        rintro (rfl | rfl)
        ·rcases HSEP.out with h | h
         ·rw [hj] at h; cases h
         ·exact h hj
        ·omega)
       have HOR := Lib.hid hOr
       have hts : 0 < ts.length := List.length_pos_iff.2 hne
       obtain ⟨gt, ct', e, hgtV, hgtl⟩ := HOT.out.form hts
       cases e
       have HNE := Lib.hid hne
       clear hbk hpb hWr hOr hne
       go_wp2_with fail
       refine wp_region_held_drew (S := fun w' => w'.cell? ⟨s2, 0, none⟩ = some (.int .i64 ax) ∧ w'.cell? ⟨s2, 1, none⟩ = some (.int .i64 sd) ∧ w'.cell? ⟨s2 + 1, 3, none⟩ = some (.slice (some ⟨gt, 0, none⟩) ts.length capt)) (by kernel_rfl) ?_ (fun hH => ?_)
       ·exact ⟨v0, v1, p3⟩
       refine' wpAnyH_take (i := 0) (v := _) rfl (by kernel_rfl) (by kernel_rfl) (by kernel_rfl) (fun _ _ _ h => h) (Or.inl ⟨by rfl, ?thy4_0⟩) (by assumption) ?_
       case thy4_0 => (intro w hSw; (try dsimp only at hSw); go_simp; try with_reducible rfl)
       try simp only [Act.put, List.setIfInBounds_toArray, List.set_cons_zero, List.set_cons_succ, List.getElem_toArray, List.getElem_cons_zero]
       refine' wpAnyH_take (i := 1) (v := _) rfl (by kernel_rfl) (by kernel_rfl) (by kernel_rfl) (fun _ _ _ h => h) (Or.inl ⟨by rfl, ?thy4_1⟩) (by assumption) ?_
       case thy4_1 => (intro w hSw; (try dsimp only at hSw); go_simp; try with_reducible rfl)
       try simp only [Act.put, List.setIfInBounds_toArray, List.set_cons_zero, List.set_cons_succ, List.getElem_toArray, List.getElem_cons_succ, List.getElem_cons_zero]
       refine' wpAnyH_take (i := 2) (v := _) rfl (by kernel_rfl) (by kernel_rfl) (by kernel_rfl) (fun _ _ _ h => h) (Or.inl ⟨by rfl, ?thy4_2⟩) (by assumption) ?_
       case thy4_2 => (intro w hSw; (try dsimp only at hSw); go_simp; try with_reducible rfl)
       try simp only [Act.put, List.setIfInBounds_toArray, List.set_cons_zero, List.set_cons_succ, List.getElem_toArray, List.getElem_cons_succ, List.getElem_cons_zero]
       refine' wpAnyH_take (i := 3) (v := _) rfl (by kernel_rfl) (by kernel_rfl) (by kernel_rfl) (fun _ _ _ h => h) (Or.inl ⟨by rfl, ?thy4_3⟩) (by assumption) ?_
       case thy4_3 => (intro w hSw; (try dsimp only at hSw); go_simp; try with_reducible rfl)
       try simp only [Act.put, List.setIfInBounds_toArray, List.set_cons_zero, List.set_cons_succ, List.getElem_toArray, List.getElem_cons_succ, List.getElem_cons_zero]
       refine' wpAnyH_take (i := 4) (v := _) rfl (by kernel_rfl) (by kernel_rfl) (by kernel_rfl) (fun _ _ _ h => h) (Or.inl ⟨by rfl, ?thy4_4⟩) (by assumption) ?_
       case thy4_4 => (intro w hSw; (try dsimp only at hSw); go_simp; try with_reducible rfl)
       try simp only [Act.put, List.setIfInBounds_toArray, List.set_cons_zero, List.set_cons_succ, List.getElem_toArray, List.getElem_cons_succ, List.getElem_cons_zero]
       refine' wpAnyH_take (i := 5) (v := _) rfl (by kernel_rfl) (by kernel_rfl) (by kernel_rfl) (fun _ _ _ h => h) (Or.inl ⟨by rfl, ?thy4_5⟩) (by assumption) ?_
       case thy4_5 => (intro w hSw; (try dsimp only at hSw); go_simp; try with_reducible rfl)
       try simp only [Act.put, List.setIfInBounds_toArray, List.set_cons_zero, List.set_cons_succ, List.getElem_toArray, List.getElem_cons_succ, List.getElem_cons_zero]
       refine' wpAnyH_take (i := 6) (v := _) rfl (by kernel_rfl) (by kernel_rfl) (by kernel_rfl) (fun _ _ _ h => h) (Or.inl ⟨by rfl, ?thy4_6⟩) (by assumption) ?_
       case thy4_6 => (intro w hSw; (try dsimp only at hSw); go_simp; try with_reducible rfl)
       try simp only [Act.put, List.setIfInBounds_toArray, List.set_cons_zero, List.set_cons_succ, List.getElem_toArray, List.getElem_cons_succ, List.getElem_cons_zero]
       refine' wpAnyH_take (i := 7) (v := _) rfl (by kernel_rfl) (by kernel_rfl) (by kernel_rfl) (fun _ _ _ h => h) (Or.inl ⟨by rfl, ?thy4_7⟩) (by assumption) ?_
       case thy4_7 => (intro w hSw; (try dsimp only at hSw); go_simp; try with_reducible rfl)
       try simp only [Act.put, List.setIfInBounds_toArray, List.set_cons_zero, List.set_cons_succ, List.getElem_toArray, List.getElem_cons_succ, List.getElem_cons_zero]
       refine' wpAnyH_take (i := 8) (v := _) rfl (by kernel_rfl) (by kernel_rfl) (by kernel_rfl) (fun _ _ _ h => h) (Or.inl ⟨by rfl, ?thy4_8⟩) (by assumption) ?_
       case thy4_8 => (intro w hSw; (try dsimp only at hSw); go_simp; try with_reducible rfl)
       try simp only [Act.put, List.setIfInBounds_toArray, List.set_cons_zero, List.set_cons_succ, List.getElem_toArray, List.getElem_cons_succ, List.getElem_cons_zero]
       refine' wpAnyH_take (i := 9) (v := _) rfl (by kernel_rfl) (by kernel_rfl) (by kernel_rfl) (fun _ _ _ h => h) (Or.inl ⟨by rfl, ?thy4_9⟩) (by assumption) ?_
       case thy4_9 => (intro w hSw; (try dsimp only at hSw); go_simp; try with_reducible rfl)
       try simp only [Act.put, List.setIfInBounds_toArray, List.set_cons_zero, List.set_cons_succ, List.getElem_toArray, List.getElem_cons_succ, List.getElem_cons_zero]
       refine wpAnyH_ready (rs := [10]) (by kernel_rfl) (by simp) ?_
       refine AllReadyH.cons rfl (fun K hK => ?_) AllReadyH.nil
       go_simp
       refine hK.out _ _ ?_ (fun hN => ?_)
       ·exact ⟨(World.cell?_alloc_past _ _ _ (by simpa using lv')).trans hH.1, (World.cell?_alloc_past _ _ _ (by simpa using lv')).trans hH.2.1, (World.cell?_alloc_past _ _ _ (by simpa using lpb)).trans hH.2.2⟩
       clear hK K hH
       have hH := hN; clear hN
       try simp only [Act.put, List.setIfInBounds_toArray, List.set_cons_zero, List.set_cons_succ, List.getElem_toArray, List.getElem_cons_succ, List.getElem_cons_zero]
       refine wpAnyH_ready (rs := [11]) (by kernel_rfl) (by simp) ?_
       refine AllReadyH.cons rfl (fun K hK => ?_) AllReadyH.nil
       refine step_append_lies _ (by rfl) (.tmp 79) (.tmp 89) 58 (by rfl) w1.heap.size 60 j0 (.agg #[.int .i64 0, .int .i64 0, .slice none 0 0]) 3 40 Tryz.underlying58 hj hy0 hy1 hy2 rfl (by omega) (Value.slice a10 cs.length cap10) cs.length (chv cs) (by rfl) (HOR.out.alloc _) ⟨wr.heap.size, 0, none⟩ 1 1 [.int .i64 ax, .int .i64 sd, .slice (some ⟨gt, 0, none⟩) ts.length capt] (by rfl) rfl (World.news_of_block (World.alloc_heap_new wr _)) (by intro u hu; simp at hu; rcases hu with rfl | rfl | rfl <;> rfl) (by omega) (by have := HLN.out; unfold maxLen; omega) (by have := HLN.out; omega) (by have := HG00.out; simp; omega) (wr.heap.size + 1) (by simp) ?_
       intro g3 cap3 w3 hown3 hgrow3 hat3 hlt3
       have hgr3 : wr.grownBy w3 (Value.slice a10 cs.length cap10).ownBlock := grown_trans ((Gr.refl wr).drew.alloc _) hgrow3
       have HGR3 := Lib.hid hgr3; have HO3 := Lib.hid hown3; have HAT3 := Lib.hid hat3
       have z0 : w3.cell? ⟨s2, 0, none⟩ = some (.int .i64 ax) := (hgr3.cell_far ⟨s2, 0, none⟩ lv' (fun e => by have := HOLT.out _ e.symm; simp at this)).trans v0
       have z1 : w3.cell? ⟨s2, 1, none⟩ = some (.int .i64 sd) := (hgr3.cell_far ⟨s2, 1, none⟩ lv' (fun e => by have := HOLT.out _ e.symm; simp at this)).trans v1
       have z2 : w3.cell? ⟨s2 + 1, 3, none⟩ = some (.slice (some ⟨gt, 0, none⟩) ts.length capt) := (hgr3.cell_far ⟨s2 + 1, 3, none⟩ lpb (fun e => by have := HOLT.out _ e.symm; simp at this; omega)).trans p3
       clear hgrow3 hgr3 hat3 hown3
       refine hK.out _ _ ?_ (fun hN => ?_)
       ·exact ⟨z0, z1, z2⟩
       clear z0 z1 z2
       clear hK K hH
       have hH := hN; clear hN
       try simp only [Act.put, List.setIfInBounds_toArray, List.set_cons_zero, List.set_cons_succ, List.getElem_toArray, List.getElem_cons_succ, List.getElem_cons_zero]
       refine' wpAnyH_take (i := 12) (v := _) rfl (by kernel_rfl) (by kernel_rfl) (by kernel_rfl) (fun _ _ _ h => h) (Or.inl ⟨by rfl, ?thy4_10⟩) (by assumption) ?_
       case thy4_10 => (intro w hSw; (try dsimp only at hSw); go_simp; try with_reducible rfl)
       try simp only [Act.put, List.setIfInBounds_toArray, List.set_cons_zero, List.set_cons_succ, List.getElem_toArray, List.getElem_cons_succ, List.getElem_cons_zero]
       refine wpAnyH_done (by kernel_rfl) ?_ _
       go_wp2_with fail
       go_roundw
       case rel =>
        have hgb := HGB.out
        have hs2g := HGV.out.size
        have hks3 : Ks (fun q => (q = g ∨ q = s2 + 1) ∨ (Value.slice a10 cs.length cap10).ownBlock = some q) V w3 := (HKS.out.mono' (fun k h => .inl h)).trans ((ks_grown2 HGR3.out).mono' (fun k h => .inr h))
        refine ⟨fs', cs ++ [⟨ax, sd, some ⟨gt, 0, none⟩, capt, ts⟩], ⟨_, _, rfl, hcf', HCM.out, fun _ => ⟨g, rfl, hgb, ?_⟩⟩, ?_, ?_, ?_, ?_, ?_, ?_, ?_⟩
        ·exact Blk.ks HBK2.out (ks_grown2 HGR3.out) (fun e => by
          rcases HSEP.out with h | h
          ·rw [e] at h; cases h
          ·exact h e)
        ·rw [List.length_append, chv_snoc]; exact HO3.out
        ·right
         intro e
         simp [Value.ownBlock] at e
         subst e
         rcases HAT3.out with h | h
         ·rcases HSEP.out with h' | h'
          ·rw [h] at h'; cases h'
          ·exact h' h
         ·omega
        ·intro c hc
         rw [List.mem_append] at hc
         rcases hc with hc | hc
         ·have h1 := (HCV.out c hc).ks HKS.out (fun k hk => .inl (hk.elim (fun e => .inl (.inr (by rw [e]))) (fun e => .inr (.inr e))))
          have h2 := h1.reno (No' := fun q => (((Value.slice a10 cs.length cap10).ownBlock = some q ∨ some g = some q) ∨ q = s2 ∨ q = s2 + 1) ∨ q = wr.heap.size + 1) (fun q hq => hq.elim .inl (fun e => .inr (by omega)))
          have h3 := h2.ks (ks_grown2 HGR3.out) (fun k hk => .inl (.inl (.inl (.inl hk))))
          exact h3.reno (fun q hq => .inl (by
           rcases hq with hq | hq
           ·simp [Value.ownBlock] at hq
            subst hq
            rcases HAT3.out with h | h
            ·exact .inl (.inl (.inl h))
            ·exact .inr h
           ·exact .inl (.inl (.inr hq))))
         ·simp at hc
          subst hc
          refine ⟨?_, fun ad e => ?_⟩
          ·obtain ⟨a', c', e, hr⟩ := row_owned HOT.out (by have := HLP.out; have := HLN.out; omega) (fun x hx => by
            obtain ⟨n, e, h1, _⟩ := faces_mem.1 (HPM.out.mem_iff.1 (List.mem_append_right _ (HPM2.out.mem_iff.1 (List.mem_append_left _ hx))))
            subst e; exact wf_of_I ⟨by omega, by omega⟩)
           cases e
           exact row_kept hr HGR3.out (fun ad e => by
            cases e
            intro e2
            have := HOLT.out gt e2.symm
            omega)
          ·simp at e
           subst e
           have := HGR3.out.size
           refine ⟨?_, by simp; omega⟩
           rintro (hq | hq)
           ·simp [Value.ownBlock] at hq
            subst hq
            rcases HAT3.out with h | h
            ·have := HOLT.out _ h; omega
            ·omega
           ·simp [Value.ownBlock] at hq
            omega
        ·rw [List.flatMap_append]
         simp only [List.flatMap_cons, List.flatMap_nil, List.append_nil]
         rw [List.append_assoc]
         exact ((List.Perm.refl _).append HPM2.out).trans HPM.out
        ·intro c hc
         rw [List.mem_append] at hc
         rcases hc with hc | hc
         ·exact HLK.out c hc
         ·simp at hc
          subst hc
          exact ⟨HNE.out, by simp, by simp; omega, HLK2.out⟩
        ·have := HLP.out; have := HLN.out; simp; omega
        ·exact (hks3.gr HGV.out (fun k hk hs => by
          have := HG00.out
          rcases hs with (rfl | rfl) | hs
          ·omega
          ·omega
          ·have := own_base HOR.out k hs; omega))
       case measure => have := HLP.out; simp [slen]; omega
    ·obtain rfl : fs = [] := List.eq_nil_of_length_eq_zero (by omega)
     clear hblk hfp
     simp only [List.length_nil] at *
     obtain ⟨a', cap', e, hrows⟩ := ch_rows HOW.out (fun c hc => (HCH.out c hc).1)
     cases e
     have HRW := Lib.hid hrows
     clear hrows
     go_wp2_with fail
     go_ret2
     refine ⟨_, _, cs, rfl, by rw [HLF.out]; have := HLN.out; omega, HRW.out, ⟨?_, HLK.out⟩, HG1.out.trans HG.out⟩
     rw [HLF.out]
     simpa using HPM.out
end Mt
end Go.Proofs.YtlfoglklibhbnaaGreat
