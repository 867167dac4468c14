/- Parts of the proof of TopPoint. No condition of their own. -/
import Derived.Test.YtlfoglklibhbnaaGreatTqC
import Derived.Deep.DeepCutAuto
import Derived.Deep.RegionHeld3
set_option linter.unusedVariables false
set_option linter.unusedSimpArgs false
namespace Go.Proofs.YtlfoglklibhbnaaGreat
open Go.RowKit
namespace Mt
attribute [local go_sem ↓] Go.wp_at_zero Go.wp_at_succ
def pav (ps : List PA) : List Value := ps.flatMap PA.vs
theorem pav_snoc (ps : List PA) (p : PA) : pav (ps ++ [p]) = pav ps ++ p.vs := by simp [pav]
theorem pav_get : ∀ (ps : List PA) (i : Nat) (h : i < ps.length) (j : Nat), j < 4 → (pav ps)[i * 4 + j]? = (ps[i]).vs[j]?
 | [], i, h, _, _ => by simp at h
 | c :: ps, i, h, j, hj => by
  have e : pav (c :: ps) = c.vs ++ pav ps := rfl
  have hl : c.vs.length = 4 := rfl
  rw [e]
  cases i with
  | zero => rw [List.getElem?_append_left (by omega)]; simp
  | succ i =>
   rw [List.getElem?_append_right (by omega), hl, show (i + 1) * 4 + j - 4 = i * 4 + j by omega]
   simpa using pav_get ps i (by simpa using h) j hj
def PRows (w : World) (a : Option Addr) (ps : List PA) : Prop :=
 (0 < ps.length → ∃ b off, a = some ⟨b, off, none⟩ ∧ ∀ i (h : i < ps.length) j v, (ps[i]).vs[j]? = some v → w.cell? ⟨b, off + (i * 4 + j), none⟩ = some v) ∧ ∀ p ∈ ps, PMem w p
theorem PRows.later {w w' : World} {a : Option Addr} {ps : List PA} (h : PRows w a ps) (g : Gr w w') : PRows w' a ps := by
 refine ⟨fun hl => ?_, fun c hc => (h.2 c hc).later g⟩
 obtain ⟨b, off, e, hc⟩ := h.1 hl
 exact ⟨b, off, e, fun i hi j v hv => by rw [g.cell (lt_of_cell (hc i hi j v hv))]; exact hc i hi j v hv⟩
theorem pvs_lt {c : PA} {j : Nat} {v : Value} (h : c.vs[j]? = some v) : j < 4 := (List.getElem?_eq_some_iff.1 h).1
theorem pa_rows {w : World} {base : Nat} {v : Value} {ps : List PA} (h : w.ownsRow base 70 4 v ps.length (pav ps)) (hc : ∀ c ∈ ps, PMem w c) : ∃ a cap, v = .slice a ps.length cap ∧ ps.length ≤ cap ∧ PRows w a ps := by
 have h' := h
 obtain ⟨h1, h2⟩ := h
 rcases h2 with ⟨hv, h0⟩ | ⟨g, cap, cur, hv, hb, hh, hnc, hrest⟩
 ·exact ⟨none, 0, by rw [hv, h0], by omega, fun hl => by omega, hc⟩
 ·refine ⟨some ⟨g, 0, none⟩, cap, hv, hnc, fun _ => ⟨g, 0, rfl, fun i hi j v' hj => ?_⟩, hc⟩
  have hcell : ∀ j u, (pav ps)[j]? = some u → w.cell? ((⟨g, 0, none⟩ : Addr).add j) = some u := World.ownsRow.cells h' (by rw [hv]; rfl)
  have := hcell (i * 4 + j) v' (by rw [pav_get ps i hi j (pvs_lt hj)]; exact hj)
  rwa [add_none] at this
theorem prow_op {w : World} {a : Option Addr} {ps : List PA} (h : PRows w a ps) {i : Nat} (hi : i < ps.length) : ∃ b off, a = some ⟨b, off, none⟩ ∧ b < w.heap.size ∧ PMem w ps[i] ∧ w.cell? ⟨b, off + i * 4, none⟩ = some (.slice (ps[i]).ta (ps[i]).tris.length (ps[i]).tc) ∧ w.cell? ⟨b, off + i * 4 + 1, none⟩ = some (.slice (ps[i]).ua (ps[i]).uv.length (ps[i]).uc) ∧ w.cell? ⟨b, off + i * 4 + 2, none⟩ = some (.int .i64 (ps[i]).W) ∧ w.cell? ⟨b, off + i * 4 + 3, none⟩ = some (.int .i64 (ps[i]).H) := by
 obtain ⟨b, off, e, hc⟩ := h.1 (by omega)
 have c0 := hc i hi 0 _ rfl; have c1 := hc i hi 1 _ rfl; have c2 := hc i hi 2 _ rfl; have c3 := hc i hi 3 _ rfl
 rw [← Nat.add_assoc] at c0 c1 c2 c3
 exact ⟨b, off, e, lt_of_cell c0, h.2 _ (List.getElem_mem _), c0, c1, c2, c3⟩
def numB (w h p : Int) : Bool := (decide (1 ≤ w) && decide (1 ≤ h) && decide (1 ≤ p)) && (decide (w ≤ 256) && decide (h ≤ 256) && decide (p ≤ 8))
set_option maxHeartbeats 4000000 in
set_option maxRecDepth 100000 in
theorem numbers_any (x y p : Int) (w : World) :
  Calls Tryz.prog 44 #[.int .i64 x, .int .i64 y, .int .i64 p] w fun e w' => e = .returned (.bool (numB x y p)) ∧ w = w' := by
 obtain ⟨m, hm⟩ : ∃ m, (if p < (if y < x then y else x) then p else (if y < x then y else x)) = m := ⟨_, rfl⟩
 have hm1 : (1 ≤ m) ↔ (1 ≤ x ∧ 1 ≤ y ∧ 1 ≤ p) := by rw [← hm]; split <;> split <;> omega
 have hk1 : (max x y ≤ 256) ↔ (x ≤ 256 ∧ y ≤ 256) := by omega
 have hn : numB x y p = (decide (1 ≤ m) && (decide (max x y ≤ 256) && decide (p ≤ 8))) := by
  unfold numB
  rw [Bool.eq_iff_iff]
  simp only [Bool.and_eq_true, decide_eq_true_eq]
  rw [hm1, hk1]
  omega
 rw [hn]
 clear hn hm1 hk1
 by_cases h1 : 1 ≤ m
 ·have d1 : decide (1 ≤ m) = true := by simpa using h1
  by_cases h2 : max x y ≤ 256
  ·have d2 : decide (max x y ≤ 256) = true := by simpa using h2
   rw [d1, d2]
   clear h1 h2
   go_enter Tryz.func44, Tryz.ntmps44
   go_wp2_with fail
   go_ret
   exact ⟨by simp, rfl⟩
  ·have d2 : decide (max x y ≤ 256) = false := by simpa using h2
   rw [d1, d2]
   clear h1 h2
   go_enter Tryz.func44, Tryz.ntmps44
   go_wp2_with fail
   go_ret
   exact ⟨by simp, rfl⟩
 ·have d1 : decide (1 ≤ m) = false := by simpa using h1
  rw [d1]
  clear h1
  go_enter Tryz.func44, Tryz.ntmps44
  go_wp2_with fail
  go_ret
  exact ⟨by simp, rfl⟩
theorem rows_blk {m : Nat} {w0 w : World} {a : Option Addr} {len g : Nat} {zs : List (List Int)} (h0 : Oi.IsRows m w0 a len zs) (h : Blk w g (Ro.fl zs)) : Oi.IsRows m w (some ⟨g, 0, none⟩) len zs :=
 ⟨h0.1, h0.2.1, h0.2.2.1, fun _ => ⟨g, 0, rfl, fun i j hi hj => by
  have := Ro.fl_get zs (fun z hz => (h0.2.2.1 z hz).1) i j (by rw [h0.1]; exact hi) hj
  rw [Nat.zero_add]; exact h.cell _ this⟩⟩
def PA.fr (p : PA) (pad : Int) : List Value := [.slice p.ta p.tris.length p.tc, .slice p.ua p.uv.length p.uc, .int .i64 p.W, .int .i64 p.H, .int .i64 pad]
set_option maxHeartbeats 4000000 in
set_option maxRecDepth 100000 in
theorem fsize_any (p : PA) (pad : Int) (h0 : 0 ≤ p.W ∧ p.W ≤ 1000) (h1 : 0 ≤ p.H ∧ p.H ≤ 1000) (h2 : 0 ≤ pad ∧ pad ≤ 8) (w : World) :
  Calls Tryz.prog 47 #[.agg (p.fr pad).toArray] w fun e w' => e = .returned (.agg #[.int .i64 (p.W + 2 * pad), .int .i64 (p.H + 2 * pad)]) ∧ Gr w w' := by
 obtain ⟨ta, tc, tris, ua, uc, uv, W, H⟩ := p
 show Calls _ _ #[.agg #[.slice ta tris.length tc, .slice ua uv.length uc, .int .i64 W, .int .i64 H, .int .i64 pad]] _ _
 simp only at h0 h1
 have hB : Bx (w.alloc (.cells #[.slice ta tris.length tc, .slice ua uv.length uc, .int .i64 W, .int .i64 H, .int .i64 pad] 119)) w.heap.size 119 [.slice ta tris.length tc, .slice ua uv.length uc, .int .i64 W, .int .i64 H, .int .i64 pad] := Bx.new (vs := [.slice ta tris.length tc, .slice ua uv.length uc, .int .i64 W, .int .i64 H, .int .i64 pad]) rfl
 have c2 := hB.blk.cell 2 rfl; have c3 := hB.blk.cell 3 rfl; have c4 := hB.blk.cell 4 rfl
 clear hB
 go_enter Tryz.func47, Tryz.ntmps47
 go_wp2_with fail
 refine bodyPost_ret (res_agg (vs := [.int .i64 (W + 2 * pad), .int .i64 (H + 2 * pad)]) rfl ti_v2 rfl (Bx.new (w := w.alloc (.cells #[.slice ta tris.length tc, .slice ua uv.length uc, .int .i64 W, .int .i64 H, .int .i64 pad] 119)) (vs := [.int .i64 (W + 2 * pad), .int .i64 (H + 2 * pad)]) (by simp)) rfl) rfl ⟨rfl, ((Gr.refl w).alloc _).alloc _⟩
set_option maxHeartbeats 4000000 in
set_option maxRecDepth 100000 in
theorem own_any (p : PA) (pad : Int) (w : World) (hm : PMem w p) (hl : p.tris.length = p.uv.length) (hp : 0 < p.uv.length) (hf : p.uv.length ≤ 12) :
  Calls Tryz.prog 49 #[.agg (p.fr pad).toArray] w fun e w' => ∃ q : PA, e = .returned (.agg q.vs.toArray) ∧ (q.tris = p.tris ∧ q.uv = p.uv ∧ q.W = p.W ∧ q.H = p.H) ∧ PMem w' q ∧ (∀ ad : Addr, q.ta = some ad → w.heap.size ≤ ad.block) ∧ (∀ ad : Addr, q.ua = some ad → w.heap.size ≤ ad.block) ∧ Gr w w' := by
 obtain ⟨ta, tc, tris, ua, uc, uv, W, H⟩ := p
 show Calls _ _ #[.agg #[.slice ta tris.length tc, .slice ua uv.length uc, .int .i64 W, .int .i64 H, .int .i64 pad]] _ _
 simp only at hl hp hf hm
 obtain ⟨h1, h2, h3, h4⟩ := hm
 simp only at h1 h2 h3 h4
 obtain ⟨bt, ot, rfl, _⟩ := row_at h1 (show 0 < tris.length by omega)
 obtain ⟨bu, ou, _, _, _, _, _, _, rfl, _⟩ := rows6_op h2 hp
 obtain ⟨V, hV⟩ : ∃ V, (w.alloc (.cells #[.slice (some ⟨bt, ot, none⟩) tris.length tc, .slice (some ⟨bu, ou, none⟩) uv.length uc, .int .i64 W, .int .i64 H, .int .i64 pad] 119)).alloc (.cells #[.slice none 0 0, .slice none 0 0, .int .i64 0, .int .i64 0] 70) = V := ⟨_, rfl⟩
 have hB : Bx V w.heap.size 119 [.slice (some ⟨bt, ot, none⟩) tris.length tc, .slice (some ⟨bu, ou, none⟩) uv.length uc, .int .i64 W, .int .i64 H, .int .i64 pad] := by rw [← hV]; exact (Bx.new (vs := [.slice (some ⟨bt, ot, none⟩) tris.length tc, .slice (some ⟨bu, ou, none⟩) uv.length uc, .int .i64 W, .int .i64 H, .int .i64 pad]) rfl).alloc _
 have hZ : Bx V (w.heap.size + 1) 70 [.slice none 0 0, .slice none 0 0, .int .i64 0, .int .i64 0] := by rw [← hV]; exact Bx.new (vs := [.slice none 0 0, .slice none 0 0, .int .i64 0, .int .i64 0]) (by simp)
 have hgV : Gr w V := by rw [← hV]; exact ((Gr.refl w).alloc _).alloc _
 have HB := Lib.hid hB; have HZ := Lib.hid hZ; have HG := Lib.hid hgV; have H1 := Lib.hid h1; have H2 := Lib.hid h2
 have c0 := hB.blk.cell 0 rfl; have lB := hB.lt
 have hlt : tris.length ≤ 1000 := by omega
 have hlt0 : 0 < tris.length := by omega
 clear hB hZ hgV h1 h2 h3 h4
 obtain ⟨lt, hlt1⟩ : ∃ lt, tris.length = lt := ⟨_, rfl⟩
 have hlu1 : uv.length = lt := by omega
 have HLT := Lib.hid hlt1; have HLU := Lib.hid hlu1
 rw [hlt1] at hlt hlt0 c0 HB H1 hV
 rw [hlu1] at hp hf HB H2 hV
 rw [hlt1, hlu1]
 clear hl hlt1 hlu1
 go_enter Tryz.func49, Tryz.ntmps49
 go_wp2_with fail
 refine wp_region_held_drew (S := fun w' => w'.cell? ⟨w.heap.size, 0, none⟩ = some (.slice (some ⟨bt, ot, none⟩) lt tc) ∧ w'.cell? ⟨w.heap.size, 1, none⟩ = some (.slice (some ⟨bu, ou, none⟩) lt uc) ∧ w'.cell? ⟨w.heap.size, 2, none⟩ = some (.int .i64 W) ∧ w'.cell? ⟨w.heap.size, 3, none⟩ = some (.int .i64 H)) (by kernel_rfl) ?_ (fun hH => ?_)
 ·exact ⟨HB.out.blk.cell 0 rfl, HB.out.blk.cell 1 rfl, HB.out.blk.cell 2 rfl, HB.out.blk.cell 3 rfl⟩
 refine' wpAnyH_take (i := 0) (v := _) rfl (by kernel_rfl) (by kernel_rfl) (by kernel_rfl) (fun _ _ _ h => h) (Or.inl ⟨by rfl, ?thy1_0⟩) (by assumption) ?_
 case thy1_0 => (intro w hSw; (try dsimp only at hSw); go_simp; try with_reducible rfl)
 try simp only [Act.put, List.setIfInBounds_toArray, List.set_cons_zero, List.set_cons_succ, List.getElem_toArray, List.getElem_cons_zero]
 refine' wpAnyH_take (i := 1) (v := _) rfl (by kernel_rfl) (by kernel_rfl) (by kernel_rfl) (fun _ _ _ h => h) (Or.inl ⟨by rfl, ?thy1_1⟩) (by assumption) ?_
 case thy1_1 => (intro w hSw; (try dsimp only at hSw); go_simp; try with_reducible rfl)
 try simp only [Act.put, List.setIfInBounds_toArray, List.set_cons_zero, List.set_cons_succ, List.getElem_toArray, List.getElem_cons_succ, List.getElem_cons_zero]
 refine' wpAnyH_take (i := 2) (v := _) rfl (by kernel_rfl) (by kernel_rfl) (by kernel_rfl) (fun _ _ _ h => h) (Or.inl ⟨by rfl, ?thy1_2⟩) (by assumption) ?_
 case thy1_2 => (intro w hSw; (try dsimp only at hSw); go_simp; try with_reducible rfl)
 try simp only [Act.put, List.setIfInBounds_toArray, List.set_cons_zero, List.set_cons_succ, List.getElem_toArray, List.getElem_cons_succ, List.getElem_cons_zero]
 refine' wpAnyH_take (i := 4) (v := _) rfl (by kernel_rfl) (by kernel_rfl) (by kernel_rfl) (fun _ _ _ h => h) (Or.inl ⟨by rfl, ?thy1_3⟩) (by assumption) ?_
 case thy1_3 => (intro w hSw; (try dsimp only at hSw); go_simp; try with_reducible rfl)
 try simp only [Act.put, List.setIfInBounds_toArray, List.set_cons_zero, List.set_cons_succ, List.getElem_toArray, List.getElem_cons_succ, List.getElem_cons_zero]
 refine' wpAnyH_take (i := 5) (v := _) rfl (by kernel_rfl) (by kernel_rfl) (by kernel_rfl) (fun _ _ _ h => h) (Or.inl ⟨by rfl, ?thy1_4⟩) (by assumption) ?_
 case thy1_4 => (intro w hSw; (try dsimp only at hSw); go_simp; try with_reducible rfl)
 try simp only [Act.put, List.setIfInBounds_toArray, List.set_cons_zero, List.set_cons_succ, List.getElem_toArray, List.getElem_cons_succ, List.getElem_cons_zero]
 refine' wpAnyH_take (i := 6) (v := _) rfl (by kernel_rfl) (by kernel_rfl) (by kernel_rfl) (fun _ _ _ h => h) (Or.inl ⟨by rfl, ?thy1_5⟩) (by assumption) ?_
 case thy1_5 => (intro w hSw; (try dsimp only at hSw); go_simp; try with_reducible rfl)
 try simp only [Act.put, List.setIfInBounds_toArray, List.set_cons_zero, List.set_cons_succ, List.getElem_toArray, List.getElem_cons_succ, List.getElem_cons_zero]
 refine' wpAnyH_take (i := 8) (v := _) rfl (by kernel_rfl) (by kernel_rfl) (by kernel_rfl) (fun _ _ _ h => h) (Or.inl ⟨by rfl, ?thy1_6⟩) (by assumption) ?_
 case thy1_6 => (intro w hSw; (try dsimp only at hSw); go_simp; try with_reducible rfl)
 try simp only [Act.put, List.setIfInBounds_toArray, List.set_cons_zero, List.set_cons_succ, List.getElem_toArray, List.getElem_cons_succ, List.getElem_cons_zero]
 refine' wpAnyH_take (i := 9) (v := _) rfl (by kernel_rfl) (by kernel_rfl) (by kernel_rfl) (fun _ _ _ h => h) (Or.inl ⟨by rfl, ?thy1_7⟩) (by assumption) ?_
 case thy1_7 => (intro w hSw; (try dsimp only at hSw); go_simp; try with_reducible rfl)
 try simp only [Act.put, List.setIfInBounds_toArray, List.set_cons_zero, List.set_cons_succ, List.getElem_toArray, List.getElem_cons_succ, List.getElem_cons_zero]
 refine' wpAnyH_take (i := 10) (v := _) rfl (by kernel_rfl) (by kernel_rfl) (by kernel_rfl) (fun _ _ _ h => h) (Or.inl ⟨by rfl, ?thy1_8⟩) (by assumption) ?_
 case thy1_8 => (intro w hSw; (try dsimp only at hSw); go_simp; try with_reducible rfl)
 try simp only [Act.put, List.setIfInBounds_toArray, List.set_cons_zero, List.set_cons_succ, List.getElem_toArray, List.getElem_cons_succ, List.getElem_cons_zero]
 refine' wpAnyH_take (i := 11) (v := _) rfl (by kernel_rfl) (by kernel_rfl) (by kernel_rfl) (fun _ _ _ h => h) (Or.inl ⟨by rfl, ?thy1_9⟩) (by assumption) ?_
 case thy1_9 => (intro w hSw; (try dsimp only at hSw); go_simp; try with_reducible rfl)
 try simp only [Act.put, List.setIfInBounds_toArray, List.set_cons_zero, List.set_cons_succ, List.getElem_toArray, List.getElem_cons_succ, List.getElem_cons_zero]
 refine' wpAnyH_take (i := 12) (v := _) rfl (by kernel_rfl) (by kernel_rfl) (by kernel_rfl) (fun _ _ _ h => h) (Or.inl ⟨by rfl, ?thy1_10⟩) (by assumption) ?_
 case thy1_10 => (intro w hSw; (try dsimp only at hSw); go_simp; try with_reducible rfl)
 try simp only [Act.put, List.setIfInBounds_toArray, List.set_cons_zero, List.set_cons_succ, List.getElem_toArray, List.getElem_cons_succ, List.getElem_cons_zero]
 refine' wpAnyH_take (i := 13) (v := _) rfl (by kernel_rfl) (by kernel_rfl) (by kernel_rfl) (fun _ _ _ h => h) (Or.inl ⟨by rfl, ?thy1_11⟩) (by assumption) ?_
 case thy1_11 => (intro w hSw; (try dsimp only at hSw); go_simp; try with_reducible rfl)
 try simp only [Act.put, List.setIfInBounds_toArray, List.set_cons_zero, List.set_cons_succ, List.getElem_toArray, List.getElem_cons_succ, List.getElem_cons_zero]
 refine wpAnyH_ready (rs := [3]) (by kernel_rfl) (by simp) ?_
 refine AllReadyH.cons rfl (fun K hK => ?_) AllReadyH.nil
 go_simp
 go_at_call 43
 refine (clone_any bt ot lt tc tris _ (H1.out.later HG.out.drew) hlt0 hlt).mono ?_
 rintro e w2 ⟨g1, k1, rfl, hge1, hc1, hr1, hg⟩
 have HR1 := Lib.hid hr1; have HG2 := Lib.hid (HG.out.drew.trans hg); have HZ2 := Lib.hid (bx_drew HZ.out |>.gr hg)
 clear hr1
 have Q := Lib.hid ((bx_drew HB.out).gr hg); clear HB; have HB := Lib.hid Q.out; clear Q
 have hcc : w2.cell? ⟨w.heap.size, 0, none⟩ = some (.slice (some ⟨bt, ot, none⟩) lt tc) ∧ w2.cell? ⟨w.heap.size, 1, none⟩ = some (.slice (some ⟨bu, ou, none⟩) lt uc) ∧ w2.cell? ⟨w.heap.size, 2, none⟩ = some (.int .i64 W) ∧ w2.cell? ⟨w.heap.size, 3, none⟩ = some (.int .i64 H) := ⟨HB.out.blk.cell 0 rfl, HB.out.blk.cell 1 rfl, HB.out.blk.cell 2 rfl, HB.out.blk.cell 3 rfl⟩
 clear hg
 go_wp2_with fail
 refine hK.out _ _ ?_ (fun hN => ?_)
 ·exact hcc
 clear hK K hH hcc
 have hH := hN; clear hN
 try simp only [Act.put, List.setIfInBounds_toArray, List.set_cons_zero, List.set_cons_succ, List.getElem_toArray, List.getElem_cons_succ, List.getElem_cons_zero]
 refine wpAnyH_ready (rs := [7]) (by kernel_rfl) (by simp) ?_
 refine AllReadyH.cons rfl (fun K hK => ?_) AllReadyH.nil
 go_simp
 go_at_call 72
 refine (clone6_any bu ou lt uc uv _ (H2.out.later HG2.out) hlt0 hlt).mono ?_
 rintro e w3 ⟨g2, k2, rfl, hge2, hc2, hr2, hg⟩
 have HR2 := Lib.hid hr2; have HR3 := Lib.hid (HR1.out.later hg); have HG3 := Lib.hid (HG2.out.trans hg); have hZ3 := HZ2.out.gr hg; have HZ3 := Lib.hid hZ3
 clear hr2
 have Q := Lib.hid ((HB.out).gr hg); clear HB; have HB := Lib.hid Q.out; clear Q
 have hcc : w3.cell? ⟨w.heap.size, 0, none⟩ = some (.slice (some ⟨bt, ot, none⟩) lt tc) ∧ w3.cell? ⟨w.heap.size, 1, none⟩ = some (.slice (some ⟨bu, ou, none⟩) lt uc) ∧ w3.cell? ⟨w.heap.size, 2, none⟩ = some (.int .i64 W) ∧ w3.cell? ⟨w.heap.size, 3, none⟩ = some (.int .i64 H) := ⟨HB.out.blk.cell 0 rfl, HB.out.blk.cell 1 rfl, HB.out.blk.cell 2 rfl, HB.out.blk.cell 3 rfl⟩
 clear hg
 go_wp2_with fail
 refine hK.out _ _ ?_ (fun hN => ?_)
 ·exact hcc
 clear hK K hH hcc
 have hH := hN; clear hN
 try simp only [Act.put, List.setIfInBounds_toArray, List.set_cons_zero, List.set_cons_succ, List.getElem_toArray, List.getElem_cons_succ, List.getElem_cons_zero]
 refine' wpAnyH_take (i := 14) (v := _) rfl (by kernel_rfl) (by kernel_rfl) (by kernel_rfl) (fun _ _ _ h => h) (Or.inl ⟨by rfl, ?thy1_12⟩) (by assumption) ?_
 case thy1_12 => (intro w hSw; (try dsimp only at hSw); go_simp; try with_reducible rfl)
 try simp only [Act.put, List.setIfInBounds_toArray, List.set_cons_zero, List.set_cons_succ, List.getElem_toArray, List.getElem_cons_succ, List.getElem_cons_zero]
 have z0 := hZ3.blk.cell 0 rfl; have z1 := hZ3.blk.cell 1 rfl; have z2 := hZ3.blk.cell 2 rfl; have z3 := hZ3.blk.cell 3 rfl; have y0 := hZ3.blk.free 0 rfl; have y1 := hZ3.blk.free 1 rfl; have y2 := hZ3.blk.free 2 rfl; have y3 := hZ3.blk.free 3 rfl; have lz := hZ3.lt
 refine wpAnyH_ready (rs := [15]) (by kernel_rfl) (by simp) ?_
 refine AllReadyH.cons rfl (fun K hK => ?_) AllReadyH.nil
 go_simp
 refine hK.out _ _ ?_ (fun hN => ?_)
 ·exact ⟨(by rw [World.cell?_setCell_other _ _ _ _ (by intro h; injection h with h _; omega), World.cell?_setCell_other _ _ _ _ (by intro h; injection h with h _; omega), World.cell?_setCell_other _ _ _ _ (by intro h; injection h with h _; omega), World.cell?_setCell_other _ _ _ _ (by intro h; injection h with h _; omega)]; exact hH.1), (by rw [World.cell?_setCell_other _ _ _ _ (by intro h; injection h with h _; omega), World.cell?_setCell_other _ _ _ _ (by intro h; injection h with h _; omega), World.cell?_setCell_other _ _ _ _ (by intro h; injection h with h _; omega), World.cell?_setCell_other _ _ _ _ (by intro h; injection h with h _; omega)]; exact hH.2.1), (by rw [World.cell?_setCell_other _ _ _ _ (by intro h; injection h with h _; omega), World.cell?_setCell_other _ _ _ _ (by intro h; injection h with h _; omega), World.cell?_setCell_other _ _ _ _ (by intro h; injection h with h _; omega), World.cell?_setCell_other _ _ _ _ (by intro h; injection h with h _; omega)]; exact hH.2.2.1), (by rw [World.cell?_setCell_other _ _ _ _ (by intro h; injection h with h _; omega), World.cell?_setCell_other _ _ _ _ (by intro h; injection h with h _; omega), World.cell?_setCell_other _ _ _ _ (by intro h; injection h with h _; omega), World.cell?_setCell_other _ _ _ _ (by intro h; injection h with h _; omega)]; exact hH.2.2.2)⟩
 clear hK K hH
 have hH := hN; clear hN
 try simp only [Act.put, List.setIfInBounds_toArray, List.set_cons_zero, List.set_cons_succ, List.getElem_toArray, List.getElem_cons_succ, List.getElem_cons_zero]
 refine wpAnyH_done (by kernel_rfl) ?_ _
 go_wp2_with fail
 have hgV2 := HG.out.size
 have hg1 : w.heap.size + 1 < g1 := by have := HZ.out.lt; have : V.heap.size ≤ g1 := hge1; omega
 have hg2 : w.heap.size + 1 < g2 := by have := HZ2.out.lt; omega
 refine bodyPost_ret (res_agg (vs := [.slice (some ⟨g1, 0, none⟩) lt k1, .slice (some ⟨g2, 0, none⟩) lt k2, .int .i64 W, .int .i64 H]) rfl ti_patch rfl (bx_seti (bx_seti (bx_seti (bx_seti HZ3.out 0 _) 1 _) 2 _) 3 _) rfl) rfl ?_
 refine ⟨⟨some ⟨g1, 0, none⟩, k1, tris, some ⟨g2, 0, none⟩, k2, uv, W, H⟩, ?_, ⟨rfl, rfl, rfl, rfl⟩, ⟨?_, ?_, ?_, ?_⟩, fun ad h => (by cases h; show w.heap.size ≤ g1; omega), fun ad h => (by cases h; show w.heap.size ≤ g2; omega), ?_⟩
 ·show Ending.returned (.agg #[.slice (some ⟨g1, 0, none⟩) lt k1, .slice (some ⟨g2, 0, none⟩) lt k2, .int .i64 W, .int .i64 H]) = Ending.returned (.agg #[.slice (some ⟨g1, 0, none⟩) tris.length k1, .slice (some ⟨g2, 0, none⟩) uv.length k2, .int .i64 W, .int .i64 H])
  rw [HLT.out, HLU.out]
 ·show IsRow .i64 _ (some ⟨g1, 0, none⟩) tris.length tris
  rw [HLT.out]
  exact row_ks HR3.out (ks_four w3 (w.heap.size + 1) _ _ _ _) (fun ad h => by cases h; show ¬ g1 = _; omega)
 ·show Oi.IsRows 6 _ (some ⟨g2, 0, none⟩) uv.length uv
  rw [HLU.out]
  exact rows_ks (rows_blk H2.out HR2.out) (ks_four w3 (w.heap.size + 1) _ _ _ _) (fun ad h => by cases h; show ¬ g2 = _; omega)
 ·show uv.length ≤ k2
  rw [HLU.out]; exact hc2
 ·show tris.length ≤ k1
  rw [HLT.out]; exact hc1
 ·exact (((HG3.out.setCell (by show w.heap.size ≤ w.heap.size + 1; omega) _).setCell (by show w.heap.size ≤ w.heap.size + 1; omega) _).setCell (by show w.heap.size ≤ w.heap.size + 1; omega) _).setCell (by show w.heap.size ≤ w.heap.size + 1; omega) _
set_option maxHeartbeats 4000000 in
set_option maxRecDepth 100000 in
theorem nan_any (x : Int) (w : World) :
  Calls Tryz.prog 111 #[.int .i64 x] w fun e w' => e = .returned (.bool false) ∧ w = w' := by
 go_enter Tryz.func111, Tryz.ntmps111
 go_wp2_with fail
 go_ret
 exact ⟨rfl, rfl⟩
set_option maxHeartbeats 4000000 in
set_option maxRecDepth 100000 in
theorem cmp_any (x y : Int) (w : World) :
  Calls Tryz.prog 85 #[.int .i64 x, .int .i64 y] w fun e w' => e = .returned (.int .i64 (if x < y then -1 else if y < x then 1 else 0)) ∧ w = w' := by
 by_cases h1 : x < y
 ·have d1 : decide (x < y) = true := by simpa using h1
  rw [if_pos h1]
  go_enter Tryz.func85, Tryz.ntmps85
  go_wp2_with fail
  refine (nan_any x w).mono ?_
  rintro e w1 ⟨rfl, rfl⟩
  go_wp2_with fail
  refine (nan_any y w).mono ?_
  rintro e w1 ⟨rfl, rfl⟩
  go_wp2_with fail
  go_ret
  exact ⟨rfl, rfl⟩
 ·have d1 : decide (x < y) = false := by simpa using h1
  rw [if_neg h1]
  by_cases h2 : y < x
  ·have d2 : decide (y < x) = true := by simpa using h2
   rw [if_pos h2]
   go_enter Tryz.func85, Tryz.ntmps85
   go_wp2_with fail
   refine (nan_any x w).mono ?_
   rintro e w1 ⟨rfl, rfl⟩
   go_wp2_with fail
   refine (nan_any y w).mono ?_
   rintro e w1 ⟨rfl, rfl⟩
   go_wp2_with fail
   go_ret
   exact ⟨rfl, rfl⟩
  ·have d2 : decide (y < x) = false := by simpa using h2
   rw [if_neg h2]
   go_enter Tryz.func85, Tryz.ntmps85
   go_wp2_with fail
   refine (nan_any x w).mono ?_
   rintro e w1 ⟨rfl, rfl⟩
   go_wp2_with fail
   refine (nan_any y w).mono ?_
   rintro e w1 ⟨rfl, rfl⟩
   go_wp2_with fail
   go_ret
   exact ⟨rfl, rfl⟩
end Mt
end Go.Proofs.YtlfoglklibhbnaaGreat
namespace Go.Proofs.YtlfoglklibhbnaaGreat
open Go.RowKit
namespace Mt
attribute [local go_sem ↓] Go.wp_at_zero Go.wp_at_succ
theorem gr_of_eq {a b : World} (h : a = b) : Gr a b := by rw [← h]; exact Gr.refl _
theorem cmpx_any (x y : Int) (w : World) : Calls Tryz.prog 85 #[.int .i64 x, .int .i64 y] w fun e w' => ∃ c : Int, e = .returned (.int .i64 c) ∧ w = w' := (cmp_any x y w).mono fun e w' h => ⟨_, h.1, h.2⟩
set_option maxHeartbeats 4000000 in
set_option maxRecDepth 100000 in
theorem or_any (b : Nat) (x y z : Int) (w : World) (hb : Blk w b [.int .i64 x, .int .i64 y, .int .i64 z]) :
  Calls Tryz.prog 103 #[.slice (some ⟨b, 0, none⟩) 3 3] w fun e w' => ∃ c : Int, e = .returned (.int .i64 c) ∧ w = w' := by
 have HB := Lib.hid hb
 clear hb
 go_enter Tryz.func103, Tryz.ntmps103
 go_wp2_with fail
 go_loopw [8] (fun v8 wr => ∃ i : Nat, i ≤ 3 ∧ v8 = .int .i64 i ∧ w = wr) (fun v8 _ => 3 - (intOf v8).toNat)
 case atStart => exact ⟨0, by omega, rfl, rfl⟩
 case round =>
  obtain ⟨i, hi, rfl, hw⟩ := hrel
  subst hw
  by_cases hlt : i < 3
  ·obtain ⟨z', hz⟩ : ∃ z, w.cell? ⟨b, i, none⟩ = some (.int .i64 z) := by
    have hi3 : i = 0 ∨ i = 1 ∨ i = 2 := by omega
    rcases hi3 with rfl | rfl | rfl
    ·exact ⟨x, HB.out.cell 0 rfl⟩
    ·exact ⟨y, HB.out.cell 1 rfl⟩
    ·exact ⟨z, HB.out.cell 2 rfl⟩
   have hi0 : (0 : Int) ≤ (i : Int) := by omega
   have lb := HB.out.1
   by_cases h0 : z' = 0
   ·subst h0
    go_wp2_with fail
    go_roundw
    case rel => exact ⟨i + 1, by omega, by go_num, trivial⟩
    case measure => simp [intOf]; omega
   ·have d0 : (z' == 0) = false := by simpa using h0
    clear h0
    go_wp2_with fail
    go_ret
    exact ⟨z', rfl, rfl⟩
  ·have : i = 3 := by omega
   subst this
   go_wp2_with fail
   go_ret
   exact ⟨0, rfl, rfl⟩
theorem bx_fr {w : World} {b : Nat} {T : TypeId} {vs : List Value} (h : Bx w b T vs) {p : Addr} (hne : ¬ b = p.block) (v : Value) : Bx (w.setCell p v) b T vs := (Below.heap_setCell w p v b hne).trans h
set_option maxHeartbeats 8000000 in
set_option maxRecDepth 100000 in
theorem by_any (a : Option Addr) (cap i k : Nat) (ps : List PA) (w : World) (hr : PRows w a ps) (hi : i < ps.length) (hk : k < ps.length) (hl : ps.length ≤ 1000) :
  Calls Tryz.prog 75 #[.slice a ps.length cap, .int .i64 i, .int .i64 k] w fun e w' => ∃ c : Int, e = .returned (.int .i64 c) ∧ Gr w w' := by
 obtain ⟨b, off, rfl, lb, _, c0, c1, c2, c3⟩ := prow_op hr hi
 obtain ⟨_, _, e, _, _, q0, q1, q2, q3⟩ := prow_op hr hk
 cases e
 generalize ps[i] = pi at *
 generalize ps[k] = pk at *
 obtain ⟨ta0, tc0, tris0, ua0, uc0, uv0, W0, H0⟩ := pi
 obtain ⟨ta1, tc1, tris1, ua1, uc1, uv1, W1, H1⟩ := pk
 simp only at c0 c1 c2 c3 q0 q1 q2 q3
 generalize tris0.length = lt0 at *
 generalize uv0.length = lu0 at *
 generalize tris1.length = lt1 at *
 generalize uv1.length = lu1 at *
 generalize ps.length = len at *
 have hi0 : (0 : Int) ≤ (i : Int) := by omega
 have hk0 : (0 : Int) ≤ (k : Int) := by omega
 clear hr
 go_enter Tryz.func75, Tryz.ntmps75
 go_wp2_with fail
 go_cut [7, 8] (fun v7 v8 wx => ∃ s7 s8, v7 = .pointer (some ⟨s7, 0, none⟩) ∧ v8 = .pointer (some ⟨s8, 0, none⟩) ∧ Bx wx s7 70 [.slice ta0 lt0 tc0, .slice ua0 lu0 uc0, .int .i64 W0, .int .i64 H0] ∧ Bx wx s8 70 [.slice ta1 lt1 tc1, .slice ua1 lu1 uc1, .int .i64 W1, .int .i64 H1] ∧ Gr w wx)
 case first =>
  obtain ⟨X, hX⟩ : ∃ X, ((w.alloc (.cells #[.slice none 0 0, .slice none 0 0, .int .i64 0, .int .i64 0] 70)).alloc (.cells #[.slice none 0 0, .slice none 0 0, .int .i64 0, .int .i64 0] 70)).drew = X := ⟨_, rfl⟩
  have hb0 : Bx X w.heap.size 70 [.slice none 0 0, .slice none 0 0, .int .i64 0, .int .i64 0] := by rw [← hX]; exact (Bx.new (vs := [.slice none 0 0, .slice none 0 0, .int .i64 0, .int .i64 0]) rfl).alloc _
  have hb1 : Bx X (w.heap.size + 1) 70 [.slice none 0 0, .slice none 0 0, .int .i64 0, .int .i64 0] := by rw [← hX]; exact Bx.new (w := w.alloc (.cells #[.slice none 0 0, .slice none 0 0, .int .i64 0, .int .i64 0] 70)) (vs := [.slice none 0 0, .slice none 0 0, .int .i64 0, .int .i64 0]) (by simp)
  have HGX := Lib.hid (show Gr w X from by rw [← hX]; exact (((Gr.refl w).alloc _).alloc _).drew)
  have HX0 := Lib.hid hb0; have HX1 := Lib.hid hb1
  have d0 := hb0.blk.cell 0 rfl; have d1 := hb0.blk.cell 1 rfl; have d2 := hb0.blk.cell 2 rfl; have d3 := hb0.blk.cell 3 rfl; have e0 := hb1.blk.cell 0 rfl; have e1 := hb1.blk.cell 1 rfl; have e2 := hb1.blk.cell 2 rfl; have e3 := hb1.blk.cell 3 rfl
  have f0 := hb0.blk.free 0 rfl; have f1 := hb0.blk.free 1 rfl; have f2 := hb0.blk.free 2 rfl; have f3 := hb0.blk.free 3 rfl; have g0 := hb1.blk.free 0 rfl; have g1 := hb1.blk.free 1 rfl; have g2 := hb1.blk.free 2 rfl; have g3 := hb1.blk.free 3 rfl
  have lx0 := hb0.lt; have lx1 := hb1.lt
  clear hb0 hb1
  refine wp_region_held_drew (S := fun w' => w'.cell? ⟨b, off + i * 4, none⟩ = some (.slice ta0 lt0 tc0) ∧ w'.cell? ⟨b, off + i * 4 + 1, none⟩ = some (.slice ua0 lu0 uc0) ∧ w'.cell? ⟨b, off + i * 4 + 2, none⟩ = some (.int .i64 W0) ∧ w'.cell? ⟨b, off + i * 4 + 3, none⟩ = some (.int .i64 H0) ∧ w'.cell? ⟨b, off + k * 4, none⟩ = some (.slice ta1 lt1 tc1) ∧ w'.cell? ⟨b, off + k * 4 + 1, none⟩ = some (.slice ua1 lu1 uc1) ∧ w'.cell? ⟨b, off + k * 4 + 2, none⟩ = some (.int .i64 W1) ∧ w'.cell? ⟨b, off + k * 4 + 3, none⟩ = some (.int .i64 H1)) (by kernel_rfl) ?_ (fun hH => ?_)
  ·exact ⟨c0, c1, c2, c3, q0, q1, q2, q3⟩
  refine' wpAnyH_take (i := 0) (v := _) rfl (by kernel_rfl) (by kernel_rfl) (by kernel_rfl) (fun _ _ _ h => h) (Or.inl ⟨by rfl, ?thy1_0⟩) (by assumption) ?_
  case thy1_0 => (intro w hSw; (try dsimp only at hSw); go_simp; try with_reducible rfl)
  try simp only [Act.put, List.setIfInBounds_toArray, List.set_cons_zero, List.set_cons_succ, List.getElem_toArray, List.getElem_cons_zero]
  refine' wpAnyH_take (i := 1) (v := _) rfl (by kernel_rfl) (by kernel_rfl) (by kernel_rfl) (fun _ _ _ h => h) (Or.inl ⟨by rfl, ?thy1_1⟩) (by assumption) ?_
  case thy1_1 => (intro w hSw; (try dsimp only at hSw); go_simp; try with_reducible rfl)
  try simp only [Act.put, List.setIfInBounds_toArray, List.set_cons_zero, List.set_cons_succ, List.getElem_toArray, List.getElem_cons_succ, List.getElem_cons_zero]
  refine' wpAnyH_take (i := 2) (v := _) rfl (by kernel_rfl) (by kernel_rfl) (by kernel_rfl) (fun _ _ _ h => h) (Or.inl ⟨by rfl, ?thy1_2⟩) (by assumption) ?_
  case thy1_2 => (intro w hSw; (try dsimp only at hSw); go_simp; try with_reducible rfl)
  try simp only [Act.put, List.setIfInBounds_toArray, List.set_cons_zero, List.set_cons_succ, List.getElem_toArray, List.getElem_cons_succ, List.getElem_cons_zero]
  refine' wpAnyH_take (i := 3) (v := _) rfl (by kernel_rfl) (by kernel_rfl) (by kernel_rfl) (fun _ _ _ h => h) (Or.inl ⟨by rfl, ?thy1_3⟩) (by assumption) ?_
  case thy1_3 => (intro w hSw; (try dsimp only at hSw); go_simp; try with_reducible rfl)
  try simp only [Act.put, List.setIfInBounds_toArray, List.set_cons_zero, List.set_cons_succ, List.getElem_toArray, List.getElem_cons_succ, List.getElem_cons_zero]
  refine' wpAnyH_take (i := 4) (v := _) rfl (by kernel_rfl) (by kernel_rfl) (by kernel_rfl) (fun _ _ _ h => h) (Or.inl ⟨by rfl, ?thy1_4⟩) (by assumption) ?_
  case thy1_4 => (intro w hSw; (try dsimp only at hSw); go_simp; try with_reducible rfl)
  try simp only [Act.put, List.setIfInBounds_toArray, List.set_cons_zero, List.set_cons_succ, List.getElem_toArray, List.getElem_cons_succ, List.getElem_cons_zero]
  refine' wpAnyH_take (i := 5) (v := _) rfl (by kernel_rfl) (by kernel_rfl) (by kernel_rfl) (fun _ _ _ h => h) (Or.inl ⟨by rfl, ?thy1_5⟩) (by assumption) ?_
  case thy1_5 => (intro w hSw; (try dsimp only at hSw); go_simp; try with_reducible rfl)
  try simp only [Act.put, List.setIfInBounds_toArray, List.set_cons_zero, List.set_cons_succ, List.getElem_toArray, List.getElem_cons_succ, List.getElem_cons_zero]
  refine' wpAnyH_take (i := 6) (v := _) rfl (by kernel_rfl) (by kernel_rfl) (by kernel_rfl) (fun _ _ _ h => h) (Or.inl ⟨by rfl, ?thy1_6⟩) (by assumption) ?_
  case thy1_6 => (intro w hSw; (try dsimp only at hSw); go_simp; try with_reducible rfl)
  try simp only [Act.put, List.setIfInBounds_toArray, List.set_cons_zero, List.set_cons_succ, List.getElem_toArray, List.getElem_cons_succ, List.getElem_cons_zero]
  refine' wpAnyH_take (i := 7) (v := _) rfl (by kernel_rfl) (by kernel_rfl) (by kernel_rfl) (fun _ _ _ h => h) (Or.inl ⟨by rfl, ?thy1_7⟩) (by assumption) ?_
  case thy1_7 => (intro w hSw; (try dsimp only at hSw); go_simp; try with_reducible rfl)
  try simp only [Act.put, List.setIfInBounds_toArray, List.set_cons_zero, List.set_cons_succ, List.getElem_toArray, List.getElem_cons_succ, List.getElem_cons_zero]
  refine wpAnyH_ready (rs := [8, 9]) (by kernel_rfl) (by simp) ?_
  refine AllReadyH.cons rfl (fun K hK => ?_) (AllReadyH.cons rfl (fun K hK => ?_) AllReadyH.nil)
  ·go_simp
   refine hK.out _ _ ?_ (fun hN => ?_)
   ·exact ⟨(World.cell?_alloc_past _ _ _ (by simpa using lb)).trans hH.1, (World.cell?_alloc_past _ _ _ (by simpa using lb)).trans hH.2.1, (World.cell?_alloc_past _ _ _ (by simpa using lb)).trans hH.2.2.1, (World.cell?_alloc_past _ _ _ (by simpa using lb)).trans hH.2.2.2.1, (World.cell?_alloc_past _ _ _ (by simpa using lb)).trans hH.2.2.2.2.1, (World.cell?_alloc_past _ _ _ (by simpa using lb)).trans hH.2.2.2.2.2.1, (World.cell?_alloc_past _ _ _ (by simpa using lb)).trans hH.2.2.2.2.2.2.1, (World.cell?_alloc_past _ _ _ (by simpa using lb)).trans hH.2.2.2.2.2.2.2⟩
   clear hK K hH
   have hH := hN; clear hN
   try simp only [Act.put, List.setIfInBounds_toArray, List.set_cons_zero, List.set_cons_succ, List.getElem_toArray, List.getElem_cons_succ, List.getElem_cons_zero]
   refine wpAnyH_ready (rs := [9]) (by kernel_rfl) (by simp) ?_
   refine AllReadyH.cons rfl (fun K hK => ?_) AllReadyH.nil
   go_simp
   refine hK.out _ _ ?_ (fun hN => ?_)
   ·exact ⟨(HGX.out.cell (p := ⟨b, _, none⟩) lb).trans c0, (HGX.out.cell (p := ⟨b, _, none⟩) lb).trans c1, (HGX.out.cell (p := ⟨b, _, none⟩) lb).trans c2, (HGX.out.cell (p := ⟨b, _, none⟩) lb).trans c3, (HGX.out.cell (p := ⟨b, _, none⟩) lb).trans q0, (HGX.out.cell (p := ⟨b, _, none⟩) lb).trans q1, (HGX.out.cell (p := ⟨b, _, none⟩) lb).trans q2, (HGX.out.cell (p := ⟨b, _, none⟩) lb).trans q3⟩
   clear hK K hH
   have hH := hN; clear hN
   try simp only [Act.put, List.setIfInBounds_toArray, List.set_cons_zero, List.set_cons_succ, List.getElem_toArray, List.getElem_cons_succ, List.getElem_cons_zero]
   refine wpAnyH_ready (rs := [10]) (by kernel_rfl) (by simp) ?_
   refine AllReadyH.cons rfl (fun K hK => ?_) AllReadyH.nil
   go_simp
   refine hK.out _ _ ?_ (fun hN => ?_)
   ·exact ⟨(by rw [World.cell?_setCell_other _ _ _ _ (by intro h; injection h with h _; omega), World.cell?_setCell_other _ _ _ _ (by intro h; injection h with h _; omega), World.cell?_setCell_other _ _ _ _ (by intro h; injection h with h _; omega), World.cell?_setCell_other _ _ _ _ (by intro h; injection h with h _; omega)]; exact hH.1), (by rw [World.cell?_setCell_other _ _ _ _ (by intro h; injection h with h _; omega), World.cell?_setCell_other _ _ _ _ (by intro h; injection h with h _; omega), World.cell?_setCell_other _ _ _ _ (by intro h; injection h with h _; omega), World.cell?_setCell_other _ _ _ _ (by intro h; injection h with h _; omega)]; exact hH.2.1), (by rw [World.cell?_setCell_other _ _ _ _ (by intro h; injection h with h _; omega), World.cell?_setCell_other _ _ _ _ (by intro h; injection h with h _; omega), World.cell?_setCell_other _ _ _ _ (by intro h; injection h with h _; omega), World.cell?_setCell_other _ _ _ _ (by intro h; injection h with h _; omega)]; exact hH.2.2.1), (by rw [World.cell?_setCell_other _ _ _ _ (by intro h; injection h with h _; omega), World.cell?_setCell_other _ _ _ _ (by intro h; injection h with h _; omega), World.cell?_setCell_other _ _ _ _ (by intro h; injection h with h _; omega), World.cell?_setCell_other _ _ _ _ (by intro h; injection h with h _; omega)]; exact hH.2.2.2.1), (by rw [World.cell?_setCell_other _ _ _ _ (by intro h; injection h with h _; omega), World.cell?_setCell_other _ _ _ _ (by intro h; injection h with h _; omega), World.cell?_setCell_other _ _ _ _ (by intro h; injection h with h _; omega), World.cell?_setCell_other _ _ _ _ (by intro h; injection h with h _; omega)]; exact hH.2.2.2.2.1), (by rw [World.cell?_setCell_other _ _ _ _ (by intro h; injection h with h _; omega), World.cell?_setCell_other _ _ _ _ (by intro h; injection h with h _; omega), World.cell?_setCell_other _ _ _ _ (by intro h; injection h with h _; omega), World.cell?_setCell_other _ _ _ _ (by intro h; injection h with h _; omega)]; exact hH.2.2.2.2.2.1), (by rw [World.cell?_setCell_other _ _ _ _ (by intro h; injection h with h _; omega), World.cell?_setCell_other _ _ _ _ (by intro h; injection h with h _; omega), World.cell?_setCell_other _ _ _ _ (by intro h; injection h with h _; omega), World.cell?_setCell_other _ _ _ _ (by intro h; injection h with h _; omega)]; exact hH.2.2.2.2.2.2.1), (by rw [World.cell?_setCell_other _ _ _ _ (by intro h; injection h with h _; omega), World.cell?_setCell_other _ _ _ _ (by intro h; injection h with h _; omega), World.cell?_setCell_other _ _ _ _ (by intro h; injection h with h _; omega), World.cell?_setCell_other _ _ _ _ (by intro h; injection h with h _; omega)]; exact hH.2.2.2.2.2.2.2)⟩
   clear hK K hH
   have hH := hN; clear hN
   try simp only [Act.put, List.setIfInBounds_toArray, List.set_cons_zero, List.set_cons_succ, List.getElem_toArray, List.getElem_cons_succ, List.getElem_cons_zero]
   refine wpAnyH_ready (rs := [11]) (by kernel_rfl) (by simp) ?_
   refine AllReadyH.cons rfl (fun K hK => ?_) AllReadyH.nil
   go_simp
   refine hK.out _ _ ?_ (fun hN => ?_)
   ·exact ⟨(by rw [World.cell?_setCell_other _ _ _ _ (by intro h; injection h with h _; omega), World.cell?_setCell_other _ _ _ _ (by intro h; injection h with h _; omega), World.cell?_setCell_other _ _ _ _ (by intro h; injection h with h _; omega), World.cell?_setCell_other _ _ _ _ (by intro h; injection h with h _; omega)]; exact hH.1), (by rw [World.cell?_setCell_other _ _ _ _ (by intro h; injection h with h _; omega), World.cell?_setCell_other _ _ _ _ (by intro h; injection h with h _; omega), World.cell?_setCell_other _ _ _ _ (by intro h; injection h with h _; omega), World.cell?_setCell_other _ _ _ _ (by intro h; injection h with h _; omega)]; exact hH.2.1), (by rw [World.cell?_setCell_other _ _ _ _ (by intro h; injection h with h _; omega), World.cell?_setCell_other _ _ _ _ (by intro h; injection h with h _; omega), World.cell?_setCell_other _ _ _ _ (by intro h; injection h with h _; omega), World.cell?_setCell_other _ _ _ _ (by intro h; injection h with h _; omega)]; exact hH.2.2.1), (by rw [World.cell?_setCell_other _ _ _ _ (by intro h; injection h with h _; omega), World.cell?_setCell_other _ _ _ _ (by intro h; injection h with h _; omega), World.cell?_setCell_other _ _ _ _ (by intro h; injection h with h _; omega), World.cell?_setCell_other _ _ _ _ (by intro h; injection h with h _; omega)]; exact hH.2.2.2.1), (by rw [World.cell?_setCell_other _ _ _ _ (by intro h; injection h with h _; omega), World.cell?_setCell_other _ _ _ _ (by intro h; injection h with h _; omega), World.cell?_setCell_other _ _ _ _ (by intro h; injection h with h _; omega), World.cell?_setCell_other _ _ _ _ (by intro h; injection h with h _; omega)]; exact hH.2.2.2.2.1), (by rw [World.cell?_setCell_other _ _ _ _ (by intro h; injection h with h _; omega), World.cell?_setCell_other _ _ _ _ (by intro h; injection h with h _; omega), World.cell?_setCell_other _ _ _ _ (by intro h; injection h with h _; omega), World.cell?_setCell_other _ _ _ _ (by intro h; injection h with h _; omega)]; exact hH.2.2.2.2.2.1), (by rw [World.cell?_setCell_other _ _ _ _ (by intro h; injection h with h _; omega), World.cell?_setCell_other _ _ _ _ (by intro h; injection h with h _; omega), World.cell?_setCell_other _ _ _ _ (by intro h; injection h with h _; omega), World.cell?_setCell_other _ _ _ _ (by intro h; injection h with h _; omega)]; exact hH.2.2.2.2.2.2.1), (by rw [World.cell?_setCell_other _ _ _ _ (by intro h; injection h with h _; omega), World.cell?_setCell_other _ _ _ _ (by intro h; injection h with h _; omega), World.cell?_setCell_other _ _ _ _ (by intro h; injection h with h _; omega), World.cell?_setCell_other _ _ _ _ (by intro h; injection h with h _; omega)]; exact hH.2.2.2.2.2.2.2)⟩
   clear hK K hH
   have hH := hN; clear hN
   try simp only [Act.put, List.setIfInBounds_toArray, List.set_cons_zero, List.set_cons_succ, List.getElem_toArray, List.getElem_cons_succ, List.getElem_cons_zero]
   refine wpAnyH_done (by kernel_rfl) ?_ _
   go_wp2_with fail
   go_meet
   case rel => exact ⟨_, _, rfl, rfl, (bx_fr (bx_fr (bx_fr (bx_fr (bx_seti (bx_seti (bx_seti (bx_seti HX0.out 0 (.slice ta0 lt0 tc0)) 1 (.slice ua0 lu0 uc0)) 2 (.int .i64 W0)) 3 (.int .i64 H0)) (show ¬ w.heap.size = (w.heap.size + 1) by omega) _) (show ¬ w.heap.size = (w.heap.size + 1) by omega) _) (show ¬ w.heap.size = (w.heap.size + 1) by omega) _) (show ¬ w.heap.size = (w.heap.size + 1) by omega) _), (bx_seti (bx_seti (bx_seti (bx_seti (bx_fr (bx_fr (bx_fr (bx_fr HX1.out (show ¬ (w.heap.size + 1) = w.heap.size by omega) _) (show ¬ (w.heap.size + 1) = w.heap.size by omega) _) (show ¬ (w.heap.size + 1) = w.heap.size by omega) _) (show ¬ (w.heap.size + 1) = w.heap.size by omega) _) 0 (.slice ta1 lt1 tc1)) 1 (.slice ua1 lu1 uc1)) 2 (.int .i64 W1)) 3 (.int .i64 H1)), ((((((((HGX.out.setCell (by first | exact Nat.le_refl _ | exact Nat.le_succ _) _).setCell (by first | exact Nat.le_refl _ | exact Nat.le_succ _) _).setCell (by first | exact Nat.le_refl _ | exact Nat.le_succ _) _).setCell (by first | exact Nat.le_refl _ | exact Nat.le_succ _) _).setCell (by first | exact Nat.le_refl _ | exact Nat.le_succ _) _).setCell (by first | exact Nat.le_refl _ | exact Nat.le_succ _) _).setCell (by first | exact Nat.le_refl _ | exact Nat.le_succ _) _).setCell (by first | exact Nat.le_refl _ | exact Nat.le_succ _) _)⟩
  ·go_simp
   refine hK.out _ _ ?_ (fun hN => ?_)
   ·exact ⟨(World.cell?_alloc_past _ _ _ (by simpa using lb)).trans hH.1, (World.cell?_alloc_past _ _ _ (by simpa using lb)).trans hH.2.1, (World.cell?_alloc_past _ _ _ (by simpa using lb)).trans hH.2.2.1, (World.cell?_alloc_past _ _ _ (by simpa using lb)).trans hH.2.2.2.1, (World.cell?_alloc_past _ _ _ (by simpa using lb)).trans hH.2.2.2.2.1, (World.cell?_alloc_past _ _ _ (by simpa using lb)).trans hH.2.2.2.2.2.1, (World.cell?_alloc_past _ _ _ (by simpa using lb)).trans hH.2.2.2.2.2.2.1, (World.cell?_alloc_past _ _ _ (by simpa using lb)).trans hH.2.2.2.2.2.2.2⟩
   clear hK K hH
   have hH := hN; clear hN
   try simp only [Act.put, List.setIfInBounds_toArray, List.set_cons_zero, List.set_cons_succ, List.getElem_toArray, List.getElem_cons_succ, List.getElem_cons_zero]
   refine wpAnyH_ready (rs := [8]) (by kernel_rfl) (by simp) ?_
   refine AllReadyH.cons rfl (fun K hK => ?_) AllReadyH.nil
   go_simp
   refine hK.out _ _ ?_ (fun hN => ?_)
   ·exact ⟨(HGX.out.cell (p := ⟨b, _, none⟩) lb).trans c0, (HGX.out.cell (p := ⟨b, _, none⟩) lb).trans c1, (HGX.out.cell (p := ⟨b, _, none⟩) lb).trans c2, (HGX.out.cell (p := ⟨b, _, none⟩) lb).trans c3, (HGX.out.cell (p := ⟨b, _, none⟩) lb).trans q0, (HGX.out.cell (p := ⟨b, _, none⟩) lb).trans q1, (HGX.out.cell (p := ⟨b, _, none⟩) lb).trans q2, (HGX.out.cell (p := ⟨b, _, none⟩) lb).trans q3⟩
   clear hK K hH
   have hH := hN; clear hN
   try simp only [Act.put, List.setIfInBounds_toArray, List.set_cons_zero, List.set_cons_succ, List.getElem_toArray, List.getElem_cons_succ, List.getElem_cons_zero]
   refine wpAnyH_ready (rs := [10]) (by kernel_rfl) (by simp) ?_
   refine AllReadyH.cons rfl (fun K hK => ?_) AllReadyH.nil
   go_simp
   refine hK.out _ _ ?_ (fun hN => ?_)
   ·exact ⟨(by rw [World.cell?_setCell_other _ _ _ _ (by intro h; injection h with h _; omega), World.cell?_setCell_other _ _ _ _ (by intro h; injection h with h _; omega), World.cell?_setCell_other _ _ _ _ (by intro h; injection h with h _; omega), World.cell?_setCell_other _ _ _ _ (by intro h; injection h with h _; omega)]; exact hH.1), (by rw [World.cell?_setCell_other _ _ _ _ (by intro h; injection h with h _; omega), World.cell?_setCell_other _ _ _ _ (by intro h; injection h with h _; omega), World.cell?_setCell_other _ _ _ _ (by intro h; injection h with h _; omega), World.cell?_setCell_other _ _ _ _ (by intro h; injection h with h _; omega)]; exact hH.2.1), (by rw [World.cell?_setCell_other _ _ _ _ (by intro h; injection h with h _; omega), World.cell?_setCell_other _ _ _ _ (by intro h; injection h with h _; omega), World.cell?_setCell_other _ _ _ _ (by intro h; injection h with h _; omega), World.cell?_setCell_other _ _ _ _ (by intro h; injection h with h _; omega)]; exact hH.2.2.1), (by rw [World.cell?_setCell_other _ _ _ _ (by intro h; injection h with h _; omega), World.cell?_setCell_other _ _ _ _ (by intro h; injection h with h _; omega), World.cell?_setCell_other _ _ _ _ (by intro h; injection h with h _; omega), World.cell?_setCell_other _ _ _ _ (by intro h; injection h with h _; omega)]; exact hH.2.2.2.1), (by rw [World.cell?_setCell_other _ _ _ _ (by intro h; injection h with h _; omega), World.cell?_setCell_other _ _ _ _ (by intro h; injection h with h _; omega), World.cell?_setCell_other _ _ _ _ (by intro h; injection h with h _; omega), World.cell?_setCell_other _ _ _ _ (by intro h; injection h with h _; omega)]; exact hH.2.2.2.2.1), (by rw [World.cell?_setCell_other _ _ _ _ (by intro h; injection h with h _; omega), World.cell?_setCell_other _ _ _ _ (by intro h; injection h with h _; omega), World.cell?_setCell_other _ _ _ _ (by intro h; injection h with h _; omega), World.cell?_setCell_other _ _ _ _ (by intro h; injection h with h _; omega)]; exact hH.2.2.2.2.2.1), (by rw [World.cell?_setCell_other _ _ _ _ (by intro h; injection h with h _; omega), World.cell?_setCell_other _ _ _ _ (by intro h; injection h with h _; omega), World.cell?_setCell_other _ _ _ _ (by intro h; injection h with h _; omega), World.cell?_setCell_other _ _ _ _ (by intro h; injection h with h _; omega)]; exact hH.2.2.2.2.2.2.1), (by rw [World.cell?_setCell_other _ _ _ _ (by intro h; injection h with h _; omega), World.cell?_setCell_other _ _ _ _ (by intro h; injection h with h _; omega), World.cell?_setCell_other _ _ _ _ (by intro h; injection h with h _; omega), World.cell?_setCell_other _ _ _ _ (by intro h; injection h with h _; omega)]; exact hH.2.2.2.2.2.2.2)⟩
   clear hK K hH
   have hH := hN; clear hN
   try simp only [Act.put, List.setIfInBounds_toArray, List.set_cons_zero, List.set_cons_succ, List.getElem_toArray, List.getElem_cons_succ, List.getElem_cons_zero]
   refine wpAnyH_ready (rs := [11]) (by kernel_rfl) (by simp) ?_
   refine AllReadyH.cons rfl (fun K hK => ?_) AllReadyH.nil
   go_simp
   refine hK.out _ _ ?_ (fun hN => ?_)
   ·exact ⟨(by rw [World.cell?_setCell_other _ _ _ _ (by intro h; injection h with h _; omega), World.cell?_setCell_other _ _ _ _ (by intro h; injection h with h _; omega), World.cell?_setCell_other _ _ _ _ (by intro h; injection h with h _; omega), World.cell?_setCell_other _ _ _ _ (by intro h; injection h with h _; omega)]; exact hH.1), (by rw [World.cell?_setCell_other _ _ _ _ (by intro h; injection h with h _; omega), World.cell?_setCell_other _ _ _ _ (by intro h; injection h with h _; omega), World.cell?_setCell_other _ _ _ _ (by intro h; injection h with h _; omega), World.cell?_setCell_other _ _ _ _ (by intro h; injection h with h _; omega)]; exact hH.2.1), (by rw [World.cell?_setCell_other _ _ _ _ (by intro h; injection h with h _; omega), World.cell?_setCell_other _ _ _ _ (by intro h; injection h with h _; omega), World.cell?_setCell_other _ _ _ _ (by intro h; injection h with h _; omega), World.cell?_setCell_other _ _ _ _ (by intro h; injection h with h _; omega)]; exact hH.2.2.1), (by rw [World.cell?_setCell_other _ _ _ _ (by intro h; injection h with h _; omega), World.cell?_setCell_other _ _ _ _ (by intro h; injection h with h _; omega), World.cell?_setCell_other _ _ _ _ (by intro h; injection h with h _; omega), World.cell?_setCell_other _ _ _ _ (by intro h; injection h with h _; omega)]; exact hH.2.2.2.1), (by rw [World.cell?_setCell_other _ _ _ _ (by intro h; injection h with h _; omega), World.cell?_setCell_other _ _ _ _ (by intro h; injection h with h _; omega), World.cell?_setCell_other _ _ _ _ (by intro h; injection h with h _; omega), World.cell?_setCell_other _ _ _ _ (by intro h; injection h with h _; omega)]; exact hH.2.2.2.2.1), (by rw [World.cell?_setCell_other _ _ _ _ (by intro h; injection h with h _; omega), World.cell?_setCell_other _ _ _ _ (by intro h; injection h with h _; omega), World.cell?_setCell_other _ _ _ _ (by intro h; injection h with h _; omega), World.cell?_setCell_other _ _ _ _ (by intro h; injection h with h _; omega)]; exact hH.2.2.2.2.2.1), (by rw [World.cell?_setCell_other _ _ _ _ (by intro h; injection h with h _; omega), World.cell?_setCell_other _ _ _ _ (by intro h; injection h with h _; omega), World.cell?_setCell_other _ _ _ _ (by intro h; injection h with h _; omega), World.cell?_setCell_other _ _ _ _ (by intro h; injection h with h _; omega)]; exact hH.2.2.2.2.2.2.1), (by rw [World.cell?_setCell_other _ _ _ _ (by intro h; injection h with h _; omega), World.cell?_setCell_other _ _ _ _ (by intro h; injection h with h _; omega), World.cell?_setCell_other _ _ _ _ (by intro h; injection h with h _; omega), World.cell?_setCell_other _ _ _ _ (by intro h; injection h with h _; omega)]; exact hH.2.2.2.2.2.2.2)⟩
   clear hK K hH
   have hH := hN; clear hN
   try simp only [Act.put, List.setIfInBounds_toArray, List.set_cons_zero, List.set_cons_succ, List.getElem_toArray, List.getElem_cons_succ, List.getElem_cons_zero]
   refine wpAnyH_done (by kernel_rfl) ?_ _
   go_wp2_with fail
   go_meet
   case rel => exact ⟨_, _, rfl, rfl, (bx_fr (bx_fr (bx_fr (bx_fr (bx_seti (bx_seti (bx_seti (bx_seti HX1.out 0 (.slice ta0 lt0 tc0)) 1 (.slice ua0 lu0 uc0)) 2 (.int .i64 W0)) 3 (.int .i64 H0)) (show ¬ (w.heap.size + 1) = w.heap.size by omega) _) (show ¬ (w.heap.size + 1) = w.heap.size by omega) _) (show ¬ (w.heap.size + 1) = w.heap.size by omega) _) (show ¬ (w.heap.size + 1) = w.heap.size by omega) _), (bx_seti (bx_seti (bx_seti (bx_seti (bx_fr (bx_fr (bx_fr (bx_fr HX0.out (show ¬ w.heap.size = (w.heap.size + 1) by omega) _) (show ¬ w.heap.size = (w.heap.size + 1) by omega) _) (show ¬ w.heap.size = (w.heap.size + 1) by omega) _) (show ¬ w.heap.size = (w.heap.size + 1) by omega) _) 0 (.slice ta1 lt1 tc1)) 1 (.slice ua1 lu1 uc1)) 2 (.int .i64 W1)) 3 (.int .i64 H1)), ((((((((HGX.out.setCell (by first | exact Nat.le_refl _ | exact Nat.le_succ _) _).setCell (by first | exact Nat.le_refl _ | exact Nat.le_succ _) _).setCell (by first | exact Nat.le_refl _ | exact Nat.le_succ _) _).setCell (by first | exact Nat.le_refl _ | exact Nat.le_succ _) _).setCell (by first | exact Nat.le_refl _ | exact Nat.le_succ _) _).setCell (by first | exact Nat.le_refl _ | exact Nat.le_succ _) _).setCell (by first | exact Nat.le_refl _ | exact Nat.le_succ _) _).setCell (by first | exact Nat.le_refl _ | exact Nat.le_succ _) _)⟩
 case rest =>
  obtain ⟨s7, s8, rfl, rfl, h7, h8, hg⟩ := hcut
  have HP7 := Lib.hid h7; have HP8 := Lib.hid h8; have HG := Lib.hid hg
  clear h7 h8 hg c0 c1 c2 c3 q0 q1 q2 q3
  go_wp2_with fail
  refine wp_region_held_drew (S := fun w' => w'.cell? ⟨s7, 2, none⟩ = some (.int .i64 W0) ∧ w'.cell? ⟨s7, 3, none⟩ = some (.int .i64 H0) ∧ w'.cell? ⟨s8, 2, none⟩ = some (.int .i64 W1) ∧ w'.cell? ⟨s8, 3, none⟩ = some (.int .i64 H1)) (by kernel_rfl) ?_ (fun hH => ?_)
  ·exact ⟨HP7.out.blk.cell 2 rfl, HP7.out.blk.cell 3 rfl, HP8.out.blk.cell 2 rfl, HP8.out.blk.cell 3 rfl⟩
  refine' wpAnyH_take (i := 0) (v := _) rfl (by kernel_rfl) (by kernel_rfl) (by kernel_rfl) (fun _ _ _ h => h) (Or.inl ⟨by rfl, ?thy2_0⟩) (by assumption) ?_
  case thy2_0 => (intro w hSw; (try dsimp only at hSw); go_simp; try with_reducible rfl)
  try simp only [Act.put, List.setIfInBounds_toArray, List.set_cons_zero, List.set_cons_succ, List.getElem_toArray, List.getElem_cons_zero]
  refine' wpAnyH_take (i := 1) (v := _) rfl (by kernel_rfl) (by kernel_rfl) (by kernel_rfl) (fun _ _ _ h => h) (Or.inl ⟨by rfl, ?thy2_1⟩) (by assumption) ?_
  case thy2_1 => (intro w hSw; (try dsimp only at hSw); go_simp; try with_reducible rfl)
  try simp only [Act.put, List.setIfInBounds_toArray, List.set_cons_zero, List.set_cons_succ, List.getElem_toArray, List.getElem_cons_succ, List.getElem_cons_zero]
  refine' wpAnyH_take (i := 2) (v := _) rfl (by kernel_rfl) (by kernel_rfl) (by kernel_rfl) (fun _ _ _ h => h) (Or.inl ⟨by rfl, ?thy2_2⟩) (by assumption) ?_
  case thy2_2 => (intro w hSw; (try dsimp only at hSw); go_simp; try with_reducible rfl)
  try simp only [Act.put, List.setIfInBounds_toArray, List.set_cons_zero, List.set_cons_succ, List.getElem_toArray, List.getElem_cons_succ, List.getElem_cons_zero]
  refine' wpAnyH_take (i := 3) (v := _) rfl (by kernel_rfl) (by kernel_rfl) (by kernel_rfl) (fun _ _ _ h => h) (Or.inl ⟨by rfl, ?thy2_3⟩) (by assumption) ?_
  case thy2_3 => (intro w hSw; (try dsimp only at hSw); go_simp; try with_reducible rfl)
  try simp only [Act.put, List.setIfInBounds_toArray, List.set_cons_zero, List.set_cons_succ, List.getElem_toArray, List.getElem_cons_succ, List.getElem_cons_zero]
  refine' wpAnyH_take (i := 5) (v := _) rfl (by kernel_rfl) (by kernel_rfl) (by kernel_rfl) (fun _ _ _ h => h) (Or.inl ⟨by rfl, ?thy2_4⟩) (by assumption) ?_
  case thy2_4 => (intro w hSw; (try dsimp only at hSw); go_simp; try with_reducible rfl)
  try simp only [Act.put, List.setIfInBounds_toArray, List.set_cons_zero, List.set_cons_succ, List.getElem_toArray, List.getElem_cons_succ, List.getElem_cons_zero]
  refine' wpAnyH_take (i := 6) (v := _) rfl (by kernel_rfl) (by kernel_rfl) (by kernel_rfl) (fun _ _ _ h => h) (Or.inl ⟨by rfl, ?thy2_5⟩) (by assumption) ?_
  case thy2_5 => (intro w hSw; (try dsimp only at hSw); go_simp; try with_reducible rfl)
  try simp only [Act.put, List.setIfInBounds_toArray, List.set_cons_zero, List.set_cons_succ, List.getElem_toArray, List.getElem_cons_succ, List.getElem_cons_zero]
  refine' wpAnyH_take (i := 7) (v := _) rfl (by kernel_rfl) (by kernel_rfl) (by kernel_rfl) (fun _ _ _ h => h) (Or.inl ⟨by rfl, ?thy2_6⟩) (by assumption) ?_
  case thy2_6 => (intro w hSw; (try dsimp only at hSw); go_simp; try with_reducible rfl)
  try simp only [Act.put, List.setIfInBounds_toArray, List.set_cons_zero, List.set_cons_succ, List.getElem_toArray, List.getElem_cons_succ, List.getElem_cons_zero]
  refine' wpAnyH_take (i := 8) (v := _) rfl (by kernel_rfl) (by kernel_rfl) (by kernel_rfl) (fun _ _ _ h => h) (Or.inl ⟨by rfl, ?thy2_7⟩) (by assumption) ?_
  case thy2_7 => (intro w hSw; (try dsimp only at hSw); go_simp; try with_reducible rfl)
  try simp only [Act.put, List.setIfInBounds_toArray, List.set_cons_zero, List.set_cons_succ, List.getElem_toArray, List.getElem_cons_succ, List.getElem_cons_zero]
  refine' wpAnyH_take (i := 10) (v := _) rfl (by kernel_rfl) (by kernel_rfl) (by kernel_rfl) (fun _ _ _ h => h) (Or.inl ⟨by rfl, ?thy2_8⟩) (by assumption) ?_
  case thy2_8 => (intro w hSw; (try dsimp only at hSw); go_simp; try with_reducible rfl)
  try simp only [Act.put, List.setIfInBounds_toArray, List.set_cons_zero, List.set_cons_succ, List.getElem_toArray, List.getElem_cons_succ, List.getElem_cons_zero]
  refine' wpAnyH_take (i := 11) (v := _) rfl (by kernel_rfl) (by kernel_rfl) (by kernel_rfl) (fun _ _ _ h => h) (Or.inl ⟨by rfl, ?thy2_9⟩) (by assumption) ?_
  case thy2_9 => (intro w hSw; (try dsimp only at hSw); go_simp; try with_reducible rfl)
  try simp only [Act.put, List.setIfInBounds_toArray, List.set_cons_zero, List.set_cons_succ, List.getElem_toArray, List.getElem_cons_succ, List.getElem_cons_zero]
  refine wpAnyH_ready (rs := [4]) (by kernel_rfl) (by simp) ?_
  refine AllReadyH.cons rfl (fun K hK => ?_) AllReadyH.nil
  go_simp
  go_at_call 85
  refine (cmpx_any _ _ _).mono ?_
  rintro e x1 ⟨r1, rfl, hw⟩
  have hg := gr_of_eq hw
  have HG1 := Lib.hid (HG.out.drew.trans hg)
  clear hw
  have Q := Lib.hid ((bx_drew HP7.out).gr hg); clear HP7; have HP7 := Lib.hid Q.out; clear Q
  have Q := Lib.hid ((bx_drew HP8.out).gr hg); clear HP8; have HP8 := Lib.hid Q.out; clear Q
  have hcc : x1.cell? ⟨s7, 2, none⟩ = some (.int .i64 W0) ∧ x1.cell? ⟨s7, 3, none⟩ = some (.int .i64 H0) ∧ x1.cell? ⟨s8, 2, none⟩ = some (.int .i64 W1) ∧ x1.cell? ⟨s8, 3, none⟩ = some (.int .i64 H1) := ⟨HP7.out.blk.cell 2 rfl, HP7.out.blk.cell 3 rfl, HP8.out.blk.cell 2 rfl, HP8.out.blk.cell 3 rfl⟩
  clear hg
  go_wp2_with fail
  refine hK.out _ _ ?_ (fun hN => ?_)
  ·exact hcc
  clear hK K hH hcc
  have hH := hN; clear hN
  try simp only [Act.put, List.setIfInBounds_toArray, List.set_cons_zero, List.set_cons_succ, List.getElem_toArray, List.getElem_cons_succ, List.getElem_cons_zero]
  refine wpAnyH_ready (rs := [9]) (by kernel_rfl) (by simp) ?_
  refine AllReadyH.cons rfl (fun K hK => ?_) AllReadyH.nil
  go_simp
  go_at_call 85
  refine (cmpx_any _ _ _).mono ?_
  rintro e x2 ⟨r2, rfl, hw⟩
  have hg := gr_of_eq hw
  have HG2 := Lib.hid (HG1.out.trans hg)
  clear hw
  have Q := Lib.hid ((HP7.out).gr hg); clear HP7; have HP7 := Lib.hid Q.out; clear Q
  have Q := Lib.hid ((HP8.out).gr hg); clear HP8; have HP8 := Lib.hid Q.out; clear Q
  have hcc : x2.cell? ⟨s7, 2, none⟩ = some (.int .i64 W0) ∧ x2.cell? ⟨s7, 3, none⟩ = some (.int .i64 H0) ∧ x2.cell? ⟨s8, 2, none⟩ = some (.int .i64 W1) ∧ x2.cell? ⟨s8, 3, none⟩ = some (.int .i64 H1) := ⟨HP7.out.blk.cell 2 rfl, HP7.out.blk.cell 3 rfl, HP8.out.blk.cell 2 rfl, HP8.out.blk.cell 3 rfl⟩
  clear hg
  go_wp2_with fail
  refine hK.out _ _ ?_ (fun hN => ?_)
  ·exact hcc
  clear hK K hH hcc
  have hH := hN; clear hN
  try simp only [Act.put, List.setIfInBounds_toArray, List.set_cons_zero, List.set_cons_succ, List.getElem_toArray, List.getElem_cons_succ, List.getElem_cons_zero]
  refine wpAnyH_ready (rs := [12]) (by kernel_rfl) (by simp) ?_
  refine AllReadyH.cons rfl (fun K hK => ?_) AllReadyH.nil
  go_simp
  go_at_call 85
  refine (cmpx_any _ _ _).mono ?_
  rintro e x3 ⟨r3, rfl, hw⟩
  have hg := gr_of_eq hw
  have HG3 := Lib.hid (HG2.out.trans hg)
  clear hw
  have Q := Lib.hid ((HP7.out).gr hg); clear HP7; have HP7 := Lib.hid Q.out; clear Q
  have Q := Lib.hid ((HP8.out).gr hg); clear HP8; have HP8 := Lib.hid Q.out; clear Q
  have hcc : x3.cell? ⟨s7, 2, none⟩ = some (.int .i64 W0) ∧ x3.cell? ⟨s7, 3, none⟩ = some (.int .i64 H0) ∧ x3.cell? ⟨s8, 2, none⟩ = some (.int .i64 W1) ∧ x3.cell? ⟨s8, 3, none⟩ = some (.int .i64 H1) := ⟨HP7.out.blk.cell 2 rfl, HP7.out.blk.cell 3 rfl, HP8.out.blk.cell 2 rfl, HP8.out.blk.cell 3 rfl⟩
  clear hg
  go_wp2_with fail
  refine hK.out _ _ ?_ (fun hN => ?_)
  ·exact hcc
  clear hK K hH hcc
  have hH := hN; clear hN
  try simp only [Act.put, List.setIfInBounds_toArray, List.set_cons_zero, List.set_cons_succ, List.getElem_toArray, List.getElem_cons_succ, List.getElem_cons_zero]
  refine wpAnyH_ready (rs := [13]) (by kernel_rfl) (by simp) ?_
  refine AllReadyH.cons rfl (fun K hK => ?_) AllReadyH.nil
  have l7 := HP7.out.lt; have l8 := HP8.out.lt
  go_simp
  refine hK.out _ _ ?_ (fun hN => ?_)
  ·exact ⟨(World.cell?_alloc_past _ _ _ l7).trans hH.1, (World.cell?_alloc_past _ _ _ l7).trans hH.2.1, (World.cell?_alloc_past _ _ _ l8).trans hH.2.2.1, (World.cell?_alloc_past _ _ _ l8).trans hH.2.2.2⟩
  clear hK K hH
  have hH := hN; clear hN
  try simp only [Act.put, List.setIfInBounds_toArray, List.set_cons_zero, List.set_cons_succ, List.getElem_toArray, List.getElem_cons_succ, List.getElem_cons_zero]
  refine wpAnyH_ready (rs := [14]) (by kernel_rfl) (by simp) ?_
  refine AllReadyH.cons rfl (fun K hK => ?_) AllReadyH.nil
  go_simp
  go_at_call 103
  refine (or_any _ r1 r2 r3 _ (Blk.new (w := x3) (vs := [.int .i64 r1, .int .i64 r2, .int .i64 r3]) rfl)).mono ?_
  rintro e x4 ⟨c, rfl, hw⟩
  have HG4 := Lib.hid (show Gr w x4 from by rw [← hw]; exact HG3.out.alloc _)
  have hc4 := hH
  rw [hw] at hc4
  clear hw
  go_wp2_with fail
  refine hK.out _ _ ?_ (fun hN => ?_)
  ·exact hc4
  clear hK K hH hc4
  have hH := hN; clear hN
  try simp only [Act.put, List.setIfInBounds_toArray, List.set_cons_zero, List.set_cons_succ, List.getElem_toArray, List.getElem_cons_succ, List.getElem_cons_zero]
  refine' wpAnyH_take (i := 15) (v := _) rfl (by kernel_rfl) (by kernel_rfl) (by kernel_rfl) (fun _ _ _ h => h) (Or.inl ⟨by rfl, ?thy2_10⟩) (by assumption) ?_
  case thy2_10 => (intro w hSw; (try dsimp only at hSw); go_simp; try with_reducible rfl)
  try simp only [Act.put, List.setIfInBounds_toArray, List.set_cons_zero, List.set_cons_succ, List.getElem_toArray, List.getElem_cons_succ, List.getElem_cons_zero]
  refine wpAnyH_done (by kernel_rfl) ?_ _
  go_wp2_with fail
  go_ret
  exact ⟨c, rfl, HG4.out⟩
end Mt
end Go.Proofs.YtlfoglklibhbnaaGreat
