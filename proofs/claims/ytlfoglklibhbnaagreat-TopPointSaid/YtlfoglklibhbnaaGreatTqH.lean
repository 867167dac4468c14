/- Parts of the proof of TopPoint. No condition of their own. -/
import Derived.Test.YtlfoglklibhbnaaGreatTqG
set_option linter.unusedVariables false
set_option linter.unusedSimpArgs false
namespace Go.Proofs.YtlfoglklibhbnaaGreat
open Go.RowKit
namespace Mt
attribute [local go_sem ↓] Go.wp_at_zero Go.wp_at_succ
set_option maxHeartbeats 4000000 in
set_option maxRecDepth 100000 in
theorem few14_any (m : ML) (w : World) :
  Calls Tryz.prog 16 #[m.val] w fun e w' => ∃ bb, e = .returned (.bool bb) ∧ Gr w w' := by
 obtain ⟨⟨av, lv, cv⟩, ⟨at', lt, ct⟩, ⟨an, ln, cn⟩, ⟨af, lf, cf⟩⟩ := m
 have hB : Bx (w.alloc (.cells #[.slice av lv cv, .slice at' lt ct, .slice an ln cn, .slice af lf cf] 26)) w.heap.size 26 [.slice av lv cv, .slice at' lt ct, .slice an ln cn, .slice af lf cf] := Bx.new (vs := [.slice av lv cv, .slice at' lt ct, .slice an ln cn, .slice af lf cf]) rfl
 have hG : Gr w (w.alloc (.cells #[.slice av lv cv, .slice at' lt ct, .slice an ln cn, .slice af lf cf] 26)) := (Gr.refl w).alloc _
 have HG := Lib.hid hG
 have c0 := hB.blk.cell 0 rfl; have c1 := hB.blk.cell 1 rfl; have c2 := hB.blk.cell 2 rfl; have c3 := hB.blk.cell 3 rfl
 clear hB hG
 unfold ML.val SL.v
 by_cases h1 : lv ≤ 20
 ·have d1 : decide ((lv : Int) ≤ 20) = true := by simp; omega
  have d1' : decide (lv ≤ 20) = true := by simp; omega
  by_cases h2 : lt ≤ 60
  ·have d2 : decide ((lt : Int) ≤ 60) = true := by simp; omega
   have d2' : decide (lt ≤ 60) = true := by simp; omega
   by_cases h3 : ln ≤ 60
   ·have d3 : decide ((ln : Int) ≤ 60) = true := by simp; omega
    have d3' : decide (ln ≤ 60) = true := by simp; omega
    go_enter Tryz.func16, Tryz.ntmps16
    go_wp2_with fail
    go_ret
    exact ⟨_, rfl, HG.out⟩
   ·have d3 : decide ((ln : Int) ≤ 60) = false := by simp; omega
    have d3' : decide (ln ≤ 60) = false := by simp; omega
    go_enter Tryz.func16, Tryz.ntmps16
    go_wp2_with fail
    go_ret
    exact ⟨_, rfl, HG.out⟩
  ·have d2 : decide ((lt : Int) ≤ 60) = false := by simp; omega
   have d2' : decide (lt ≤ 60) = false := by simp; omega
   go_enter Tryz.func16, Tryz.ntmps16
   go_wp2_with fail
   go_ret
   exact ⟨_, rfl, HG.out⟩
 ·have d1 : decide ((lv : Int) ≤ 20) = false := by simp; omega
  have d1' : decide (lv ≤ 20) = false := by simp; omega
  go_enter Tryz.func16, Tryz.ntmps16
  go_wp2_with fail
  go_ret
  exact ⟨_, rfl, HG.out⟩
set_option maxHeartbeats 4000000 in
set_option maxRecDepth 100000 in
theorem few15_any (m : ML) (w : World) :
  Calls Tryz.prog 5 #[m.val, .slice none 0 0] w fun e w' => ∃ bb, e = .returned (.bool bb) ∧ (bb = true → m.f.len ≤ 12) ∧ Gr w w' := by
 have HF := Lib.hid (fun w1 => few14_any m w1)
 obtain ⟨⟨av, lv, cv⟩, ⟨at', lt, ct⟩, ⟨an, ln, cn⟩, ⟨af, lf, cf⟩⟩ := m
 have hB : Bx (w.alloc (.cells #[.slice av lv cv, .slice at' lt ct, .slice an ln cn, .slice af lf cf] 26)) w.heap.size 26 [.slice av lv cv, .slice at' lt ct, .slice an ln cn, .slice af lf cf] := Bx.new (vs := [.slice av lv cv, .slice at' lt ct, .slice an ln cn, .slice af lf cf]) rfl
 have hG : Gr w (w.alloc (.cells #[.slice av lv cv, .slice at' lt ct, .slice an ln cn, .slice af lf cf] 26)) := (Gr.refl w).alloc _
 have HG := Lib.hid hG; have HB := Lib.hid hB
 have c0 := hB.blk.cell 0 rfl; have c1 := hB.blk.cell 1 rfl; have c2 := hB.blk.cell 2 rfl; have c3 := hB.blk.cell 3 rfl; have lB := hB.lt
 clear hB hG
 unfold ML.val SL.v
 unfold ML.val SL.v at HF
 go_enter Tryz.func5, Tryz.ntmps5
 go_wp2_with fail
 go_loopw [5] (fun v5 wr => v5 = .int .i64 0 ∧ wr = w.alloc (.cells #[.slice av lv cv, .slice at' lt ct, .slice an ln cn, .slice af lf cf] 26)) (fun v5 _ => 0)
 case atStart => exact ⟨rfl, rfl⟩
 case round =>
  obtain ⟨rfl, rfl⟩ := hrel
  go_wp2_with fail
  refine (HF.out _).mono ?_
  rintro e w2 ⟨bb, rfl, hg2⟩
  have HG2 := Lib.hid (HG.out.trans hg2)
  have hB2 := HB.out.gr hg2
  have e3 := hB2.blk.cell 3 rfl
  clear hB2 hg2 c0 c1 c2 c3 lB
  cases bb with
  | false =>
   go_wp2_with fail
   go_ret
   exact ⟨_, rfl, fun h => by simp at h, HG2.out⟩
  | true =>
   go_wp2_with fail
   go_ret
   exact ⟨_, rfl, fun h => (by have h2 := h; simp at h2; show lf ≤ 12; omega), HG2.out⟩
end Mt
end Go.Proofs.YtlfoglklibhbnaaGreat
namespace Go.Proofs.YtlfoglklibhbnaaGreat
open Go.RowKit
namespace Mt
attribute [local go_sem ↓] Go.wp_at_zero Go.wp_at_succ
theorem mv_bd {a : AT} (hg : AGood a) {i : Nat} (hi : i < a.qs.length) {k : Nat} (hk : k < 3 * (a.qs.getD i P0).uv.length) :
  (offX a i ≤ ptx (a.qs.getD i P0).uv k + offX a i ∧ ptx (a.qs.getD i P0).uv k + offX a i < 16 * ((a.rs.getD i []).getD 0 0 + (a.rs.getD i []).getD 2 0 - a.pad)) ∧ (offY a i ≤ pty (a.qs.getD i P0).uv k + offY a i ∧ pty (a.qs.getD i P0).uv k + offY a i < 16 * ((a.rs.getD i []).getD 1 0 + (a.rs.getD i []).getD 3 0 - a.pad)) ∧
  (0 ≤ (a.rs.getD i []).getD 0 0 ∧ (a.rs.getD i []).getD 0 0 + (a.rs.getD i []).getD 2 0 ≤ a.W) ∧ (0 ≤ (a.rs.getD i []).getD 1 0 ∧ (a.rs.getD i []).getD 1 0 + (a.rs.getD i []).getD 3 0 ≤ a.H) ∧ (1 ≤ a.pad ∧ a.pad ≤ 8) ∧ (a.W ≤ 256 ∧ a.H ≤ 256) := by
 have h1 := hg.num
 unfold numB at h1
 simp only [Bool.and_eq_true, decide_eq_true_eq] at h1
 have h2 := (hg.rects i (by rw [hg.len]; exact hi)).1
 unfold inB at h2
 have h3 := hg.size i hi
 have hp := hg.good _ (List.getElem_mem hi)
 rw [qs_at a hi] at hk ⊢
 have h4 := hp.small k hk
 have h5 := blx_lo (a.qs[i]).uv _ k hk
 have h6 := hp.w
 have h7 := hp.h
 unfold offX offY
 refine ⟨⟨by omega, by omega⟩, ⟨by omega, by omega⟩, ⟨by omega, by omega⟩, ⟨by omega, by omega⟩, by omega, by omega⟩
theorem mvd_at (p : PA) (x y : Int) {k : Nat} (hk : k < p.uv.length) : (mvd p x y).getD k [] = [ptx p.uv (3 * k) + x, pty p.uv (3 * k) + y, ptx p.uv (3 * k + 1) + x, pty p.uv (3 * k + 1) + y, ptx p.uv (3 * k + 2) + x, pty p.uv (3 * k + 2) + y] := tnd_at _ _ hk
def M1 : MD := ⟨[[0, 0, 0], [15, 0, 0], [0, 15, 0]], [], [], [[0, -1, -1, 1, -1, -1, 2, -1, -1]]⟩
theorem M1_tame : tameB M1 = true := by decide +kernel
theorem M1_faces : faces M1 M1.F.length = [0] := by decide +kernel
theorem M1_fc : fcI 0 M1 (0 : Int) = 2 ∧ fcI 1 M1 (0 : Int) = 1 := by decide +kernel
theorem M1_sh : shN M1 0 2 = [0, 0, 15, 0, 0, 15] := by decide +kernel
theorem M1_cs {cs : List CH} (h : GrowOk M1 cs) : ∃ c, cs = [c] ∧ c.tris = [0] ∧ shs M1 c = [[0, 0, 15, 0, 0, 15]] := by
 obtain ⟨h1, h2⟩ := h
 rw [M1_faces] at h1
 have h3 := List.perm_singleton.1 h1
 match cs, h2, h3 with
 | [], _, h3 => simp at h3
 | [c], h2, h3 =>
  have h3' : c.tris = [0] := by simpa using h3
  refine ⟨c, rfl, h3', ?_⟩
  have h4 := (h2 c (by simp)).2.2.2 0 (by rw [h3']; simp)
  unfold lookB at h4
  simp only [Bool.and_eq_true, beq_iff_eq] at h4
  have e : c.ax = 2 := by rw [← h4.2.1]; exact M1_fc.1
  unfold shs
  rw [h3', e]
  exact congrArg (fun z => [z]) M1_sh
 | c :: c' :: l, h2, h3 =>
  exfalso
  have e1 := (h2 c (by simp)).1
  have e2 := (h2 c' (by simp)).1
  have hl := congrArg List.length h3
  simp only [List.flatMap_cons, List.length_append, List.length_singleton] at hl
  have := List.length_pos_iff.2 e1
  have := List.length_pos_iff.2 e2
  omega
theorem M1_lay {c : CH} (h : shs M1 c = [[0, 0, 15, 0, 0, 15]]) : layB M1 c 1 = true ∧ layHx (shs M1 c) 1 = 15 ∧ layHy (shs M1 c) 1 = 15 := by
 unfold layB
 rw [h]
 exact ⟨by decide +kernel, by decide +kernel, by decide +kernel⟩
theorem M1_lays : ∀ cs, GrowOk M1 cs → cs.length = 1 ∧ ∀ c ∈ cs, layB M1 c 1 = true ∧ layHx (shs M1 c) 1 / 16 + 1 + 2 * 1 ≤ 3 ∧ layHy (shs M1 c) 1 / 16 + 1 + 2 * 1 ≤ 3 := by
 intro cs h
 obtain ⟨c, rfl, _, h2⟩ := M1_cs h
 obtain ⟨h3, h4, h5⟩ := M1_lay h2
 refine ⟨rfl, fun c' hc => ?_⟩
 simp at hc
 subst hc
 rw [h4, h5]
 exact ⟨h3, by decide, by decide⟩
theorem one_at {a : AT} {cs : List CH} (hW : a.W = 3 ∧ a.H = 3 ∧ a.pad = 1) (hg : AGood a) (hgo : GrowOk M1 cs) (hc : a.qs.map core = cs.map (coreL M1 1)) :
  a.qs.length = 1 ∧ (a.qs.getD 0 P0).tris = [0] ∧ ∃ z2 z3 z4 z5, (mvd (a.qs.getD 0 P0) (offX a 0) (offY a 0)).getD 0 [] = [16, 16, z2, z3, z4, z5] := by
 obtain ⟨c, rfl, ht, hs⟩ := M1_cs hgo
 have hl : a.qs.length = 1 := by have := congrArg List.length hc; simpa using this
 have h0 : 0 < a.qs.length := by omega
 have hq : core (a.qs.getD 0 P0) = coreL M1 1 c := by
  rw [qs_at a h0]
  have h1 : (a.qs.map core)[0]? = ([c].map (coreL M1 1))[0]? := by rw [hc]
  simpa [h0] using h1
 simp only [core, coreL, Prod.mk.injEq] at hq
 obtain ⟨q1, q2, q3, q4⟩ := hq
 obtain ⟨_, l2, l3⟩ := M1_lay hs
 rw [l2] at q3
 rw [l3] at q4
 rw [hs] at q2
 have hsz := hg.size 0 h0
 have hrc := (hg.rects 0 (by rw [hg.len]; exact h0)).1
 unfold inB at hrc
 rw [qs_at a h0] at q3 q4
 refine ⟨hl, by rw [q1, ht], ?_⟩
 have huv : (a.qs.getD 0 P0).uv.length = 1 := by rw [q2]; rfl
 rw [mvd_at _ _ _ (by omega)]
 have e0 : ptx (a.qs.getD 0 P0).uv (3 * 0) = 0 := by rw [q2]; decide +kernel
 have e1 : pty (a.qs.getD 0 P0).uv (3 * 0) = 0 := by rw [q2]; decide +kernel
 have ox : offX a 0 = 16 := by unfold offX; omega
 have oy : offY a 0 = 16 := by unfold offY; omega
 rw [e0, e1, ox, oy]
 exact ⟨_, _, _, _, rfl⟩
set_option maxHeartbeats 8000000 in
set_option maxRecDepth 100000 in
theorem one_any (w : World) : Calls Tryz.prog 6 #[] w fun e w' => e = .returned (.bool true) ∧ Gr w w' := by
 obtain ⟨V, hV⟩ : ∃ V, ((w.alloc (.cells #[.int .i64 0, .int .i64 0, .int .i64 0, .int .i64 15, .int .i64 0, .int .i64 0, .int .i64 0, .int .i64 15, .int .i64 0] 63)).alloc (.cells #[.int .i64 0, .int .i64 (-1), .int .i64 (-1), .int .i64 1, .int .i64 (-1), .int .i64 (-1), .int .i64 2, .int .i64 (-1), .int .i64 (-1)] 66)).alloc (.cells #[.slice (some ⟨w.heap.size, 0, none⟩) 3 3, .slice none 0 0, .slice none 0 0, .slice (some ⟨w.heap.size + 1, 0, none⟩) 1 1] 26) = V := ⟨_, rfl⟩
 have b0 : Bx V w.heap.size 63 [.int .i64 0, .int .i64 0, .int .i64 0, .int .i64 15, .int .i64 0, .int .i64 0, .int .i64 0, .int .i64 15, .int .i64 0] := by rw [← hV]; exact ((Bx.new (vs := [.int .i64 0, .int .i64 0, .int .i64 0, .int .i64 15, .int .i64 0, .int .i64 0, .int .i64 0, .int .i64 15, .int .i64 0]) rfl).alloc _).alloc _
 have b1 : Bx V (w.heap.size + 1) 66 [.int .i64 0, .int .i64 (-1), .int .i64 (-1), .int .i64 1, .int .i64 (-1), .int .i64 (-1), .int .i64 2, .int .i64 (-1), .int .i64 (-1)] := by rw [← hV]; exact (Bx.new (vs := [.int .i64 0, .int .i64 (-1), .int .i64 (-1), .int .i64 1, .int .i64 (-1), .int .i64 (-1), .int .i64 2, .int .i64 (-1), .int .i64 (-1)]) (by simp)).alloc _
 have b2 : Bx V (w.heap.size + 1 + 1) 26 [.slice (some ⟨w.heap.size, 0, none⟩) 3 3, .slice none 0 0, .slice none 0 0, .slice (some ⟨w.heap.size + 1, 0, none⟩) 1 1] := by rw [← hV]; exact Bx.new (vs := [.slice (some ⟨w.heap.size, 0, none⟩) 3 3, .slice none 0 0, .slice none 0 0, .slice (some ⟨w.heap.size + 1, 0, none⟩) 1 1]) (by simp)
 have hG : Gr w V := by rw [← hV]; exact (((Gr.refl w).alloc _).alloc _).alloc _
 have hM : IsM V ⟨⟨some ⟨w.heap.size, 0, none⟩, 3, 3⟩, ⟨none, 0, 0⟩, ⟨none, 0, 0⟩, ⟨some ⟨w.heap.size + 1, 0, none⟩, 1, 1⟩⟩ M1 := by
  refine ⟨⟨rfl, by show (3 : Nat) ≤ 9223372036854775807; decide, by unfold M1 I; decide, fun _ => ⟨_, 0, rfl, fun i j hi hj => ?_⟩⟩, Oi.IsRows.nil _ _ _, Oi.IsRows.nil _ _ _, ⟨rfl, by show (1 : Nat) ≤ 9223372036854775807; decide, by unfold M1 I; decide, fun _ => ⟨_, 0, rfl, fun i j hi hj => ?_⟩⟩⟩
  ·rw [Nat.zero_add]
   exact b0.blk.cell _ (Ro.fl_get M1.V (by decide) i j hi hj)
  ·rw [Nat.zero_add]
   exact b1.blk.cell _ (Ro.fl_get M1.F (by decide) i j hi hj)
 have hl := laid_any _ M1 3 3 1 1 V hM (by decide)
 have x0 := b2.blk.cell 0 rfl; have x1 := b2.blk.cell 1 rfl; have x2 := b2.blk.cell 2 rfl; have x3 := b2.blk.cell 3 rfl; have lX := b2.lt
 have HL := Lib.hid hl; have HG := Lib.hid hG
 clear b0 b1 b2 hM hl hG
 go_enter Tryz.func6, Tryz.ntmps6
 go_wp2_with fail
 refine HL.out.mono ?_
 rintro e w2 ⟨v, ok, rfl, hg2, _, hok, hone⟩
 have hok1 : ok = true := hone M1_tame (by decide +kernel) M1_lays
 subst hok1
 obtain ⟨A, cs, rfl, hW, hmem, hgood, _, hgo, _, hcore⟩ := hok rfl
 have hat := one_at hW hgood hgo hcore
 have hfd := fun w1 (g : Gr w2 w1) => find_good A 0 hgood w1 (hmem.later g)
 obtain ⟨AW, AH, Ap, Apa, Apc, Aqs, Ara, Arc, Ars⟩ := A
 simp only [AT.vs]
 have HAT := Lib.hid hat; have HFD := Lib.hid hfd; have HG2 := Lib.hid (HG.out.trans hg2)
 clear hone hok hW hmem hgood hgo hcore hat hfd HL HG hV x0 x1 x2 x3 lX hg2
 have bA : Bx (w2.alloc (.cells #[.int .i64 AW, .int .i64 AH, .int .i64 Ap, .slice Apa Aqs.length Apc, .slice Ara Ars.length Arc] 32)) w2.heap.size 32 [.int .i64 AW, .int .i64 AH, .int .i64 Ap, .slice Apa Aqs.length Apc, .slice Ara Ars.length Arc] := Bx.new (vs := [.int .i64 AW, .int .i64 AH, .int .i64 Ap, .slice Apa Aqs.length Apc, .slice Ara Ars.length Arc]) rfl
 have gA : Gr w2 (w2.alloc (.cells #[.int .i64 AW, .int .i64 AH, .int .i64 Ap, .slice Apa Aqs.length Apc, .slice Ara Ars.length Arc] 32)) := (Gr.refl w2).alloc _
 have y0 := bA.blk.cell 0 rfl; have y1 := bA.blk.cell 1 rfl; have y2 := bA.blk.cell 2 rfl; have y3 := bA.blk.cell 3 rfl; have y4 := bA.blk.cell 4 rfl; have ly := bA.lt
 have HGA := Lib.hid gA
 clear bA gA
 go_wp2_with fail
 refine (HFD.out _ HGA.out).mono ?_
 rintro e w3 ⟨hg3, hf⟩
 have HG3 := Lib.hid ((HG2.out.trans HGA.out).trans hg3)
 clear y0 y1 y2 y3 y4 ly hg3
 rcases hf with ⟨i, k, hi, hk, hkt, _, rfl⟩ | ⟨hno, _⟩
 ·obtain ⟨h1, h2, z2, z3, z4, z5, h3⟩ := HAT.out
  have hi0 : i = 0 := by simp only at hi h1; omega
  subst hi0
  have hk0 : k = 0 := by rw [h2] at hk; simpa using hk
  subst hk0
  rw [h3, show agOf [16, 16, z2, z3, z4, z5] = .agg #[.int .i64 16, .int .i64 16, .int .i64 z2, .int .i64 z3, .int .i64 z4, .int .i64 z5] from rfl]
  clear hi hk hkt h1 h2 h3
  have bT : Bx (w3.alloc (.cells #[.int .i64 16, .int .i64 16, .int .i64 z2, .int .i64 z3, .int .i64 z4, .int .i64 z5] 39)) w3.heap.size 39 [.int .i64 16, .int .i64 16, .int .i64 z2, .int .i64 z3, .int .i64 z4, .int .i64 z5] := Bx.new (vs := [.int .i64 16, .int .i64 16, .int .i64 z2, .int .i64 z3, .int .i64 z4, .int .i64 z5]) rfl
  have t0 := bT.blk.cell 0 rfl; have t1 := bT.blk.cell 1 rfl; have lt := bT.lt
  clear bT
  go_wp2_with fail
  go_ret
  exact ⟨rfl, HG3.out.alloc _⟩
 ·exfalso
  obtain ⟨h1, h2, _⟩ := HAT.out
  have := hno 0 (by rw [h1]; omega)
  rw [h2] at this
  simp at this
end Mt
end Go.Proofs.YtlfoglklibhbnaaGreat
