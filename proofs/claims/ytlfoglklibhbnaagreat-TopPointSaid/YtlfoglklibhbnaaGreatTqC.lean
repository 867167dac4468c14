/- Parts of the proof of TopPoint. No condition of their own. -/
import Derived.Test.YtlfoglklibhbnaaGreatTqB
import Derived.Test.YtlfoglklibhbnaaGreatTpU
import Derived.Deep.RegionHeld3
set_option linter.unusedVariables false
set_option linter.unusedSimpArgs false
namespace Go.Proofs.YtlfoglklibhbnaaGreat
open Go.RowKit
namespace Mt
attribute [local go_sem ↓] Go.wp_at_zero Go.wp_at_succ
structure PA where
 ta : Option Addr
 tc : Nat
 tris : List Int
 ua : Option Addr
 uc : Nat
 uv : List (List Int)
 W : Int
 H : Int
def PA.vs (p : PA) : List Value := [.slice p.ta p.tris.length p.tc, .slice p.ua p.uv.length p.uc, .int .i64 p.W, .int .i64 p.H]
def PMem (w : World) (p : PA) : Prop := IsRow .i64 w p.ta p.tris.length p.tris ∧ Oi.IsRows 6 w p.ua p.uv.length p.uv ∧ p.uv.length ≤ p.uc ∧ p.tris.length ≤ p.tc
theorem PMem.later {w w' : World} {p : PA} (h : PMem w p) (g : Gr w w') : PMem w' p := ⟨h.1.later g, h.2.1.later g, h.2.2⟩
structure PGood (p : PA) : Prop where
 len : p.tris.length = p.uv.length
 pos : 0 < p.uv.length
 few : p.uv.length ≤ 12
 small : ∀ k, k < 3 * p.uv.length → (0 ≤ ptx p.uv k ∧ ptx p.uv k ≤ 4096) ∧ (0 ≤ pty p.uv k ∧ pty p.uv k ≤ 4096)
 right : ∀ j, j < p.uv.length → Sx.rgt (p.uv.getD j []) = true
 lowx : blx p.uv (3 * p.uv.length) = 0
 lowy : bly p.uv (3 * p.uv.length) = 0
 w : p.W = bhx p.uv (3 * p.uv.length) / 16 + 1
 h : p.H = bhy p.uv (3 * p.uv.length) / 16 + 1
 apart : aptB p.uv = true
theorem bhx_le {zs : List (List Int)} {n : Nat} (h : ∀ k, k < n → 0 ≤ ptx zs k ∧ ptx zs k ≤ 4096) (hn : 0 < n) : ∀ k, k ≤ n → 0 ≤ bhx zs k ∧ bhx zs k ≤ 4096
 | 0, _ => h 0 hn
 | k + 1, hk => by have := bhx_le h hn k (by omega); have := h k (by omega); simp only [bhx]; omega
theorem bhy_le {zs : List (List Int)} {n : Nat} (h : ∀ k, k < n → 0 ≤ pty zs k ∧ pty zs k ≤ 4096) (hn : 0 < n) : ∀ k, k ≤ n → 0 ≤ bhy zs k ∧ bhy zs k ≤ 4096
 | 0, _ => h 0 hn
 | k + 1, hk => by have := bhy_le h hn k (by omega); have := h k (by omega); simp only [bhy]; omega
set_option maxHeartbeats 8000000 in
set_option maxRecDepth 100000 in
theorem fis_good (p : PA) (hg : PGood p) (w : World) (hm : PMem w p) :
  Calls Tryz.prog 58 #[.agg p.vs.toArray] w fun e w' => e = .returned (.bool true) ∧ Gr w w' := by
 obtain ⟨ta, tc, tris, ua, uc, uv, W, H⟩ := p
 obtain ⟨hm1, hm2, hm3, hm4⟩ := hm
 obtain ⟨g1, g2, g3, g4, g5, g6, g7, g8, g9, g10⟩ := hg
 simp only at hm1 hm2 hm3 hm4 g1 g2 g3 g4 g5 g6 g7 g8 g9 g10
 have hx := bhx_le (fun k hk => (g4 k hk).1) (show 0 < 3 * uv.length by omega) _ (Nat.le_refl _)
 have hy := bhy_le (fun k hk => (g4 k hk).2) (show 0 < 3 * uv.length by omega) _ (Nat.le_refl _)
 have HBX := Lib.hid (fun w1 (g : Gr w w1) => box_any ua uv.length uc uv w1 (hm2.later g) g2 (by omega) (fun k hk => ⟨⟨by have := (g4 k hk).1; omega, (g4 k hk).1.2⟩, ⟨by have := (g4 k hk).2; omega, (g4 k hk).2.2⟩⟩))
 rw [g6, g7] at HBX
 have HAP := Lib.hid (fun w1 (g : Gr w w1) => fapart_any ua uv.length uc uv w1 (hm2.later g) hm3 (by omega))
 rw [g10] at HAP
 have HOD := Lib.hid (fun w1 (g : Gr w w1) => con_fodd (fun z b => b = !Sx.rgt z) ua uv.length uc uv w1 (hm2.later g) (by omega) (fun j hj w2 g2 => by
  obtain ⟨b, off, x0, x1, x2, x3, x4, x5, _, _, ez, _⟩ := rows6_op hm2 hj
  rw [ez]
  exact (odd_any x0 x1 x2 x3 x4 x5 w2).mono fun e w' h => ⟨_, h.1, rfl, h.2⟩))
 have HRT := Lib.hid g5
 have HSZ := Lib.hid (fun w1 => size_any (bhx uv (3 * uv.length)) (bhy uv (3 * uv.length)) hx.1 hx.2 hy.1 hy.2 w1)
 have HWH := Lib.hid (And.intro g8 g9)
 rw [← g8, ← g9] at HSZ
 generalize bhx uv (3 * uv.length) = hx' at *
 generalize bhy uv (3 * uv.length) = hy' at *
 have hl1 : tris.length ≤ 12 := by omega
 have HLN := Lib.hid g1
 obtain ⟨n, hn⟩ : ∃ n, uv.length = n := ⟨_, rfl⟩
 have d1 : decide (500 < n) = false := by simp; omega
 have d2 : decide (500 < (n : Int)) = false := by simp; omega
 have d3 : decide ((500 : Int) < (n : Int)) = false := by simp; omega
 show Calls _ _ #[.agg #[.slice ta tris.length tc, .slice ua uv.length uc, .int .i64 W, .int .i64 H]] _ _
 rw [g1]
 rw [hn] at HBX HAP HOD HRT ⊢
 have HN := Lib.hid hn
 have hB : Bx (w.alloc (.cells #[.slice ta n tc, .slice ua n uc, .int .i64 W, .int .i64 H] 70)) w.heap.size 70 [.slice ta n tc, .slice ua n uc, .int .i64 W, .int .i64 H] := Bx.new (vs := [.slice ta n tc, .slice ua n uc, .int .i64 W, .int .i64 H]) rfl
 have HB := Lib.hid hB
 have c0 := hB.blk.cell 0 rfl; have c1 := hB.blk.cell 1 rfl; have c2 := hB.blk.cell 2 rfl; have c3 := hB.blk.cell 3 rfl; have lb := hB.lt
 clear hm1 hm2 hm3 hm4 g1 g2 g3 g4 g5 g6 g7 g8 g9 g10 hx hy hn hB hl1
 go_enter Tryz.func58, Tryz.ntmps58
 go_wp2_with fail
 refine (HOD.out _ ((Gr.refl w).alloc _)).mono ?_
 rintro e w1 ⟨ov, rfl, hov, hg⟩
 have hov2 : ov = false := by
  rcases hov with ⟨h, _⟩ | ⟨h, k, hk, hr, _⟩
  ·exact h
  ·rw [HRT.out k hk] at hr; cases hr
 subst hov2
 have HG1 := Lib.hid (((Gr.refl w).alloc _).trans hg); have HB1 := Lib.hid (HB.out.gr hg)
 clear hov hg c0 c1 c2 c3 lb HOD
 have c1 := HB1.out.blk.cell 1 rfl; have lb := HB1.out.lt
 go_wp2_with fail
 refine (HBX.out _ HG1.out).mono ?_
 rintro e w2 ⟨rfl, hg⟩
 have HG2 := Lib.hid (HG1.out.trans hg); have HB2 := Lib.hid (HB1.out.gr hg)
 clear hg c1 lb HBX
 have c1 := HB2.out.blk.cell 1 rfl; have c2 := HB2.out.blk.cell 2 rfl; have c3 := HB2.out.blk.cell 3 rfl; have lb := HB2.out.lt
 go_wp2_with fail
 refine (HSZ.out _).mono ?_
 rintro e w3 ⟨rfl, hg⟩
 have hg3 : Gr w2 w3 := (((Gr.refl w2).alloc _).alloc _).trans hg
 have HG3 := Lib.hid (HG2.out.trans hg3); have HB3 := Lib.hid (HB2.out.gr hg3)
 clear hg hg3 c1 c2 c3 lb HSZ
 have c1 := HB3.out.blk.cell 1 rfl; have c2 := HB3.out.blk.cell 2 rfl; have c3 := HB3.out.blk.cell 3 rfl; have lb := HB3.out.lt
 go_wp2_with fail
 refine (HAP.out _ HG3.out).mono ?_
 rintro e w4 ⟨rfl, hg⟩
 have HG4 := Lib.hid (HG3.out.trans hg)
 clear hg c1 c2 c3 lb HAP
 go_wp2_with fail
 go_ret
 exact ⟨rfl, HG4.out⟩
end Mt
end Go.Proofs.YtlfoglklibhbnaaGreat
namespace Go.Proofs.YtlfoglklibhbnaaGreat
open Go.RowKit
namespace Mt
attribute [local go_sem ↓] Go.wp_at_zero Go.wp_at_succ
theorem infoT : (Tryz.prog.info? 39).map (fun i => (i.zero, i.size, i.bytes)) = some (some (.agg #[.int .i64 0, .int .i64 0, .int .i64 0, .int .i64 0, .int .i64 0, .int .i64 0]), 6, 48) := by kernel_rfl
theorem own_blkm {w : World} {base m : Nat} {e : TypeId} {g n cap : Nat} {xs : List Value} (h : w.ownsRow base e m (.slice (some ⟨g, 0, none⟩) n cap) n xs) : Blk w g xs := by
 rcases h.2 with ⟨hv, _⟩ | ⟨g', cap', cur, hv, hb, hh, hc, ht0⟩
 ·cases hv
 ·injection hv with h1 h2 h3
  injection h1 with h1; injection h1 with h1
  subst h1
  have ht := ht0.2.2
  refine ⟨(Array.getElem?_eq_some_iff.1 hh).1, fun i v hi => ?_⟩
  rw [← ht] at hi
  have hlt : i < n * m := by
   apply Classical.byContradiction; intro hn
   rw [List.getElem?_eq_none (by rw [List.length_take]; omega)] at hi; cases hi
  rw [List.getElem?_take_of_lt hlt] at hi
  refine ⟨?_, by simp [World.frozen?, hh]⟩
  unfold World.cell?
  rw [show (⟨g, i, none⟩ : Addr).block = g from rfl, hh]
  simpa using hi
theorem Sx_size6 (w : World) : (Go.sizeOf 39).run Tryz.prog w = .ok 6 w := by
 have : (Tryz.prog.info? 39).map (fun i => i.size) = some 6 := by kernel_rfl
 cases h : Tryz.prog.info? 39 with
 | none => rw [h] at this; cases this
 | some i => rw [h] at this; simp at this; simp [Go.sizeOf, typeInfo, program, Sem.run, h, this]
theorem clone6_any (b off len cap : Nat) (zs : List (List Int)) (w : World) (hr : Oi.IsRows 6 w (some ⟨b, off, none⟩) len zs) (hp : 0 < len) (hl : len ≤ 1000) :
  Calls Tryz.prog 72 #[.slice (some ⟨b, off, none⟩) len cap] w fun e w' => ∃ g cap', e = .returned (.slice (some ⟨g, 0, none⟩) len cap') ∧ w.heap.size ≤ g ∧ len ≤ cap' ∧ Blk w' g (Ro.fl zs) ∧ Gr w w' := by
 obtain ⟨i0, hi, hz0, hz1, hz2⟩ := info_parts infoT
 have hc := AnyE.slices_Clone clone6L i0 _ 6 48 hi hz0 hz1 hz2 rfl (by omega) (fun w => Sx_size6 w) b off len cap (Ro.fl zs) w (Ro.rows_len hr) (by unfold maxLen; omega) (by omega) (fun j u hj => by
  have := Ro.rows_cells (by omega) hr ⟨b, off, none⟩ rfl j u hj
  rw [add_none] at this
  exact this) Ro.fl_one
 change Calls Tryz.prog 72 _ _ _ at hc
 refine hc.mono ?_
 rintro e w' ⟨v', rfl, hown, _, hb⟩
 obtain ⟨g, c, rfl, hg, hgl⟩ := hown.form hp
 exact ⟨g, c, rfl, hg, (own_cap hown).1, own_blkm hown, hb⟩
def TLs (gx gy : Nat → Int) (F : List Int) : Nat → List Int
 | 0 => F
 | k + 1 => ((TLs gx gy F k).set (2 * k) (gx k)).set (2 * k + 1) (gy k)
theorem TLs_len (gx gy : Nat → Int) (F : List Int) : ∀ k, (TLs gx gy F k).length = F.length
 | 0 => rfl
 | k + 1 => by simp [TLs, TLs_len gx gy F k]
theorem TLs_hi (gx gy : Nat → Int) (F : List Int) : ∀ k i, 2 * k ≤ i → (TLs gx gy F k)[i]? = F[i]?
 | 0, i, _ => rfl
 | k + 1, i, h => by
  unfold TLs
  rw [List.getElem?_set_ne (by omega), List.getElem?_set_ne (by omega)]
  exact TLs_hi gx gy F k i (by omega)
theorem TLs_lo (gx gy : Nat → Int) (F : List Int) : ∀ k j, j < k → 2 * k ≤ F.length → (TLs gx gy F k)[2 * j]? = some (gx j) ∧ (TLs gx gy F k)[2 * j + 1]? = some (gy j)
 | 0, j, h, _ => by omega
 | k + 1, j, h, hl => by
  have hk := TLs_len gx gy F k
  by_cases e : j = k
  ·subst e
   unfold TLs
   refine ⟨?_, ?_⟩
   ·rw [List.getElem?_set_ne (by omega), List.getElem?_set_self (by omega)]
   ·rw [List.getElem?_set_self (by rw [List.length_set]; omega)]
  ·have := TLs_lo gx gy F k j (by omega) (by omega)
   unfold TLs
   rw [List.getElem?_set_ne (by omega), List.getElem?_set_ne (by omega), List.getElem?_set_ne (by omega), List.getElem?_set_ne (by omega)]
   exact this
def tnd (gx gy : Nat → Int) (n : Nat) : List (List Int) := (List.range n).map fun j => [gx (3 * j), gy (3 * j), gx (3 * j + 1), gy (3 * j + 1), gx (3 * j + 2), gy (3 * j + 2)]
theorem tnd_len (gx gy : Nat → Int) (n : Nat) : (tnd gx gy n).length = n := by simp [tnd]
theorem tnd_at (gx gy : Nat → Int) {n j : Nat} (h : j < n) : (tnd gx gy n).getD j [] = [gx (3 * j), gy (3 * j), gx (3 * j + 1), gy (3 * j + 1), gx (3 * j + 2), gy (3 * j + 2)] := by
 simp [tnd, List.getD, h]
theorem fl_map (zs : List (List Int)) : Ro.fl zs = zs.flatten.map (Value.int .i64) := by
 unfold Ro.fl
 rw [List.map_flatten, List.flatMap_def]
theorem rows_of_tls {w : World} {g : Nat} {gx gy : Nat → Int} {F : List Int} {n : Nat} (h : Blk w g ((TLs gx gy F (3 * n)).map (Value.int .i64))) (hF : F.length = 6 * n) (hn : n ≤ 1000) (hI : ∀ k, k < 3 * n → I (gx k) ∧ I (gy k)) : Oi.IsRows 6 w (some ⟨g, 0, none⟩) n (tnd gx gy n) := by
 refine ⟨tnd_len gx gy n, by omega, fun z hz => ?_, fun _ => ⟨g, 0, rfl, fun i j hi hj => ?_⟩⟩
 ·unfold tnd at hz
  rw [List.mem_map] at hz
  obtain ⟨j, hj, rfl⟩ := hz
  have hj' := List.mem_range.1 hj
  refine ⟨rfl, ?_⟩
  have h0 := hI (3 * j) (by omega); have h1 := hI (3 * j + 1) (by omega); have h2 := hI (3 * j + 2) (by omega)
  simp only [List.mem_cons, List.not_mem_nil, or_false]
  rintro x (rfl | rfl | rfl | rfl | rfl | rfl)
  ·exact h0.1
  ·exact h0.2
  ·exact h1.1
  ·exact h1.2
  ·exact h2.1
  ·exact h2.2
 ·have key : ∀ k v, (TLs gx gy F (3 * n))[k]? = some v → w.cell? ⟨g, k, none⟩ = some (.int .i64 v) := fun k v hk => h.cell k (by rw [List.getElem?_map, hk]; rfl)
  rw [tnd_at gx gy hi, Nat.zero_add]
  have l0 := TLs_lo gx gy F (3 * n) (3 * i) (by omega) (by omega)
  have l1 := TLs_lo gx gy F (3 * n) (3 * i + 1) (by omega) (by omega)
  have l2 := TLs_lo gx gy F (3 * n) (3 * i + 2) (by omega) (by omega)
  have hj6 : j = 0 ∨ j = 1 ∨ j = 2 ∨ j = 3 ∨ j = 4 ∨ j = 5 := by omega
  rcases hj6 with rfl | rfl | rfl | rfl | rfl | rfl
  ·rw [show i * 6 + 0 = 2 * (3 * i) by omega]; exact key _ _ l0.1
  ·rw [show i * 6 + 1 = 2 * (3 * i) + 1 by omega]; exact key _ _ l0.2
  ·rw [show i * 6 + 2 = 2 * (3 * i + 1) by omega]; exact key _ _ l1.1
  ·rw [show i * 6 + 3 = 2 * (3 * i + 1) + 1 by omega]; exact key _ _ l1.2
  ·rw [show i * 6 + 4 = 2 * (3 * i + 2) by omega]; exact key _ _ l2.1
  ·rw [show i * 6 + 5 = 2 * (3 * i + 2) + 1 by omega]; exact key _ _ l2.2
theorem clone_any (b off len cap : Nat) (zs : List Int) (w : World) (hr : IsRow .i64 w (some ⟨b, off, none⟩) len zs) (hp : 0 < len) (hl : len ≤ 1000) :
  Calls Tryz.prog 43 #[.slice (some ⟨b, off, none⟩) len cap] w fun e w' => ∃ g cap', e = .returned (.slice (some ⟨g, 0, none⟩) len cap') ∧ w.heap.size ≤ g ∧ len ≤ cap' ∧ IsRow .i64 w' (some ⟨g, 0, none⟩) len zs ∧ Gr w w' := by
 have hc := AnyG.slices_Clone_int cloneL b off len cap zs w (by rw [hr.1]; exact Nat.le_refl _) (by omega) (fun j hj => by
  obtain ⟨b', off', e, hcell⟩ := hr.2.2.2 hp
  cases e
  exact hcell j (by rw [← hr.1]; exact hj))
 change Calls Tryz.prog 43 _ _ _ at hc
 refine hc.mono ?_
 rintro e w' ⟨v', rfl, hown, _, hb⟩
 rw [List.take_of_length_le (by rw [hr.1]; exact Nat.le_refl _)] at hown
 obtain ⟨g, c, rfl, hg, hgl⟩ := hown.form hp
 obtain ⟨_, _, e, hrow⟩ := row_owned (zs := zs) (by rw [hr.1]; exact hown) (by rw [hr.1]; exact hr.2.1) hr.2.2.1
 rw [hr.1] at e hrow
 cases e
 exact ⟨g, c, rfl, hg, (own_cap hown).1, hrow, hb⟩
set_option maxHeartbeats 8000000 in
set_option maxRecDepth 100000 in
theorem turned_lay (c0' c1' : Value) (gx gy : Nat → Int) (b off len cap : Nat) (zs : List (List Int)) (w : World) (hr : Oi.IsRows 6 w (some ⟨b, off, none⟩) len zs) (hp : 0 < len) (hl : len ≤ 1000) (hI : ∀ k, k < 3 * len → I (gx k) ∧ I (gy k))
  (hf : ∀ k, k < 3 * len → ∀ w1, Gr w w1 → Calls Tryz.prog 39 #[.agg #[.int .i64 (ptx zs k), .int .i64 (pty zs k)], c0', c1'] w1 fun e w2 => e = .returned (.agg #[.int .i64 (gx k), .int .i64 (gy k)]) ∧ Gr w1 w2) :
  Calls Tryz.prog 40 #[.slice (some ⟨b, off, none⟩) len cap, .func (.func 39) #[] #[c0', c1']] w fun e w' => ∃ g cap', e = .returned (.slice (some ⟨g, 0, none⟩) len cap') ∧ w.heap.size ≤ g ∧ len ≤ cap' ∧ Oi.IsRows 6 w' (some ⟨g, 0, none⟩) len (tnd gx gy len) ∧ Gr w w' := by
 have HC := Lib.hid (clone6_any b off len cap zs w hr hp hl)
 have hlz := hr.1
 obtain ⟨F, hF⟩ : ∃ F, zs.flatten = F := ⟨_, rfl⟩
 have hFl : F.length = 6 * len := by
  have := Ro.rows_len hr
  rw [fl_map, List.length_map, hF] at this; omega
 have hFz : ∀ j i, j < len → i < 6 → F[j * 6 + i]? = some ((zs.getD j []).getD i 0) := fun j i hj hi => by
  have := Ro.fl_get zs (fun z hz => (hr.2.2.1 z hz).1) j i (by omega) hi
  rw [fl_map, List.getElem?_map, hF] at this
  cases h : F[j * 6 + i]? with
  | none => rw [h] at this; cases this
  | some v => rw [h] at this; simp only [Option.map_some, Option.some.injEq, Value.int.injEq, true_and] at this; rw [this]
 rw [fl_map, hF] at HC
 have hz6 : ∀ j, j < len → ∃ t0 t1 t2 t3 t4 t5, zs.getD j [] = [t0, t1, t2, t3, t4, t5] := fun j hj => by
  obtain ⟨_, _, t0, t1, t2, t3, t4, t5, _, _, ez, _⟩ := rows6_op hr hj
  exact ⟨t0, t1, t2, t3, t4, t5, ez⟩
 have HHF := Lib.hid hf; have HFL := Lib.hid hFl; have HFZ := Lib.hid hFz; have HII := Lib.hid hI; have HZ6 := Lib.hid hz6
 clear hr hf hF hFl hFz hI hlz hz6
 go_enter Tryz.func40, Tryz.ntmps40
 go_wp2_with fail
 refine HC.out.mono ?_
 rintro e w0 ⟨g, cap', rfl, hgw, hgc, hbk, hg⟩
 have HBK := Lib.hid hbk; have HG := Lib.hid hg; have HGC := Lib.hid hgc
 clear hbk hg HC
 go_wp2_with fail
 go_loopw [14] (fun v14 wr => ∃ i : Nat, i ≤ len ∧ v14 = .int .i64 i ∧ Blk wr g ((TLs gx gy F (3 * i)).map (Value.int .i64)) ∧ Gr w wr) (fun v14 _ => len - (intOf v14).toNat)
 case atStart => exact ⟨0, Nat.zero_le _, rfl, HBK.out, HG.out⟩
 case round =>
  clear HBK HG
  obtain ⟨i, hi, rfl, hbk, hg⟩ := hrel
  have HBK := Lib.hid hbk; have HG := Lib.hid hg
  clear hbk hg
  by_cases hlt : i < len
  ·obtain ⟨t0, t1, t2, t3, t4, t5, ez⟩ := HZ6.out i hlt
   have hcell : ∀ j, j < 6 → wr.cell? ⟨g, i * 6 + j, none⟩ = some (.int .i64 ([t0, t1, t2, t3, t4, t5].getD j 0)) := fun j hj => by
    refine HBK.out.cell _ ?_
    rw [List.getElem?_map, TLs_hi _ _ _ _ _ (by omega), HFZ.out i j hlt hj, ez]; rfl
   have c0 := hcell 0 (by omega); have c1 := hcell 1 (by omega); have c2 := hcell 2 (by omega); have c3 := hcell 3 (by omega); have c4 := hcell 4 (by omega); have c5 := hcell 5 (by omega)
   simp only [Nat.add_zero, List.getD_cons_zero, List.getD_cons_succ] at c0 c1 c2 c3 c4 c5
   have hPT : ∀ k, k < 3 → ptx zs (3 * i + k) = [t0, t1, t2, t3, t4, t5].getD (2 * k) 0 ∧ pty zs (3 * i + k) = [t0, t1, t2, t3, t4, t5].getD (2 * k + 1) 0 := fun k hk => by rw [← ez]; exact pt_at zs i k hk
   have HPT := Lib.hid hPT
   have hi0 : (0 : Int) ≤ (i : Int) := by omega
   have lg := HBK.out.1
   clear ez hcell hPT
   go_wp2_with fail
   clear c0 c1 c2 c3 c4 c5
   have HBA := Lib.hid (HBK.out.gr ((Gr.refl wr).alloc (.cells #[.int .i64 t0, .int .i64 t1, .int .i64 t2, .int .i64 t3, .int .i64 t4, .int .i64 t5] 39)))
   have HGA := Lib.hid (HG.out.alloc (.cells #[.int .i64 t0, .int .i64 t1, .int .i64 t2, .int .i64 t3, .int .i64 t4, .int .i64 t5] 39))
   go_loopw [20] (fun v20 wx => ∃ k : Nat, k ≤ 3 ∧ v20 = .int .i64 k ∧ Blk wx g ((TLs gx gy F (3 * i + k)).map (Value.int .i64)) ∧ Gr w wx) (fun v20 _ => 3 - (intOf v20).toNat)
   case atStart => exact ⟨0, by omega, rfl, HBA.out, HGA.out⟩
   case round =>
    clear HBA HGA HBK HG lg
    obtain ⟨k, hk, rfl, hbk, hg⟩ := hrel
    have HBK := Lib.hid hbk; have HG := Lib.hid hg
    clear hbk hg
    by_cases hlk : k < 3
    ·have hix := fun w => ix_v w t0 t1 t2 t3 t4 t5 k hlk
     have hp := HPT.out k hlk
     have hff := HHF.out (3 * i + k) (by omega)
     rw [hp.1, hp.2] at hff
     generalize [t0, t1, t2, t3, t4, t5].getD (2 * k) 0 = x at *
     generalize [t0, t1, t2, t3, t4, t5].getD (2 * k + 1) 0 = y at *
     have HF := Lib.hid hff
     have hk0 : (0 : Int) ≤ (k : Int) := by omega
     have hTl : (TLs gx gy F (3 * i + k)).length = 6 * len := by rw [TLs_len]; exact HFL.out
     obtain ⟨u0, hu0⟩ : ∃ u, ((TLs gx gy F (3 * i + k)).map (Value.int .i64))[2 * (3 * i + k)]? = some u := ⟨_, List.getElem?_eq_getElem (by rw [List.length_map]; omega)⟩
     obtain ⟨u1, hu1⟩ : ∃ u, ((TLs gx gy F (3 * i + k)).map (Value.int .i64))[2 * (3 * i + k) + 1]? = some u := ⟨_, List.getElem?_eq_getElem (by rw [List.length_map]; omega)⟩
     have HK0 := Lib.hid hu0; have HK1 := Lib.hid hu1
     clear hu0 hu1
     obtain ⟨V, hV⟩ : ∃ V, wr.alloc (.cells #[.int .i64 x, .int .i64 y] 38) = V := ⟨_, rfl⟩
     obtain ⟨s, hs⟩ : ∃ s, wr.heap.size = s := ⟨_, rfl⟩
     have hX : Bx V s 38 [.int .i64 x, .int .i64 y] := by rw [← hV]; exact Bx.new (vs := [.int .i64 x, .int .i64 y]) hs.symm
     have hgV : Gr wr V := by rw [← hV]; exact (Gr.refl wr).alloc _
     have HX := Lib.hid hX; have HGV := Lib.hid (HG.out.trans hgV); have HBV := Lib.hid (HBK.out.gr hgV)
     have hgs : g < s := by have := HBK.out.1; omega
     have x0 := hX.blk.cell 0 rfl; have x1 := hX.blk.cell 1 rfl; have lx := hX.lt
     clear hX hgV hp hff hTl HBK HG
     go_wp2_with fail
     clear hV hs x0 x1 lx hix
     refine wp_region_held_drew (S := fun w' => w'.cell? ⟨s, 0, none⟩ = some (.int .i64 x) ∧ w'.cell? ⟨s, 1, none⟩ = some (.int .i64 y)) (by kernel_rfl) ?_ (fun hH => ?_)
     ·exact ⟨HX.out.blk.cell 0 rfl, HX.out.blk.cell 1 rfl⟩
     refine' wpAnyH_take (i := 0) (v := _) rfl (by kernel_rfl) (by kernel_rfl) (by kernel_rfl) (fun _ _ _ h => h) (Or.inl ⟨by rfl, ?thy1_0⟩) (by assumption) ?_
     case thy1_0 => (intro w hSw; (try dsimp only at hSw); go_simp; try with_reducible rfl)
     try simp only [Act.put, List.setIfInBounds_toArray, List.set_cons_zero, List.set_cons_succ, List.getElem_toArray, List.getElem_cons_zero]
     refine' wpAnyH_take (i := 1) (v := _) rfl (by kernel_rfl) (by kernel_rfl) (by kernel_rfl) (fun _ _ _ h => h) (Or.inl ⟨by rfl, ?thy1_1⟩) (by assumption) ?_
     case thy1_1 => (intro w hSw; (try dsimp only at hSw); go_simp; try with_reducible rfl)
     try simp only [Act.put, List.setIfInBounds_toArray, List.set_cons_zero, List.set_cons_succ, List.getElem_toArray, List.getElem_cons_succ, List.getElem_cons_zero]
     refine' wpAnyH_take (i := 2) (v := _) rfl (by kernel_rfl) (by kernel_rfl) (by kernel_rfl) (fun _ _ _ h => h) (Or.inl ⟨by rfl, ?thy1_2⟩) (by assumption) ?_
     case thy1_2 => (intro w hSw; (try dsimp only at hSw); go_simp; try with_reducible rfl)
     try simp only [Act.put, List.setIfInBounds_toArray, List.set_cons_zero, List.set_cons_succ, List.getElem_toArray, List.getElem_cons_succ, List.getElem_cons_zero]
     refine' wpAnyH_take (i := 3) (v := _) rfl (by kernel_rfl) (by kernel_rfl) (by kernel_rfl) (fun _ _ _ h => h) (Or.inl ⟨by rfl, ?thy1_3⟩) (by assumption) ?_
     case thy1_3 => (intro w hSw; (try dsimp only at hSw); go_simp; try with_reducible rfl)
     try simp only [Act.put, List.setIfInBounds_toArray, List.set_cons_zero, List.set_cons_succ, List.getElem_toArray, List.getElem_cons_succ, List.getElem_cons_zero]
     refine' wpAnyH_take (i := 4) (v := _) rfl (by kernel_rfl) (by kernel_rfl) (by kernel_rfl) (fun _ _ _ h => h) (Or.inl ⟨by rfl, ?thy1_4⟩) (by assumption) ?_
     case thy1_4 => (intro w hSw; (try dsimp only at hSw); go_simp; try with_reducible rfl)
     try simp only [Act.put, List.setIfInBounds_toArray, List.set_cons_zero, List.set_cons_succ, List.getElem_toArray, List.getElem_cons_succ, List.getElem_cons_zero]
     refine' wpAnyH_take (i := 6) (v := _) rfl (by kernel_rfl) (by kernel_rfl) (by kernel_rfl) (fun _ _ _ h => h) (Or.inl ⟨by rfl, ?thy1_5⟩) (by assumption) ?_
     case thy1_5 => (intro w hSw; (try dsimp only at hSw); go_simp; try with_reducible rfl)
     try simp only [Act.put, List.setIfInBounds_toArray, List.set_cons_zero, List.set_cons_succ, List.getElem_toArray, List.getElem_cons_succ, List.getElem_cons_zero]
     refine wpAnyH_ready (rs := [5]) (by kernel_rfl) (by simp) ?_
     refine AllReadyH.cons rfl (fun K hK => ?_) AllReadyH.nil
     go_simp
     go_at_call 39
     refine (HF.out _ HGV.out.drew).mono ?_
     rintro e w2 ⟨rfl, hg⟩
     have HB2 := Lib.hid ((show Blk V.drew g _ from HBV.out).gr hg); have HG2 := Lib.hid (HGV.out.drew.trans hg)
     have HR2 := Lib.hid hg
     have Q := Lib.hid ((bx_drew HX.out).gr hg); clear HX; have HX := Lib.hid Q.out; clear Q
     have hcc : w2.cell? ⟨s, 0, none⟩ = some (.int .i64 x) ∧ w2.cell? ⟨s, 1, none⟩ = some (.int .i64 y) := ⟨HX.out.blk.cell 0 rfl, HX.out.blk.cell 1 rfl⟩
     clear hg
     go_wp2_with fail
     refine hK.out _ _ ?_ (fun hN => ?_)
     ·exact hcc
     clear hK K hH hcc
     have hH := hN; clear hN
     try simp only [Act.put, List.setIfInBounds_toArray, List.set_cons_zero, List.set_cons_succ, List.getElem_toArray, List.getElem_cons_succ, List.getElem_cons_zero]
     refine' wpAnyH_take (i := 7) (v := _) rfl (by kernel_rfl) (by kernel_rfl) (by kernel_rfl) (fun _ _ _ h => h) (Or.inl ⟨by rfl, ?thy1_6⟩) (by assumption) ?_
     case thy1_6 => (intro w hSw; (try dsimp only at hSw); go_simp; try with_reducible rfl)
     try simp only [Act.put, List.setIfInBounds_toArray, List.set_cons_zero, List.set_cons_succ, List.getElem_toArray, List.getElem_cons_succ, List.getElem_cons_zero]
     have k0 := HB2.out.cell (2 * (3 * i + k)) HK0.out; have k1 := HB2.out.cell (2 * (3 * i + k) + 1) HK1.out; have f0 := HB2.out.free (2 * (3 * i + k)) HK0.out; have f1 := HB2.out.free (2 * (3 * i + k) + 1) HK1.out
     rw [show 2 * (3 * i + k) = i * 6 + k * 2 by omega] at k0 k1 f0 f1
     have lg := HB2.out.1
     refine wpAnyH_ready (rs := [8]) (by kernel_rfl) (by simp) ?_
     refine AllReadyH.cons rfl (fun K hK => ?_) AllReadyH.nil
     go_simp
     refine hK.out _ _ ?_ (fun hN => ?_)
     ·refine ⟨?_, ?_⟩
      ·rw [World.cell?_setCell_other _ _ _ _ (by intro h; injection h with h _; omega), World.cell?_setCell_other _ _ _ _ (by intro h; injection h with h _; omega)]; exact hH.1
      ·rw [World.cell?_setCell_other _ _ _ _ (by intro h; injection h with h _; omega), World.cell?_setCell_other _ _ _ _ (by intro h; injection h with h _; omega)]; exact hH.2
     clear hK K hH
     have hH := hN; clear hN
     try simp only [Act.put, List.setIfInBounds_toArray, List.set_cons_zero, List.set_cons_succ, List.getElem_toArray, List.getElem_cons_succ, List.getElem_cons_zero]
     refine wpAnyH_done (by kernel_rfl) ?_ _
     have hB5 : Blk ((w2.setCell ⟨g, i * 6 + k * 2, none⟩ (.int .i64 (gx (3 * i + k)))).setCell ⟨g, i * 6 + k * 2 + 1, none⟩ (.int .i64 (gy (3 * i + k)))) g ((TLs gx gy F (3 * i + (k + 1))).map (Value.int .i64)) := by
      have h1 := (HB2.out.set (2 * (3 * i + k)) (v := .int .i64 (gx (3 * i + k))) HK0.out).set (2 * (3 * i + k) + 1) (v := .int .i64 (gy (3 * i + k))) (by rw [List.getElem?_set_ne (by omega)]; exact HK1.out)
      rw [show 2 * (3 * i + k) = i * 6 + k * 2 by omega] at h1
      rw [show 3 * i + (k + 1) = (3 * i + k) + 1 by omega]
      unfold TLs
      rw [List.map_set, List.map_set, show 2 * (3 * i + k) = i * 6 + k * 2 by omega]
      exact h1
     have HB5 := Lib.hid hB5
     have HG5 := Lib.hid ((HG2.out.setCell (p := ⟨g, i * 6 + k * 2, none⟩) hgw (.int .i64 (gx (3 * i + k)))).setCell (p := ⟨g, i * 6 + k * 2 + 1, none⟩) hgw (.int .i64 (gy (3 * i + k))))
     clear hB5 k0 k1 f0 f1 lg hH
     go_wp2_with fail
     go_roundw
     case rel => exact ⟨k + 1, by omega, by go_num, HB5.out, HG5.out⟩
     case measure => simp [intOf]; omega
    ·have hk3 : k = 3 := by omega
     subst hk3
     go_wp2_with fail
     go_roundw
     case rel => exact ⟨i + 1, by omega, by go_num, by rw [show 3 * (i + 1) = 3 * i + 3 by omega]; exact HBK.out, HG.out⟩
     case measure => simp [intOf]; omega
  ·have hil : i = len := by omega
   subst hil
   have HRR := Lib.hid (rows_of_tls HBK.out HFL.out hl HII.out)
   go_wp2_with fail
   go_ret
   exact ⟨g, cap', rfl, hgw, HGC.out, HRR.out, HG.out⟩
set_option maxHeartbeats 8000000 in
set_option maxRecDepth 100000 in
theorem turned_mov (c0' : Value) (gx gy : Nat → Int) (b off len cap : Nat) (zs : List (List Int)) (w : World) (hr : Oi.IsRows 6 w (some ⟨b, off, none⟩) len zs) (hp : 0 < len) (hl : len ≤ 1000) (hI : ∀ k, k < 3 * len → I (gx k) ∧ I (gy k))
  (hf : ∀ k, k < 3 * len → ∀ w1, Gr w w1 → Calls Tryz.prog 59 #[.agg #[.int .i64 (ptx zs k), .int .i64 (pty zs k)], c0'] w1 fun e w2 => e = .returned (.agg #[.int .i64 (gx k), .int .i64 (gy k)]) ∧ Gr w1 w2) :
  Calls Tryz.prog 40 #[.slice (some ⟨b, off, none⟩) len cap, .func (.func 59) #[] #[c0']] w fun e w' => ∃ g cap', e = .returned (.slice (some ⟨g, 0, none⟩) len cap') ∧ w.heap.size ≤ g ∧ len ≤ cap' ∧ Oi.IsRows 6 w' (some ⟨g, 0, none⟩) len (tnd gx gy len) ∧ Gr w w' := by
 have HC := Lib.hid (clone6_any b off len cap zs w hr hp hl)
 have hlz := hr.1
 obtain ⟨F, hF⟩ : ∃ F, zs.flatten = F := ⟨_, rfl⟩
 have hFl : F.length = 6 * len := by
  have := Ro.rows_len hr
  rw [fl_map, List.length_map, hF] at this; omega
 have hFz : ∀ j i, j < len → i < 6 → F[j * 6 + i]? = some ((zs.getD j []).getD i 0) := fun j i hj hi => by
  have := Ro.fl_get zs (fun z hz => (hr.2.2.1 z hz).1) j i (by omega) hi
  rw [fl_map, List.getElem?_map, hF] at this
  cases h : F[j * 6 + i]? with
  | none => rw [h] at this; cases this
  | some v => rw [h] at this; simp only [Option.map_some, Option.some.injEq, Value.int.injEq, true_and] at this; rw [this]
 rw [fl_map, hF] at HC
 have hz6 : ∀ j, j < len → ∃ t0 t1 t2 t3 t4 t5, zs.getD j [] = [t0, t1, t2, t3, t4, t5] := fun j hj => by
  obtain ⟨_, _, t0, t1, t2, t3, t4, t5, _, _, ez, _⟩ := rows6_op hr hj
  exact ⟨t0, t1, t2, t3, t4, t5, ez⟩
 have HHF := Lib.hid hf; have HFL := Lib.hid hFl; have HFZ := Lib.hid hFz; have HII := Lib.hid hI; have HZ6 := Lib.hid hz6
 clear hr hf hF hFl hFz hI hlz hz6
 go_enter Tryz.func40, Tryz.ntmps40
 go_wp2_with fail
 refine HC.out.mono ?_
 rintro e w0 ⟨g, cap', rfl, hgw, hgc, hbk, hg⟩
 have HBK := Lib.hid hbk; have HG := Lib.hid hg; have HGC := Lib.hid hgc
 clear hbk hg HC
 go_wp2_with fail
 go_loopw [14] (fun v14 wr => ∃ i : Nat, i ≤ len ∧ v14 = .int .i64 i ∧ Blk wr g ((TLs gx gy F (3 * i)).map (Value.int .i64)) ∧ Gr w wr) (fun v14 _ => len - (intOf v14).toNat)
 case atStart => exact ⟨0, Nat.zero_le _, rfl, HBK.out, HG.out⟩
 case round =>
  clear HBK HG
  obtain ⟨i, hi, rfl, hbk, hg⟩ := hrel
  have HBK := Lib.hid hbk; have HG := Lib.hid hg
  clear hbk hg
  by_cases hlt : i < len
  ·obtain ⟨t0, t1, t2, t3, t4, t5, ez⟩ := HZ6.out i hlt
   have hcell : ∀ j, j < 6 → wr.cell? ⟨g, i * 6 + j, none⟩ = some (.int .i64 ([t0, t1, t2, t3, t4, t5].getD j 0)) := fun j hj => by
    refine HBK.out.cell _ ?_
    rw [List.getElem?_map, TLs_hi _ _ _ _ _ (by omega), HFZ.out i j hlt hj, ez]; rfl
   have c0 := hcell 0 (by omega); have c1 := hcell 1 (by omega); have c2 := hcell 2 (by omega); have c3 := hcell 3 (by omega); have c4 := hcell 4 (by omega); have c5 := hcell 5 (by omega)
   simp only [Nat.add_zero, List.getD_cons_zero, List.getD_cons_succ] at c0 c1 c2 c3 c4 c5
   have hPT : ∀ k, k < 3 → ptx zs (3 * i + k) = [t0, t1, t2, t3, t4, t5].getD (2 * k) 0 ∧ pty zs (3 * i + k) = [t0, t1, t2, t3, t4, t5].getD (2 * k + 1) 0 := fun k hk => by rw [← ez]; exact pt_at zs i k hk
   have HPT := Lib.hid hPT
   have hi0 : (0 : Int) ≤ (i : Int) := by omega
   have lg := HBK.out.1
   clear ez hcell hPT
   go_wp2_with fail
   clear c0 c1 c2 c3 c4 c5
   have HBA := Lib.hid (HBK.out.gr ((Gr.refl wr).alloc (.cells #[.int .i64 t0, .int .i64 t1, .int .i64 t2, .int .i64 t3, .int .i64 t4, .int .i64 t5] 39)))
   have HGA := Lib.hid (HG.out.alloc (.cells #[.int .i64 t0, .int .i64 t1, .int .i64 t2, .int .i64 t3, .int .i64 t4, .int .i64 t5] 39))
   go_loopw [20] (fun v20 wx => ∃ k : Nat, k ≤ 3 ∧ v20 = .int .i64 k ∧ Blk wx g ((TLs gx gy F (3 * i + k)).map (Value.int .i64)) ∧ Gr w wx) (fun v20 _ => 3 - (intOf v20).toNat)
   case atStart => exact ⟨0, by omega, rfl, HBA.out, HGA.out⟩
   case round =>
    clear HBA HGA HBK HG lg
    obtain ⟨k, hk, rfl, hbk, hg⟩ := hrel
    have HBK := Lib.hid hbk; have HG := Lib.hid hg
    clear hbk hg
    by_cases hlk : k < 3
    ·have hix := fun w => ix_v w t0 t1 t2 t3 t4 t5 k hlk
     have hp := HPT.out k hlk
     have hff := HHF.out (3 * i + k) (by omega)
     rw [hp.1, hp.2] at hff
     generalize [t0, t1, t2, t3, t4, t5].getD (2 * k) 0 = x at *
     generalize [t0, t1, t2, t3, t4, t5].getD (2 * k + 1) 0 = y at *
     have HF := Lib.hid hff
     have hk0 : (0 : Int) ≤ (k : Int) := by omega
     have hTl : (TLs gx gy F (3 * i + k)).length = 6 * len := by rw [TLs_len]; exact HFL.out
     obtain ⟨u0, hu0⟩ : ∃ u, ((TLs gx gy F (3 * i + k)).map (Value.int .i64))[2 * (3 * i + k)]? = some u := ⟨_, List.getElem?_eq_getElem (by rw [List.length_map]; omega)⟩
     obtain ⟨u1, hu1⟩ : ∃ u, ((TLs gx gy F (3 * i + k)).map (Value.int .i64))[2 * (3 * i + k) + 1]? = some u := ⟨_, List.getElem?_eq_getElem (by rw [List.length_map]; omega)⟩
     have HK0 := Lib.hid hu0; have HK1 := Lib.hid hu1
     clear hu0 hu1
     obtain ⟨V, hV⟩ : ∃ V, wr.alloc (.cells #[.int .i64 x, .int .i64 y] 38) = V := ⟨_, rfl⟩
     obtain ⟨s, hs⟩ : ∃ s, wr.heap.size = s := ⟨_, rfl⟩
     have hX : Bx V s 38 [.int .i64 x, .int .i64 y] := by rw [← hV]; exact Bx.new (vs := [.int .i64 x, .int .i64 y]) hs.symm
     have hgV : Gr wr V := by rw [← hV]; exact (Gr.refl wr).alloc _
     have HX := Lib.hid hX; have HGV := Lib.hid (HG.out.trans hgV); have HBV := Lib.hid (HBK.out.gr hgV)
     have hgs : g < s := by have := HBK.out.1; omega
     have x0 := hX.blk.cell 0 rfl; have x1 := hX.blk.cell 1 rfl; have lx := hX.lt
     clear hX hgV hp hff hTl HBK HG
     go_wp2_with fail
     clear hV hs x0 x1 lx hix
     refine wp_region_held_drew (S := fun w' => w'.cell? ⟨s, 0, none⟩ = some (.int .i64 x) ∧ w'.cell? ⟨s, 1, none⟩ = some (.int .i64 y)) (by kernel_rfl) ?_ (fun hH => ?_)
     ·exact ⟨HX.out.blk.cell 0 rfl, HX.out.blk.cell 1 rfl⟩
     refine' wpAnyH_take (i := 0) (v := _) rfl (by kernel_rfl) (by kernel_rfl) (by kernel_rfl) (fun _ _ _ h => h) (Or.inl ⟨by rfl, ?thy2_0⟩) (by assumption) ?_
     case thy2_0 => (intro w hSw; (try dsimp only at hSw); go_simp; try with_reducible rfl)
     try simp only [Act.put, List.setIfInBounds_toArray, List.set_cons_zero, List.set_cons_succ, List.getElem_toArray, List.getElem_cons_zero]
     refine' wpAnyH_take (i := 1) (v := _) rfl (by kernel_rfl) (by kernel_rfl) (by kernel_rfl) (fun _ _ _ h => h) (Or.inl ⟨by rfl, ?thy2_1⟩) (by assumption) ?_
     case thy2_1 => (intro w hSw; (try dsimp only at hSw); go_simp; try with_reducible rfl)
     try simp only [Act.put, List.setIfInBounds_toArray, List.set_cons_zero, List.set_cons_succ, List.getElem_toArray, List.getElem_cons_succ, List.getElem_cons_zero]
     refine' wpAnyH_take (i := 2) (v := _) rfl (by kernel_rfl) (by kernel_rfl) (by kernel_rfl) (fun _ _ _ h => h) (Or.inl ⟨by rfl, ?thy2_2⟩) (by assumption) ?_
     case thy2_2 => (intro w hSw; (try dsimp only at hSw); go_simp; try with_reducible rfl)
     try simp only [Act.put, List.setIfInBounds_toArray, List.set_cons_zero, List.set_cons_succ, List.getElem_toArray, List.getElem_cons_succ, List.getElem_cons_zero]
     refine' wpAnyH_take (i := 3) (v := _) rfl (by kernel_rfl) (by kernel_rfl) (by kernel_rfl) (fun _ _ _ h => h) (Or.inl ⟨by rfl, ?thy2_3⟩) (by assumption) ?_
     case thy2_3 => (intro w hSw; (try dsimp only at hSw); go_simp; try with_reducible rfl)
     try simp only [Act.put, List.setIfInBounds_toArray, List.set_cons_zero, List.set_cons_succ, List.getElem_toArray, List.getElem_cons_succ, List.getElem_cons_zero]
     refine' wpAnyH_take (i := 4) (v := _) rfl (by kernel_rfl) (by kernel_rfl) (by kernel_rfl) (fun _ _ _ h => h) (Or.inl ⟨by rfl, ?thy2_4⟩) (by assumption) ?_
     case thy2_4 => (intro w hSw; (try dsimp only at hSw); go_simp; try with_reducible rfl)
     try simp only [Act.put, List.setIfInBounds_toArray, List.set_cons_zero, List.set_cons_succ, List.getElem_toArray, List.getElem_cons_succ, List.getElem_cons_zero]
     refine' wpAnyH_take (i := 6) (v := _) rfl (by kernel_rfl) (by kernel_rfl) (by kernel_rfl) (fun _ _ _ h => h) (Or.inl ⟨by rfl, ?thy2_5⟩) (by assumption) ?_
     case thy2_5 => (intro w hSw; (try dsimp only at hSw); go_simp; try with_reducible rfl)
     try simp only [Act.put, List.setIfInBounds_toArray, List.set_cons_zero, List.set_cons_succ, List.getElem_toArray, List.getElem_cons_succ, List.getElem_cons_zero]
     refine wpAnyH_ready (rs := [5]) (by kernel_rfl) (by simp) ?_
     refine AllReadyH.cons rfl (fun K hK => ?_) AllReadyH.nil
     go_simp
     go_at_call 59
     refine (HF.out _ HGV.out.drew).mono ?_
     rintro e w2 ⟨rfl, hg⟩
     have HB2 := Lib.hid ((show Blk V.drew g _ from HBV.out).gr hg); have HG2 := Lib.hid (HGV.out.drew.trans hg)
     have HR2 := Lib.hid hg
     have Q := Lib.hid ((bx_drew HX.out).gr hg); clear HX; have HX := Lib.hid Q.out; clear Q
     have hcc : w2.cell? ⟨s, 0, none⟩ = some (.int .i64 x) ∧ w2.cell? ⟨s, 1, none⟩ = some (.int .i64 y) := ⟨HX.out.blk.cell 0 rfl, HX.out.blk.cell 1 rfl⟩
     clear hg
     go_wp2_with fail
     refine hK.out _ _ ?_ (fun hN => ?_)
     ·exact hcc
     clear hK K hH hcc
     have hH := hN; clear hN
     try simp only [Act.put, List.setIfInBounds_toArray, List.set_cons_zero, List.set_cons_succ, List.getElem_toArray, List.getElem_cons_succ, List.getElem_cons_zero]
     refine' wpAnyH_take (i := 7) (v := _) rfl (by kernel_rfl) (by kernel_rfl) (by kernel_rfl) (fun _ _ _ h => h) (Or.inl ⟨by rfl, ?thy2_6⟩) (by assumption) ?_
     case thy2_6 => (intro w hSw; (try dsimp only at hSw); go_simp; try with_reducible rfl)
     try simp only [Act.put, List.setIfInBounds_toArray, List.set_cons_zero, List.set_cons_succ, List.getElem_toArray, List.getElem_cons_succ, List.getElem_cons_zero]
     have k0 := HB2.out.cell (2 * (3 * i + k)) HK0.out; have k1 := HB2.out.cell (2 * (3 * i + k) + 1) HK1.out; have f0 := HB2.out.free (2 * (3 * i + k)) HK0.out; have f1 := HB2.out.free (2 * (3 * i + k) + 1) HK1.out
     rw [show 2 * (3 * i + k) = i * 6 + k * 2 by omega] at k0 k1 f0 f1
     have lg := HB2.out.1
     refine wpAnyH_ready (rs := [8]) (by kernel_rfl) (by simp) ?_
     refine AllReadyH.cons rfl (fun K hK => ?_) AllReadyH.nil
     go_simp
     refine hK.out _ _ ?_ (fun hN => ?_)
     ·refine ⟨?_, ?_⟩
      ·rw [World.cell?_setCell_other _ _ _ _ (by intro h; injection h with h _; omega), World.cell?_setCell_other _ _ _ _ (by intro h; injection h with h _; omega)]; exact hH.1
      ·rw [World.cell?_setCell_other _ _ _ _ (by intro h; injection h with h _; omega), World.cell?_setCell_other _ _ _ _ (by intro h; injection h with h _; omega)]; exact hH.2
     clear hK K hH
     have hH := hN; clear hN
     try simp only [Act.put, List.setIfInBounds_toArray, List.set_cons_zero, List.set_cons_succ, List.getElem_toArray, List.getElem_cons_succ, List.getElem_cons_zero]
     refine wpAnyH_done (by kernel_rfl) ?_ _
     have hB5 : Blk ((w2.setCell ⟨g, i * 6 + k * 2, none⟩ (.int .i64 (gx (3 * i + k)))).setCell ⟨g, i * 6 + k * 2 + 1, none⟩ (.int .i64 (gy (3 * i + k)))) g ((TLs gx gy F (3 * i + (k + 1))).map (Value.int .i64)) := by
      have h1 := (HB2.out.set (2 * (3 * i + k)) (v := .int .i64 (gx (3 * i + k))) HK0.out).set (2 * (3 * i + k) + 1) (v := .int .i64 (gy (3 * i + k))) (by rw [List.getElem?_set_ne (by omega)]; exact HK1.out)
      rw [show 2 * (3 * i + k) = i * 6 + k * 2 by omega] at h1
      rw [show 3 * i + (k + 1) = (3 * i + k) + 1 by omega]
      unfold TLs
      rw [List.map_set, List.map_set, show 2 * (3 * i + k) = i * 6 + k * 2 by omega]
      exact h1
     have HB5 := Lib.hid hB5
     have HG5 := Lib.hid ((HG2.out.setCell (p := ⟨g, i * 6 + k * 2, none⟩) hgw (.int .i64 (gx (3 * i + k)))).setCell (p := ⟨g, i * 6 + k * 2 + 1, none⟩) hgw (.int .i64 (gy (3 * i + k))))
     clear hB5 k0 k1 f0 f1 lg hH
     go_wp2_with fail
     go_roundw
     case rel => exact ⟨k + 1, by omega, by go_num, HB5.out, HG5.out⟩
     case measure => simp [intOf]; omega
    ·have hk3 : k = 3 := by omega
     subst hk3
     go_wp2_with fail
     go_roundw
     case rel => exact ⟨i + 1, by omega, by go_num, by rw [show 3 * (i + 1) = 3 * i + 3 by omega]; exact HBK.out, HG.out⟩
     case measure => simp [intOf]; omega
  ·have hil : i = len := by omega
   subst hil
   have HRR := Lib.hid (rows_of_tls HBK.out HFL.out hl HII.out)
   go_wp2_with fail
   go_ret
   exact ⟨g, cap', rfl, hgw, HGC.out, HRR.out, HG.out⟩
end Mt
end Go.Proofs.YtlfoglklibhbnaaGreat
namespace Go.Proofs.YtlfoglklibhbnaaGreat
open Go.RowKit
namespace Mt
attribute [local go_sem ↓] Go.wp_at_zero Go.wp_at_succ
set_option maxHeartbeats 4000000 in
set_option maxRecDepth 100000 in
theorem lay1_any (x y lx ly dn : Int) (bl bd : Nat) (w : World) (h0 : -4096 ≤ x ∧ x ≤ 4096) (h1 : -4096 ≤ y ∧ y ≤ 4096) (h2 : -4096 ≤ lx ∧ lx ≤ 4096) (h3 : -4096 ≤ ly ∧ ly ≤ 4096) (h4 : 1 ≤ dn ∧ dn ≤ 64)
  (hb : Bx w bl 38 [.int .i64 lx, .int .i64 ly]) (hd : Bx w bd 3 [.int .i64 dn]) :
  Calls Tryz.prog 39 #[.agg #[.int .i64 x, .int .i64 y], .pointer (some ⟨bl, 0, none⟩), .pointer (some ⟨bd, 0, none⟩)] w fun e w' => e = .returned (.agg #[.int .i64 ((x - lx) * dn), .int .i64 ((y - ly) * dn)]) ∧ Gr w w' := by
 have k1 := mul_bd (M := 8192) (N := 64) 524288 (by decide) (show -8192 ≤ x - lx ∧ x - lx ≤ 8192 by omega) (show -64 ≤ dn ∧ dn ≤ 64 by omega)
 have k2 := mul_bd (M := 8192) (N := 64) 524288 (by decide) (show -8192 ≤ y - ly ∧ y - ly ≤ 8192 by omega) (show -64 ≤ dn ∧ dn ≤ 64 by omega)
 have l0 := hb.blk.cell 0 rfl; have l1 := hb.blk.cell 1 rfl; have d0 := hd.blk.cell 0 rfl
 have lb := hb.lt; have ld := hd.lt
 have u1 : wrap64 ((x - lx) * dn) = (x - lx) * dn := IntWalk.wrap64_in _ ⟨by omega, by omega⟩
 have u2 : wrap64 ((y - ly) * dn) = (y - ly) * dn := IntWalk.wrap64_in _ ⟨by omega, by omega⟩
 clear hb hd k1 k2
 go_enter Tryz.func39, Tryz.ntmps39
 go_wp2_with fail
 refine bodyPost_ret (res_agg (vs := [.int .i64 ((x - lx) * dn), .int .i64 ((y - ly) * dn)]) rfl ti_v2 rfl (Bx.new (w := w.alloc (.cells #[.int .i64 x, .int .i64 y] 38)) (vs := [.int .i64 ((x - lx) * dn), .int .i64 ((y - ly) * dn)]) (by simp)) rfl) rfl ⟨rfl, ((Gr.refl w).alloc _).alloc _⟩
set_option maxHeartbeats 4000000 in
set_option maxRecDepth 100000 in
theorem mov1_any (x y lx ly : Int) (bl : Nat) (w : World) (h0 : 0 ≤ x ∧ x ≤ 4096) (h1 : 0 ≤ y ∧ y ≤ 4096) (h2 : 0 ≤ lx ∧ lx ≤ 65536) (h3 : 0 ≤ ly ∧ ly ≤ 65536)
  (hb : Bx w bl 38 [.int .i64 lx, .int .i64 ly]) :
  Calls Tryz.prog 59 #[.agg #[.int .i64 x, .int .i64 y], .pointer (some ⟨bl, 0, none⟩)] w fun e w' => e = .returned (.agg #[.int .i64 (x + lx), .int .i64 (y + ly)]) ∧ Gr w w' := by
 have l0 := hb.blk.cell 0 rfl; have l1 := hb.blk.cell 1 rfl
 have lb := hb.lt
 clear hb
 go_enter Tryz.func59, Tryz.ntmps59
 go_wp2_with fail
 refine bodyPost_ret (res_agg (vs := [.int .i64 (x + lx), .int .i64 (y + ly)]) rfl ti_v2 rfl (Bx.new (w := w.alloc (.cells #[.int .i64 x, .int .i64 y] 38)) (vs := [.int .i64 (x + lx), .int .i64 (y + ly)]) (by simp)) rfl) rfl ⟨rfl, ((Gr.refl w).alloc _).alloc _⟩
def mvd (p : PA) (bx by' : Int) : List (List Int) := tnd (fun k => ptx p.uv k + bx) (fun k => pty p.uv k + by') p.uv.length
def MoveP (p : PA) (bx by' : Int) (w : World) (e : Ending) (w' : World) : Prop := ∃ g cap', e = .returned (.tuple #[.slice (some ⟨g, 0, none⟩) p.uv.length cap', .int .i64 0]) ∧ p.uv.length ≤ cap' ∧ Oi.IsRows 6 w' (some ⟨g, 0, none⟩) p.uv.length (mvd p bx by') ∧ Gr w w'
set_option maxHeartbeats 8000000 in
set_option maxRecDepth 100000 in
theorem move_good (p : PA) (bx by' : Int) (hg : PGood p) (w : World) (hm : PMem w p) (h2 : 0 ≤ bx ∧ bx ≤ 65536) (h3 : 0 ≤ by' ∧ by' ≤ 65536) :
  Calls Tryz.prog 28 #[.agg p.vs.toArray, .agg #[.int .i64 bx, .int .i64 by']] w (MoveP p bx by' w) := by
 have HIS := Lib.hid (fun w1 (g : Gr w w1) => fis_good p hg w1 (hm.later g))
 obtain ⟨bu, off, _, _, _, _, _, _, eu, _⟩ := rows6_op hm.2.1 (show 0 < p.uv.length from hg.pos)
 have HTU := Lib.hid (fun w1 (g : Gr w w1) (bl : Nat) (hb : Bx w1 bl 38 [.int .i64 bx, .int .i64 by']) => turned_mov (.pointer (some ⟨bl, 0, none⟩)) (fun k => ptx p.uv k + bx) (fun k => pty p.uv k + by') bu off p.uv.length p.uc p.uv w1 (by have := hm.2.1.later g; rw [eu] at this; exact this) hg.pos (by have := hg.few; omega) (fun k hk => by have := hg.small k hk; exact ⟨⟨by omega, by omega⟩, ⟨by omega, by omega⟩⟩)
  (fun k hk w2 g2 => mov1_any _ _ bx by' bl w2 (hg.small k hk).1 (hg.small k hk).2 h2 h3 (hb.gr g2)))
 have HMV := Lib.hid (show mvd p bx by' = tnd (fun k => ptx p.uv k + bx) (fun k => pty p.uv k + by') p.uv.length from rfl)
 rw [← HMV.out] at HTU
 obtain ⟨ta, tc, tris, ua, uc, uv, W, H⟩ := p
 simp only at eu
 subst eu
 unfold MoveP
 generalize mvd _ bx by' = mv at *
 simp only at HTU ⊢
 have m1 : (if by' < bx then by' else bx) = min bx by' := by split <;> omega
 have m2 : (if bx < by' then by' else bx) = max bx by' := by split <;> omega
 have d1 : decide (min bx by' < 0) = false := by simp; omega
 have d2 : decide (65536 < max bx by') = false := by simp; omega
 have hB : Bx (w.alloc (.cells #[.slice ta tris.length tc, .slice (some ⟨bu, off, none⟩) uv.length uc, .int .i64 W, .int .i64 H] 70)) w.heap.size 70 [.slice ta tris.length tc, .slice (some ⟨bu, off, none⟩) uv.length uc, .int .i64 W, .int .i64 H] := Bx.new (vs := [.slice ta tris.length tc, .slice (some ⟨bu, off, none⟩) uv.length uc, .int .i64 W, .int .i64 H]) rfl
 have hB2 := hB.alloc (.cells #[.int .i64 bx, .int .i64 by'] 38)
 have hY : Bx ((w.alloc (.cells #[.slice ta tris.length tc, .slice (some ⟨bu, off, none⟩) uv.length uc, .int .i64 W, .int .i64 H] 70)).alloc (.cells #[.int .i64 bx, .int .i64 by'] 38)) (w.heap.size + 1) 38 [.int .i64 bx, .int .i64 by'] := Bx.new (vs := [.int .i64 bx, .int .i64 by']) (by simp)
 have HB := Lib.hid hB2; have HY := Lib.hid hY
 have c0 := hB2.blk.cell 0 rfl; have c1 := hB2.blk.cell 1 rfl; have c2 := hB2.blk.cell 2 rfl; have c3 := hB2.blk.cell 3 rfl
 show Calls _ _ #[.agg #[.slice ta tris.length tc, .slice (some ⟨bu, off, none⟩) uv.length uc, .int .i64 W, .int .i64 H], .agg #[.int .i64 bx, .int .i64 by']] _ _
 have HIS2 : Hid (∀ w1, Gr w w1 → Calls Tryz.prog 58 #[.agg #[.slice ta tris.length tc, .slice (some ⟨bu, off, none⟩) uv.length uc, .int .i64 W, .int .i64 H]] w1 fun e w' => e = .returned (.bool true) ∧ Gr w1 w') := Lib.hid HIS.out
 clear hB hB2 hY hg hm h2 h3 HIS HMV
 go_enter Tryz.func28, Tryz.ntmps28
 go_wp2_with fail
 refine (HIS2.out _ (((Gr.refl w).alloc _).alloc _)).mono ?_
 rintro e w1 ⟨rfl, hg⟩
 have HG1 := Lib.hid ((((Gr.refl w).alloc _).alloc _).trans hg)
 have b1 := HB.out.gr hg; have y1 := HY.out.gr hg
 have HY1 := Lib.hid y1
 clear hg c0 c1 c2 c3 HIS2
 have c1 := b1.blk.cell 1 rfl; have z0 := y1.blk.cell 0 rfl; have z1 := y1.blk.cell 1 rfl; have lb := b1.lt; have ly := y1.lt
 clear b1 y1
 go_wp2_with fail
 refine (HTU.out _ HG1.out (w.heap.size + 1) HY1.out).mono ?_
 rintro e w2 ⟨g, cap', rfl, -, hc, hr, hg⟩
 have HG2 := Lib.hid (HG1.out.trans hg); have HC := Lib.hid hc; have HR := Lib.hid hr
 clear hg hc hr HTU c1 z0 z1 lb ly
 go_wp2_with fail
 go_ret2
 exact ⟨g, cap', rfl, HC.out, HR.out, HG2.out⟩
end Mt
end Go.Proofs.YtlfoglklibhbnaaGreat
namespace Go.Proofs.YtlfoglklibhbnaaGreat
open Go.RowKit
namespace Mt
theorem low_eq {n : Int} (h : -2147483648 ≤ n ∧ n ≤ 2147483648) : Sx.low n = if 0 < n then -n else n := by
 unfold Sx.low
 split
 ·rw [show (0 - n) = -n by omega]
  exact IntWalk.i64_in _ (by omega)
 ·rfl
theorem cr2_bd {a b c d : Int} (ha : -32768 ≤ a ∧ a ≤ 32768) (hb : -32768 ≤ b ∧ b ≤ 32768) (hc : -32768 ≤ c ∧ c ≤ 32768) (hd : -32768 ≤ d ∧ d ≤ 32768) : -2147483648 ≤ Sx.cr2 a b c d ∧ Sx.cr2 a b c d ≤ 2147483648 := by
 have h1 := mul_bd (M := 32768) (N := 32768) 1073741824 (by decide) ha hd
 have h2 := mul_bd (M := 32768) (N := 32768) 1073741824 (by decide) hb hc
 unfold Sx.cr2; omega
theorem face_area {d : MD} {n ax : Nat} {sd : Int} (hm : meshB d = true) (hv : ∀ z ∈ d.V, z.length = 3) (hn : n < d.F.length) (h : lookB d ax sd n = true) : ax < 3 ∧ 0 < Sx.areaV (shN d n ax) * sd := by
 unfold lookB at h
 simp only [Bool.and_eq_true, beq_iff_eq] at h
 obtain ⟨h2, h0, h1⟩ := h
 rw [fcI_at hn] at h2 h0 h1
 obtain ⟨x0, y0, z0, x1, y1, z1, x2, y2, z2, ep⟩ := ptsN_len hm hv hn
 have es : shN d n ax = [(ptsN d n).getD ((ax + 1) % 3) 0, (ptsN d n).getD ((ax + 2) % 3) 0, (ptsN d n).getD (3 + (ax + 1) % 3) 0, (ptsN d n).getD (3 + (ax + 2) % 3) 0, (ptsN d n).getD (6 + (ax + 1) % 3) 0, (ptsN d n).getD (6 + (ax + 2) % 3) 0] := rfl
 rw [ep] at h2 h0 h1
 rw [es, ep]
 have e2 : Sx.fi 14 2 [x0, y0, z0, x1, y1, z1, x2, y2, z2] = if [x0, y0, z0, x1, y1, z1, x2, y2, z2].all Sx.ss then (if Sx.flat0 [x0, y0, z0, x1, y1, z1, x2, y2, z2] then 3 else 0) else 5 := rfl
 have e0 : Sx.fi 14 0 [x0, y0, z0, x1, y1, z1, x2, y2, z2] = if [x0, y0, z0, x1, y1, z1, x2, y2, z2].all Sx.ss && !Sx.flat0 [x0, y0, z0, x1, y1, z1, x2, y2, z2] then Sx.faceA [x0, y0, z0, x1, y1, z1, x2, y2, z2] else 0 := rfl
 have e1 : Sx.fi 14 1 [x0, y0, z0, x1, y1, z1, x2, y2, z2] = if [x0, y0, z0, x1, y1, z1, x2, y2, z2].all Sx.ss && !Sx.flat0 [x0, y0, z0, x1, y1, z1, x2, y2, z2] then Sx.faceS [x0, y0, z0, x1, y1, z1, x2, y2, z2] else 0 := rfl
 rw [e2] at h2
 cases hs : [x0, y0, z0, x1, y1, z1, x2, y2, z2].all Sx.ss with
 | false => rw [hs] at h2; simp at h2
 | true =>
 cases hf : Sx.flat0 [x0, y0, z0, x1, y1, z1, x2, y2, z2] with
 | true => rw [hs, hf] at h2; simp at h2
 | false =>
 rw [e0, hs, hf] at h0
 rw [e1, hs, hf] at h1
 simp only [Bool.not_false, Bool.and_self, if_true] at h0 h1
 have hss : ∀ a ∈ [x0, y0, z0, x1, y1, z1, x2, y2, z2], -16384 ≤ a ∧ a ≤ 16384 := fun a ha => by
  have := List.all_eq_true.1 hs a ha
  unfold Sx.ss at this
  simpa using this
 have b0 := hss x0 (by simp); have b1 := hss y0 (by simp); have b2 := hss z0 (by simp); have b3 := hss x1 (by simp); have b4 := hss y1 (by simp); have b5 := hss z1 (by simp); have b6 := hss x2 (by simp); have b7 := hss y2 (by simp); have b8 := hss z2 (by simp)
 have hX : Sx.nx [x0, y0, z0, x1, y1, z1, x2, y2, z2] = Sx.cr2 (y1 - y0) (z1 - z0) (y2 - y0) (z2 - z0) := rfl
 have hY : Sx.ny [x0, y0, z0, x1, y1, z1, x2, y2, z2] = Sx.cr2 (z1 - z0) (x1 - x0) (z2 - z0) (x2 - x0) := rfl
 have hZ : Sx.nz [x0, y0, z0, x1, y1, z1, x2, y2, z2] = Sx.cr2 (x1 - x0) (y1 - y0) (x2 - x0) (y2 - y0) := rfl
 have dX := cr2_bd (a := y1 - y0) (b := z1 - z0) (c := y2 - y0) (d := z2 - z0) (by omega) (by omega) (by omega) (by omega)
 have dY := cr2_bd (a := z1 - z0) (b := x1 - x0) (c := z2 - z0) (d := x2 - x0) (by omega) (by omega) (by omega) (by omega)
 have dZ := cr2_bd (a := x1 - x0) (b := y1 - y0) (c := x2 - x0) (d := y2 - y0) (by omega) (by omega) (by omega) (by omega)
 unfold Sx.flat0 at hf
 unfold Sx.faceS at h1
 have hA : Sx.faceA [x0, y0, z0, x1, y1, z1, x2, y2, z2] = Sx.axis (Sx.nx [x0, y0, z0, x1, y1, z1, x2, y2, z2]) (Sx.ny [x0, y0, z0, x1, y1, z1, x2, y2, z2]) (Sx.nz [x0, y0, z0, x1, y1, z1, x2, y2, z2]) := rfl
 rw [h0] at h1
 rw [hA] at h0
 rw [hX, hY, hZ] at hf h0 h1
 have a0 : ax = 0 → Sx.areaV [y0, z0, y1, z1, y2, z2] = Sx.cr2 (y1 - y0) (z1 - z0) (y2 - y0) (z2 - z0) := fun _ => rfl
 have a1 : ax = 1 → Sx.areaV [z0, x0, z1, x1, z2, x2] = Sx.cr2 (z1 - z0) (x1 - x0) (z2 - z0) (x2 - x0) := fun _ => rfl
 have a2 : ax = 2 → Sx.areaV [x0, y0, x1, y1, x2, y2] = Sx.cr2 (x1 - x0) (y1 - y0) (x2 - x0) (y2 - y0) := fun _ => rfl
 generalize Sx.cr2 (y1 - y0) (z1 - z0) (y2 - y0) (z2 - z0) = X at *
 generalize Sx.cr2 (z1 - z0) (x1 - x0) (z2 - z0) (x2 - x0) = Y at *
 generalize Sx.cr2 (x1 - x0) (y1 - y0) (x2 - x0) (y2 - y0) = Z at *
 unfold Sx.axis at h0
 rw [low_eq dX, low_eq dY, low_eq dZ] at h0
 have hne : ¬ (X = 0 ∧ Y = 0 ∧ Z = 0) := by
  intro ⟨q1, q2, q3⟩
  rw [q1, q2, q3] at hf
  simp at hf
 have sg : ∀ c : Int, c ≠ 0 → 0 < c * Sx.sgn c := fun c hc => by
  unfold Sx.sgn
  split
  ·rw [Int.mul_neg_one]; omega
  ·split <;> omega
 have hax : ax = 0 ∨ ax = 1 ∨ ax = 2 := by
  revert h0
  split <;> split <;> split <;> (try split) <;> intro h0 <;> omega
 rcases hax with rfl | rfl | rfl
 ·refine ⟨by omega, ?_⟩
  show 0 < Sx.areaV [y0, z0, y1, z1, y2, z2] * sd
  rw [a0 rfl]
  simp only [Int.natCast_zero, Int.ofNat_zero, Int.cast_ofNat_Int, if_true] at h1
  have hX0 : X ≠ 0 := by
   revert h0
   split <;> split <;> split <;> (try split) <;> intro h0 <;> omega
  rw [← h1]
  simpa using sg X hX0
 ·refine ⟨by omega, ?_⟩
  show 0 < Sx.areaV [z0, x0, z1, x1, z2, x2] * sd
  rw [a1 rfl]
  have hY0 : Y ≠ 0 := by
   revert h0
   split <;> split <;> split <;> (try split) <;> intro h0 <;> omega
  rw [← h1]
  simpa using sg Y hY0
 ·refine ⟨by omega, ?_⟩
  show 0 < Sx.areaV [x0, y0, x1, y1, x2, y2] * sd
  rw [a2 rfl]
  have hZ0 : Z ≠ 0 := by
   revert h0
   split <;> split <;> split <;> (try split) <;> intro h0 <;> omega
  rw [← h1]
  simpa using sg Z hZ0
end Mt
end Go.Proofs.YtlfoglklibhbnaaGreat
namespace Go.Proofs.YtlfoglklibhbnaaGreat
open Go.RowKit
namespace Mt
theorem tnd_pt (gx gy : Nat → Int) (n k : Nat) (h : k < 3 * n) : ptx (tnd gx gy n) k = gx k ∧ pty (tnd gx gy n) k = gy k := by
 have hj : k / 3 < n := by omega
 have hk : k = 3 * (k / 3) + k % 3 := by omega
 have hi : k % 3 < 3 := Nat.mod_lt _ (by omega)
 unfold ptx pty
 rw [tnd_at gx gy hj]
 have : k % 3 = 0 ∨ k % 3 = 1 ∨ k % 3 = 2 := by omega
 rcases this with e | e | e
 ·rw [e] at hk ⊢; rw [Nat.add_zero] at hk; rw [← hk]; exact ⟨rfl, rfl⟩
 ·rw [e] at hk ⊢; rw [← hk]; exact ⟨rfl, rfl⟩
 ·rw [e] at hk ⊢; rw [← hk]; exact ⟨rfl, rfl⟩
theorem blx_lo (zs : List (List Int)) : ∀ n k, k < n → blx zs n ≤ ptx zs k ∧ bly zs n ≤ pty zs k ∧ ptx zs k ≤ bhx zs n ∧ pty zs k ≤ bhy zs n
 | 0, k, h => by omega
 | n + 1, k, h => by
  by_cases e : k = n
  ·subst e; simp only [blx, bly, bhx, bhy]; omega
  ·have := blx_lo zs n k (by omega)
   simp only [blx, bly, bhx, bhy]; omega
theorem bl_small (zs : List (List Int)) {n : Nat} (h : ∀ k, k < n → (-4096 ≤ ptx zs k ∧ ptx zs k ≤ 4096) ∧ (-4096 ≤ pty zs k ∧ pty zs k ≤ 4096)) (hn : 0 < n) : ∀ k, k ≤ n → (-4096 ≤ blx zs k ∧ blx zs k ≤ 4096) ∧ (-4096 ≤ bly zs k ∧ bly zs k ≤ 4096) ∧ (-4096 ≤ bhx zs k ∧ bhx zs k ≤ 4096) ∧ (-4096 ≤ bhy zs k ∧ bhy zs k ≤ 4096)
 | 0, _ => ⟨(h 0 hn).1, (h 0 hn).2, (h 0 hn).1, (h 0 hn).2⟩
 | k + 1, hk => by
  have := bl_small zs h hn k (by omega)
  have := h k (by omega)
  simp only [blx, bly, bhx, bhy]; omega
theorem min_aff (a b c d : Int) (h : 0 ≤ d) : min ((a - c) * d) ((b - c) * d) = (min a b - c) * d := by
 by_cases e : a ≤ b
 ·have := Int.mul_le_mul_of_nonneg_right (show a - c ≤ b - c by omega) h
  rw [Int.min_eq_left this, Int.min_eq_left e]
 ·have := Int.mul_le_mul_of_nonneg_right (show b - c ≤ a - c by omega) h
  rw [Int.min_eq_right this, Int.min_eq_right (by omega)]
theorem max_aff (a b c d : Int) (h : 0 ≤ d) : max ((a - c) * d) ((b - c) * d) = (max a b - c) * d := by
 by_cases e : a ≤ b
 ·have := Int.mul_le_mul_of_nonneg_right (show a - c ≤ b - c by omega) h
  rw [Int.max_eq_right this, Int.max_eq_right e]
 ·have := Int.mul_le_mul_of_nonneg_right (show b - c ≤ a - c by omega) h
  rw [Int.max_eq_left this, Int.max_eq_left (by omega)]
def uvX (zs : List (List Int)) (dn : Int) (k : Nat) : Int := (ptx zs k - blx zs (3 * zs.length)) * dn
def uvY (zs : List (List Int)) (dn : Int) (k : Nat) : Int := (pty zs k - bly zs (3 * zs.length)) * dn
def layU (zs : List (List Int)) (dn : Int) : List (List Int) := tnd (uvX zs dn) (uvY zs dn) zs.length
def layHx (zs : List (List Int)) (dn : Int) : Int := (bhx zs (3 * zs.length) - blx zs (3 * zs.length)) * dn
def layHy (zs : List (List Int)) (dn : Int) : Int := (bhy zs (3 * zs.length) - bly zs (3 * zs.length)) * dn
theorem layU_len (zs : List (List Int)) (dn : Int) : (layU zs dn).length = zs.length := tnd_len _ _ _
theorem lay_box (zs : List (List Int)) (dn : Int) (hd : 0 ≤ dn) (hn : 0 < zs.length) : ∀ k, k ≤ 3 * zs.length →
  blx (layU zs dn) k = (blx zs k - blx zs (3 * zs.length)) * dn ∧ bly (layU zs dn) k = (bly zs k - bly zs (3 * zs.length)) * dn ∧ bhx (layU zs dn) k = (bhx zs k - blx zs (3 * zs.length)) * dn ∧ bhy (layU zs dn) k = (bhy zs k - bly zs (3 * zs.length)) * dn
 | 0, _ => by
  have := tnd_pt (uvX zs dn) (uvY zs dn) zs.length 0 (by omega)
  simp only [blx, bly, bhx, bhy]
  unfold layU
  rw [this.1, this.2]
  exact ⟨rfl, rfl, rfl, rfl⟩
 | k + 1, hk => by
  obtain ⟨h1, h2, h3, h4⟩ := lay_box zs dn hd hn k (by omega)
  have := tnd_pt (uvX zs dn) (uvY zs dn) zs.length k (by omega)
  simp only [blx, bly, bhx, bhy]
  rw [h1, h2, h3, h4]
  unfold layU
  rw [this.1, this.2]
  unfold uvX uvY
  rw [min_aff _ _ _ _ hd, min_aff _ _ _ _ hd, max_aff _ _ _ _ hd, max_aff _ _ _ _ hd]
  exact ⟨rfl, rfl, rfl, rfl⟩
theorem lay_low (zs : List (List Int)) (dn : Int) (hd : 0 ≤ dn) (hn : 0 < zs.length) : blx (layU zs dn) (3 * zs.length) = 0 ∧ bly (layU zs dn) (3 * zs.length) = 0 ∧ bhx (layU zs dn) (3 * zs.length) = layHx zs dn ∧ bhy (layU zs dn) (3 * zs.length) = layHy zs dn := by
 obtain ⟨h1, h2, h3, h4⟩ := lay_box zs dn hd hn (3 * zs.length) (Nat.le_refl _)
 rw [h1, h2, h3, h4]
 refine ⟨?_, ?_, rfl, rfl⟩
 ·rw [Int.sub_self, Int.zero_mul]
 ·rw [Int.sub_self, Int.zero_mul]
theorem lay_small (zs : List (List Int)) (dn : Int) (hd : 0 ≤ dn) (hmx : max (layHx zs dn) (layHy zs dn) ≤ 4096) (k : Nat) (hk : k < 3 * zs.length) : (0 ≤ ptx (layU zs dn) k ∧ ptx (layU zs dn) k ≤ 4096) ∧ (0 ≤ pty (layU zs dn) k ∧ pty (layU zs dn) k ≤ 4096) := by
 have := tnd_pt (uvX zs dn) (uvY zs dn) zs.length k hk
 unfold layU
 rw [this.1, this.2]
 have hb := blx_lo zs (3 * zs.length) k hk
 unfold layHx layHy at hmx
 unfold uvX uvY
 have a1 := Int.mul_le_mul_of_nonneg_right (show (0 : Int) ≤ ptx zs k - blx zs (3 * zs.length) by omega) hd
 have a2 := Int.mul_le_mul_of_nonneg_right (show ptx zs k - blx zs (3 * zs.length) ≤ bhx zs (3 * zs.length) - blx zs (3 * zs.length) by omega) hd
 have a3 := Int.mul_le_mul_of_nonneg_right (show (0 : Int) ≤ pty zs k - bly zs (3 * zs.length) by omega) hd
 have a4 := Int.mul_le_mul_of_nonneg_right (show pty zs k - bly zs (3 * zs.length) ≤ bhy zs (3 * zs.length) - bly zs (3 * zs.length) by omega) hd
 rw [Int.zero_mul] at a1 a3
 omega
theorem area_aff (x0 y0 x1 y1 x2 y2 a b d : Int) : Sx.areaV [(x0 - a) * d, (y0 - b) * d, (x1 - a) * d, (y1 - b) * d, (x2 - a) * d, (y2 - b) * d] = Sx.areaV [x0, y0, x1, y1, x2, y2] * d * d := by
 show Sx.cr2 ((x1 - a) * d - (x0 - a) * d) ((y1 - b) * d - (y0 - b) * d) ((x2 - a) * d - (x0 - a) * d) ((y2 - b) * d - (y0 - b) * d) = Sx.cr2 (x1 - x0) (y1 - y0) (x2 - x0) (y2 - y0) * d * d
 unfold Sx.cr2
 grind
theorem area_mov (x0 y0 x1 y1 x2 y2 a b : Int) : Sx.areaV [x0 + a, y0 + b, x1 + a, y1 + b, x2 + a, y2 + b] = Sx.areaV [x0, y0, x1, y1, x2, y2] := by
 show Sx.cr2 (x1 + a - (x0 + a)) (y1 + b - (y0 + b)) (x2 + a - (x0 + a)) (y2 + b - (y0 + b)) = Sx.cr2 (x1 - x0) (y1 - y0) (x2 - x0) (y2 - y0)
 unfold Sx.cr2
 grind
theorem six_pt (zs : List (List Int)) (j : Nat) (h : (zs.getD j []).length = 6) : zs.getD j [] = [ptx zs (3 * j), pty zs (3 * j), ptx zs (3 * j + 1), pty zs (3 * j + 1), ptx zs (3 * j + 2), pty zs (3 * j + 2)] := by
 have h0 := pt_at zs j 0 (by omega); have h1 := pt_at zs j 1 (by omega); have h2 := pt_at zs j 2 (by omega)
 rw [Nat.add_zero] at h0
 rw [h0.1, h0.2, h1.1, h1.2, h2.1, h2.2]
 generalize zs.getD j [] = z at h ⊢
 obtain ⟨x0, l0, rfl, e0⟩ := Sx.cut1 h
 obtain ⟨x1, l1, rfl, e1⟩ := Sx.cut1 e0
 obtain ⟨x2, l2, rfl, e2⟩ := Sx.cut1 e1
 obtain ⟨x3, l3, rfl, e3⟩ := Sx.cut1 e2
 obtain ⟨x4, l4, rfl, e4⟩ := Sx.cut1 e3
 obtain ⟨x5, l5, rfl, e5⟩ := Sx.cut1 e4
 obtain rfl := Sx.cut0 e5
 rfl
theorem lay_area (zs : List (List Int)) (dn : Int) (j : Nat) (hj : j < zs.length) (h6 : (zs.getD j []).length = 6) : Sx.areaV ((layU zs dn).getD j []) = Sx.areaV (zs.getD j []) * dn * dn := by
 unfold layU
 rw [tnd_at _ _ hj, six_pt zs j h6]
 exact area_aff _ _ _ _ _ _ _ _ _
def shs (d : MD) (c : CH) : List (List Int) := c.tris.map fun t => shN d t.toNat c.ax.toNat
theorem shs_len (d : MD) (c : CH) : (shs d c).length = c.tris.length := by simp [shs]
theorem shs_at (d : MD) (c : CH) {j : Nat} (hj : j < c.tris.length) : (shs d c).getD j [] = shN d (c.tris.getD j 0).toNat c.ax.toNat := by
 simp [shs, List.getD, hj]
def layB (d : MD) (c : CH) (dn : Int) : Bool := (decide (1 ≤ dn) && decide (dn ≤ 64)) && (decide (max (layHx (shs d c) dn) (layHy (shs d c) dn) ≤ 4096) && aptB (layU (shs d c) dn))
structure CGood (d : MD) (c : CH) : Prop where
 ne : c.tris ≠ []
 ax0 : 0 ≤ c.ax
 ax3 : c.ax < 3
 few : c.tris.length ≤ 12
 look : ∀ t ∈ c.tris, lookB d c.ax c.sd t = true
theorem CGood.at {d : MD} {c : CH} (h : CGood d c) {j : Nat} (hj : j < c.tris.length) : ∃ n : Nat, c.tris.getD j 0 = n ∧ n < d.F.length ∧ lookB d c.ax c.sd n = true := by
 have hm := h.look (c.tris.getD j 0) (by rw [List.getD_eq_getElem?_getD, List.getElem?_eq_getElem hj]; exact List.getElem_mem _)
 obtain ⟨n, e, hn⟩ := look_at hm
 exact ⟨n, e, hn, by rw [← e]; exact hm⟩
theorem tame_v {d : MD} (h : tameB d = true) {z : List Int} (hz : z ∈ d.V) : ∀ i, i < 3 → -4096 ≤ z.getD i 0 ∧ z.getD i 0 ≤ 4096 := by
 unfold tameB at h
 rw [Bool.and_eq_true] at h
 have := List.all_eq_true.1 h.2 z hz
 unfold farB at this
 simp only [Bool.not_eq_true', Bool.or_eq_false_iff, decide_eq_false_iff_not] at this
 intro i hi
 match i, hi with
 | 0, _ => omega
 | 1, _ => omega
 | 2, _ => omega
theorem sh_small {d : MD} (ht : tameB d = true) (hv : ∀ z ∈ d.V, z.length = 3) {n ax : Nat} (hn : n < d.F.length) (hax : ax < 3) : ∀ i, i < 6 → -4096 ≤ (shN d n ax).getD i 0 ∧ (shN d n ax).getD i 0 ≤ 4096 := by
 have hm := tame_mesh ht
 have hf := mesh_face hm hn
 have hp : ∀ k i, k < 3 → i < 3 → -4096 ≤ (ptsN d n).getD (3 * k + i) 0 ∧ (ptsN d n).getD (3 * k + i) 0 ≤ 4096 := by
  intro k i hk hi
  have hV : ∀ a : Int, 0 ≤ a → a < d.V.length → d.V.getD a.toNat [] ∈ d.V := fun a h0 h1 => by
   rw [List.getD_eq_getElem?_getD, List.getElem?_eq_getElem (by omega)]; exact List.getElem_mem _
  have f0 := hf 0 (by omega); have f1 := hf 1 (by omega); have f2 := hf 2 (by omega)
  have m0 := hV _ f0.1 f0.2; have m1 := hV _ f1.1 f1.2; have m2 := hV _ f2.1 f2.2
  have t0 := tame_v ht m0; have t1 := tame_v ht m1; have t2 := tame_v ht m2
  have l0 := hv _ m0; have l1 := hv _ m1; have l2 := hv _ m2
  have e : ptsN d n = d.V.getD ((d.F.getD n []).getD (3 * 0) 0).toNat [] ++ (d.V.getD ((d.F.getD n []).getD (3 * 1) 0).toNat [] ++ d.V.getD ((d.F.getD n []).getD (3 * 2) 0).toNat []) := rfl
  rw [e]
  generalize d.V.getD ((d.F.getD n []).getD (3 * 0) 0).toNat [] = A at *
  generalize d.V.getD ((d.F.getD n []).getD (3 * 1) 0).toNat [] = B at *
  generalize d.V.getD ((d.F.getD n []).getD (3 * 2) 0).toNat [] = C at *
  have hk3 : k = 0 ∨ k = 1 ∨ k = 2 := by omega
  rcases hk3 with rfl | rfl | rfl
  ·have := t0 i hi
   simp only [List.getD_eq_getElem?_getD] at this ⊢
   rw [List.getElem?_append_left (by omega)]; simpa using this
  ·have := t1 i hi
   simp only [List.getD_eq_getElem?_getD] at this ⊢
   rw [List.getElem?_append_right (by omega), List.getElem?_append_left (by omega), show 3 * 1 + i - A.length = i by omega]; exact this
  ·have := t2 i hi
   simp only [List.getD_eq_getElem?_getD] at this ⊢
   rw [List.getElem?_append_right (by omega), List.getElem?_append_right (by omega), show 3 * 2 + i - A.length - B.length = i by omega]; exact this
 have e : shN d n ax = [(ptsN d n).getD ((ax + 1) % 3) 0, (ptsN d n).getD ((ax + 2) % 3) 0, (ptsN d n).getD (3 + (ax + 1) % 3) 0, (ptsN d n).getD (3 + (ax + 2) % 3) 0, (ptsN d n).getD (6 + (ax + 1) % 3) 0, (ptsN d n).getD (6 + (ax + 2) % 3) 0] := rfl
 rw [e]
 intro i hi
 have q0 := hp 0 ((ax + 1) % 3) (by omega) (Nat.mod_lt _ (by omega)); have q1 := hp 0 ((ax + 2) % 3) (by omega) (Nat.mod_lt _ (by omega))
 have q2 := hp 1 ((ax + 1) % 3) (by omega) (Nat.mod_lt _ (by omega)); have q3 := hp 1 ((ax + 2) % 3) (by omega) (Nat.mod_lt _ (by omega))
 have q4 := hp 2 ((ax + 1) % 3) (by omega) (Nat.mod_lt _ (by omega)); have q5 := hp 2 ((ax + 2) % 3) (by omega) (Nat.mod_lt _ (by omega))
 simp only [Nat.mul_zero, Nat.zero_add, Nat.mul_one] at q0 q1 q2 q3 q4 q5
 match i, hi with
 | 0, _ => exact q0
 | 1, _ => exact q1
 | 2, _ => exact q2
 | 3, _ => exact q3
 | 4, _ => exact q4
 | 5, _ => exact q5
theorem shs_small {d : MD} {c : CH} (ht : tameB d = true) (hv : ∀ z ∈ d.V, z.length = 3) (hc : CGood d c) : ∀ k, k < 3 * (shs d c).length → (-4096 ≤ ptx (shs d c) k ∧ ptx (shs d c) k ≤ 4096) ∧ (-4096 ≤ pty (shs d c) k ∧ pty (shs d c) k ≤ 4096) := by
 intro k hk
 rw [shs_len] at hk
 have hj : k / 3 < c.tris.length := by omega
 obtain ⟨n, e, hn, _⟩ := hc.at hj
 have hs := sh_small ht hv hn (ax := c.ax.toNat) (by have := hc.ax3; have := hc.ax0; omega)
 unfold ptx pty
 rw [shs_at d c hj, e]
 have : k % 3 = 0 ∨ k % 3 = 1 ∨ k % 3 = 2 := by omega
 rcases this with e | e | e <;> rw [e]
 ·exact ⟨hs 0 (by omega), hs 1 (by omega)⟩
 ·exact ⟨hs 2 (by omega), hs 3 (by omega)⟩
 ·exact ⟨hs 4 (by omega), hs 5 (by omega)⟩
theorem lay_good {d : MD} {c : CH} {dn : Int} (ht : tameB d = true) (hv : ∀ z ∈ d.V, z.length = 3) (hc : CGood d c) (hl : layB d c dn = true) {p : PA} (h1 : p.tris = c.tris) (h2 : p.uv = layU (shs d c) dn) (h3 : p.W = layHx (shs d c) dn / 16 + 1) (h4 : p.H = layHy (shs d c) dn / 16 + 1) : PGood p := by
 unfold layB at hl
 simp only [Bool.and_eq_true, decide_eq_true_eq] at hl
 obtain ⟨⟨d1, d2⟩, d3, d4⟩ := hl
 have hlen : p.uv.length = c.tris.length := by rw [h2, layU_len, shs_len]
 have hpos : 0 < c.tris.length := List.length_pos_iff.2 hc.ne
 have hsp : 0 < (shs d c).length := by rw [shs_len]; exact hpos
 have hlow := lay_low (shs d c) dn (by omega) hsp
 have hN : 3 * p.uv.length = 3 * (shs d c).length := by rw [hlen, shs_len]
 refine ⟨by rw [h1, hlen], by omega, by have := hc.few; omega, fun k hk => ?_, fun j hj => ?_, ?_, ?_, ?_, ?_, ?_⟩
 ·rw [hN] at hk; rw [h2]; exact lay_small _ _ (by omega) d3 k hk
 ·rw [hlen] at hj
  obtain ⟨n, e, hn, hk⟩ := hc.at hj
  have hax : ((c.ax.toNat : Nat) : Int) = c.ax := by have := hc.ax0; omega
  have hfa := face_area (ax := c.ax.toNat) (sd := c.sd) (tame_mesh ht) hv hn (by rw [hax]; exact hk)
  have ha := lay_area (shs d c) dn j (by rw [shs_len]; exact hj) (by rw [shs_at d c hj]; rfl)
  rw [shs_at d c hj, e, Int.toNat_natCast] at ha
  unfold Sx.rgt
  rw [h2, Bool.and_eq_true]
  refine ⟨?_, ?_⟩
  ·rw [show (layU (shs d c) dn).getD j [] = [uvX (shs d c) dn (3 * j), uvY (shs d c) dn (3 * j), uvX (shs d c) dn (3 * j + 1), uvY (shs d c) dn (3 * j + 1), uvX (shs d c) dn (3 * j + 2), uvY (shs d c) dn (3 * j + 2)] from tnd_at _ _ (by rw [shs_len]; exact hj)]
   have k0 := lay_small (shs d c) dn (by omega) d3 (3 * j) (by rw [shs_len]; omega)
   have k1 := lay_small (shs d c) dn (by omega) d3 (3 * j + 1) (by rw [shs_len]; omega)
   have k2 := lay_small (shs d c) dn (by omega) d3 (3 * j + 2) (by rw [shs_len]; omega)
   have t0 := tnd_pt (uvX (shs d c) dn) (uvY (shs d c) dn) (shs d c).length (3 * j) (by rw [shs_len]; omega)
   have t1 := tnd_pt (uvX (shs d c) dn) (uvY (shs d c) dn) (shs d c).length (3 * j + 1) (by rw [shs_len]; omega)
   have t2 := tnd_pt (uvX (shs d c) dn) (uvY (shs d c) dn) (shs d c).length (3 * j + 2) (by rw [shs_len]; omega)
   unfold layU at k0 k1 k2
   rw [t0.1, t0.2] at k0
   rw [t1.1, t1.2] at k1
   rw [t2.1, t2.2] at k2
   simp only [List.all_cons, List.all_nil, Sx.us]
   simp
   omega
  ·have : Sx.areaV ((layU (shs d c) dn).getD j []) ≠ 0 := by
    rw [ha]
    intro h0
    have hne : Sx.areaV (shN d n c.ax.toNat) ≠ 0 := fun h => by have := hfa.2; rw [h] at this; simp at this
    rcases Int.mul_eq_zero.1 h0 with h | h
    ·rcases Int.mul_eq_zero.1 h with h | h
     ·exact hne h
     ·omega
    ·omega
   simpa using this
 ·rw [hN, h2]; exact hlow.1
 ·rw [hN, h2]; exact hlow.2.1
 ·rw [h3, hN, h2, hlow.2.2.1]
 ·rw [h4, hN, h2, hlow.2.2.2]
 ·rw [h2]; exact d4
end Mt
end Go.Proofs.YtlfoglklibhbnaaGreat
namespace Go.Proofs.YtlfoglklibhbnaaGreat
open Go.RowKit
namespace Mt
attribute [local go_sem ↓] Go.wp_at_zero Go.wp_at_succ
theorem ti_patch : AggT Tryz.prog 70 4 := ⟨⟨_, 4, [.slice none 0 0, .slice none 0 0, .int .i64 0, .int .i64 0]⟩, ⟨Tryz.underlying70, by kernel_rfl⟩, rfl, rfl⟩
def LayP (d : MD) (c : CH) (dn : Int) (w : World) (e : Ending) (w' : World) : Prop :=
 (layB d c dn = true → ∃ p : PA, e = .returned (.tuple #[.agg p.vs.toArray, .int .i64 0]) ∧ p.tris = c.tris ∧ p.uv = layU (shs d c) dn ∧ p.W = layHx (shs d c) dn / 16 + 1 ∧ p.H = layHy (shs d c) dn / 16 + 1 ∧ PMem w' p ∧ (∀ ad : Addr, p.ta = some ad → w.heap.size ≤ ad.block) ∧ (∀ ad : Addr, p.ua = some ad → w.heap.size ≤ ad.block) ∧ Gr w w') ∧
 (layB d c dn = false → ∃ er, e = .returned (.tuple #[.agg #[.slice none 0 0, .slice none 0 0, .int .i64 0, .int .i64 0], .int .i64 er]) ∧ er ≠ 0 ∧ Gr w w')
theorem LayP.no {d : MD} {c : CH} {dn : Int} {w w' : World} {e : Ending} (hl : layB d c dn = false) (er : Int) (he : e = .returned (.tuple #[.agg #[.slice none 0 0, .slice none 0 0, .int .i64 0, .int .i64 0], .int .i64 er])) (h0 : er ≠ 0) (hg : Gr w w') : LayP d c dn w e w' :=
 ⟨fun h => (by rw [hl] at h; cases h), fun _ => ⟨er, he, h0, hg⟩⟩
theorem flat_take {d : MD} {c : CH} {k : Nat} (hk : k < c.tris.length) : (shs d c).take (k + 1) = (shs d c).take k ++ [shN d (c.tris.getD k 0).toNat c.ax.toNat] := by
 rw [List.take_succ_eq_append_getElem (by rw [shs_len]; exact hk)]
 congr 2
 have := shs_at d c hk
 rw [← this]
 simp [List.getD, show k < (shs d c).length by rw [shs_len]; exact hk]
theorem row_ks {k : IntKind} {S : Nat → Prop} {w w' : World} {a : Option Addr} {len : Nat} {zs : List Int} (h : IsRow k w a len zs) (hk : Ks S w w') (hS : ∀ ad : Addr, a = some ad → ¬ S ad.block) : IsRow k w' a len zs := by
 obtain ⟨h1, h2, h3, h4⟩ := h
 refine ⟨h1, h2, h3, fun h0 => ?_⟩
 obtain ⟨b, off, h5, h6⟩ := h4 h0
 exact ⟨b, off, h5, fun i hi => by rw [hk.cell (p := ⟨b, off + i, none⟩) (lt_of_cell (h6 i hi)) (hS ⟨b, off, none⟩ h5)]; exact h6 i hi⟩
theorem ks_four (w : World) (g : Nat) (u0 u1 u2 u3 : Value) : Ks (fun b => b = g) w ((((w.setCell ⟨g, 0, none⟩ u0).setCell ⟨g, 1, none⟩ u1).setCell ⟨g, 2, none⟩ u2).setCell ⟨g, 3, none⟩ u3) := by
 have h1 : Ks (fun b => b = g) w (w.setCell ⟨g, 0, none⟩ u0) := ks_set rfl
 generalize w.setCell ⟨g, 0, none⟩ u0 = w1 at *
 have h2 : Ks (fun b => b = g) w1 (w1.setCell ⟨g, 1, none⟩ u1) := ks_set rfl
 generalize w1.setCell ⟨g, 1, none⟩ u1 = w2 at *
 have h3 : Ks (fun b => b = g) w2 (w2.setCell ⟨g, 2, none⟩ u2) := ks_set rfl
 generalize w2.setCell ⟨g, 2, none⟩ u2 = w3 at *
 have h4 : Ks (fun b => b = g) w3 (w3.setCell ⟨g, 3, none⟩ u3) := ks_set rfl
 exact ((h1.trans h2).trans h3).trans h4
set_option maxHeartbeats 16000000 in
set_option maxRecDepth 100000 in
theorem lay_any (m : ML) (d : MD) (c : CH) (dn : Int) (w : World) (h : IsM w m d) (ht : tameB d = true) (hc : CGood d c) (hr : IsRow .i64 w c.a c.tris.length c.tris) :
  Calls Tryz.prog 18 #[m.val, .agg c.vs.toArray, .int .i64 dn] w (LayP d c dn w) := by
 obtain ⟨i0, hi, hz0, hz1, hz2⟩ := info_parts infoT
 obtain ⟨⟨av, lv, cv⟩, ⟨at', lt, ct⟩, ⟨an, ln, cn⟩, ⟨af, lf, cf⟩⟩ := m
 have hv : ∀ z ∈ d.V, z.length = 3 := fun z hz => (h.v.2.2.1 z hz).1
 have hn : 0 < c.tris.length := List.length_pos_iff.2 hc.ne
 have hfew := hc.few
 obtain ⟨bt, ot, et, _⟩ := row_at hr hn
 have hax := hc.ax0; have hax3 := hc.ax3
 have HBD := Lib.hid (shs_small ht hv hc)
 have HFC := Lib.hid (fun (k : Nat) (hk : k < c.tris.length) => hc.at hk)
 have HFA := Lib.hid (fun (n : Nat) (w1 : World) (g : Gr w w1) => facing_any (n : Int) ⟨⟨av, lv, cv⟩, ⟨at', lt, ct⟩, ⟨an, ln, cn⟩, ⟨af, lf, cf⟩⟩ d w1 (h.later g))
 have HSH := Lib.hid (fun (n : Nat) (hn : n < d.F.length) (w1 : World) (g : Gr w w1) => shadow_of n c.ax.toNat (by omega) ⟨⟨av, lv, cv⟩, ⟨at', lt, ct⟩, ⟨an, ln, cn⟩, ⟨af, lf, cf⟩⟩ d w1 (h.later g) ht hn)
 have HSM := Lib.hid (fun (n : Nat) (hn : n < d.F.length) => sh_small ht hv hn (ax := c.ax.toNat) (by omega))
 have HT := Lib.hid ht
 have HTK := Lib.hid (fun (k : Nat) (hk : k < c.tris.length) => flat_take (d := d) hk)
 have HSL := Lib.hid (shs_len d c)
 have HR := Lib.hid hr
 have HGOOD := Lib.hid hc
 have HLB := Lib.hid (show layB d c dn = ((decide (1 ≤ dn) && decide (dn ≤ 64)) && (decide (max (layHx (shs d c) dn) (layHy (shs d c) dn) ≤ 4096) && aptB (layU (shs d c) dn))) from rfl)
 have HV := Lib.hid hv
 have hat : ((c.ax.toNat : Nat) : Int) = c.ax := by omega
 rw [hat] at HSH
 have HAT := Lib.hid hat
 clear h ht hc hr hv hat
 obtain ⟨ax, sd, ca, cc, tris⟩ := c
 simp only at et hn hfew hax hax3
 subst et
 obtain ⟨n, hnn⟩ : ∃ n, tris.length = n := ⟨_, rfl⟩
 show Calls _ _ #[.agg #[.slice av lv cv, .slice at' lt ct, .slice an ln cn, .slice af lf cf], .agg #[.int .i64 ax, .int .i64 sd, .slice (some ⟨bt, ot, none⟩) tris.length cc], .int .i64 dn] _ _
 simp only at HBD HFC HSH HSM HTK HSL HR HLB HAT HGOOD
 rw [hnn] at hn hfew HFC HTK HSL HR ⊢
 have HNN := Lib.hid hnn
 obtain ⟨V, hV⟩ : ∃ V, (((w.alloc (.cells #[.slice av lv cv, .slice at' lt ct, .slice an ln cn, .slice af lf cf] 26)).alloc (.cells #[.int .i64 ax, .int .i64 sd, .slice (some ⟨bt, ot, none⟩) n cc] 60)).alloc (.cells #[.int .i64 dn] 3)).alloc (.cells #[.slice none 0 0, .slice none 0 0, .int .i64 0, .int .i64 0] 70) = V := ⟨_, rfl⟩
 have hg : Gr w V := by rw [← hV]; exact ((((Gr.refl w).alloc _).alloc _).alloc _).alloc _
 have b0 : Bx V w.heap.size 26 [.slice av lv cv, .slice at' lt ct, .slice an ln cn, .slice af lf cf] := by rw [← hV]; exact (((Bx.new (vs := [.slice av lv cv, .slice at' lt ct, .slice an ln cn, .slice af lf cf]) rfl).alloc _).alloc _).alloc _
 have b1 : Bx V (w.heap.size + 1) 60 [.int .i64 ax, .int .i64 sd, .slice (some ⟨bt, ot, none⟩) n cc] := by rw [← hV]; exact ((Bx.new (vs := [.int .i64 ax, .int .i64 sd, .slice (some ⟨bt, ot, none⟩) n cc]) (by simp)).alloc _).alloc _
 have b2 : Bx V (w.heap.size + 1 + 1) 3 [.int .i64 dn] := by rw [← hV]; exact (Bx.new (vs := [.int .i64 dn]) (by simp)).alloc _
 have b3 : Bx V (w.heap.size + 1 + 1 + 1) 70 [.slice none 0 0, .slice none 0 0, .int .i64 0, .int .i64 0] := by rw [← hV]; exact Bx.new (vs := [.slice none 0 0, .slice none 0 0, .int .i64 0, .int .i64 0]) (by simp)
 have c2 := b2.blk.cell 0 rfl
 have p0 := b3.blk.cell 0 rfl; have p1 := b3.blk.cell 1 rfl; have p2 := b3.blk.cell 2 rfl; have p3 := b3.blk.cell 3 rfl; have f0 := b3.blk.free 0 rfl; have f1 := b3.blk.free 1 rfl; have f2 := b3.blk.free 2 rfl; have f3 := b3.blk.free 3 rfl
 have l3 := b3.lt; have l2 := b2.lt
 have ch2 := b1.blk.cell 2 rfl; have l1 := b1.lt
 have HB0 := Lib.hid b0; have HB1 := Lib.hid b1; have HB2 := Lib.hid b2; have HB3 := Lib.hid b3; have HG := Lib.hid hg
 clear b0 b1 b2 b3 hg hnn
 by_cases hd1 : dn < 1
 ·have d1 : decide (dn < 1) = true := by simpa using hd1
  have HNO := Lib.hid (show layB d ⟨ax, sd, some ⟨bt, ot, none⟩, cc, tris⟩ dn = false from by rw [HLB.out]; simp; omega)
  clear hd1
  go_enter Tryz.func18, Tryz.ntmps18
  go_wp2_with fail
  refine bodyPost_ret (res_agg_tmp (vs := [.slice none 0 0, .slice none 0 0, .int .i64 0, .int .i64 0]) rfl ti_patch rfl (bx_seti (bx_seti (bx_seti (bx_seti HB3.out 0 _) 1 _) 2 _) 3 _) rfl) rfl (LayP.no HNO.out 1 rfl (by omega) ?_)
  exact (((HG.out.setCell (by show w.heap.size ≤ w.heap.size + 1 + 1 + 1; omega) _).setCell (by show w.heap.size ≤ w.heap.size + 1 + 1 + 1; omega) _).setCell (by show w.heap.size ≤ w.heap.size + 1 + 1 + 1; omega) _).setCell (by show w.heap.size ≤ w.heap.size + 1 + 1 + 1; omega) _
 by_cases hd2 : 64 < dn
 ·have d1 : decide (dn < 1) = false := by simpa using hd1
  have d2 : decide (64 < dn) = true := by simpa using hd2
  have HNO := Lib.hid (show layB d ⟨ax, sd, some ⟨bt, ot, none⟩, cc, tris⟩ dn = false from by rw [HLB.out]; simp; omega)
  clear hd1 hd2
  go_enter Tryz.func18, Tryz.ntmps18
  go_wp2_with fail
  refine bodyPost_ret (res_agg_tmp (vs := [.slice none 0 0, .slice none 0 0, .int .i64 0, .int .i64 0]) rfl ti_patch rfl (bx_seti (bx_seti (bx_seti (bx_seti HB3.out 0 _) 1 _) 2 _) 3 _) rfl) rfl (LayP.no HNO.out 1 rfl (by omega) ?_)
  exact (((HG.out.setCell (by show w.heap.size ≤ w.heap.size + 1 + 1 + 1; omega) _).setCell (by show w.heap.size ≤ w.heap.size + 1 + 1 + 1; omega) _).setCell (by show w.heap.size ≤ w.heap.size + 1 + 1 + 1; omega) _).setCell (by show w.heap.size ≤ w.heap.size + 1 + 1 + 1; omega) _
 have d1 : decide (dn < 1) = false := by simpa using hd1
 have d2 : decide (64 < dn) = false := by simpa using hd2
 have hdn : 1 ≤ dn ∧ dn ≤ 64 := by omega
 have HDN := Lib.hid hdn
 clear hd1 hd2 hdn
 go_enter Tryz.func18, Tryz.ntmps18
 go_wp2_with fail
 clear hV c2 p0 p1 p2 p3 f0 f1 f2 f3 l3 l2 l1 ch2
 go_loopw [8, 32] (fun v8 v32 wr => ∃ k : Nat, k ≤ n ∧ v32 = .int .i64 k ∧ wr.ownsRow V.heap.size 39 6 v8 k (Ro.fl ((shs d ⟨ax, sd, some ⟨bt, ot, none⟩, cc, tris⟩).take k)) ∧ Gr V wr) (fun _ v32 _ => n - (intOf v32).toNat)
 case atStart => exact ⟨0, Nat.zero_le _, rfl, World.ownsRow_nil _ _ _ _, Gr.refl _⟩
 case round =>
  obtain ⟨k, hk, rfl, hown, hg⟩ := hrel
  obtain ⟨a8, cap8, rfl⟩ := own_slice hown
  have HO := Lib.hid hown; have HGR := Lib.hid hg
  clear hown hg
  by_cases hlt : k < n
  ·obtain ⟨nn, en, hnF, hlk⟩ := HFC.out k hlt
   obtain ⟨_, _, e, _, hck, _⟩ := row_at (HR.out.later (HG.out.trans HGR.out)) hlt
   cases e
   rw [en] at hck
   have hfac : ∀ w1, Gr w w1 → Calls Tryz.prog 8 #[.agg #[.slice av lv cv, .slice at' lt ct, .slice an ln cn, .slice af lf cf], .int .i64 nn] w1 fun e w' => e = .returned (.tuple #[.int .i64 ax, .int .i64 sd, .bool true]) ∧ Gr w1 w' := by
    intro w1 g
    have h1 := HFA.out nn w1 g
    unfold lookB at hlk
    simp only [Bool.and_eq_true, beq_iff_eq] at hlk
    have e0 : fcT 0 d nn = ax := (if_pos HT.out).trans hlk.2.1
    have e1 : fcT 1 d nn = sd := (if_pos HT.out).trans hlk.2.2
    have e2 : fcT 2 d nn = 0 := (if_pos HT.out).trans hlk.1
    rw [e0, e1, e2] at h1
    exact h1
   obtain ⟨u0, v0, u1, v1, u2, v2, es⟩ := shN_six d nn ax.toNat
   have hsh : ∀ w1, Gr w w1 → Calls Tryz.prog 11 #[.agg #[.slice av lv cv, .slice at' lt ct, .slice an ln cn, .slice af lf cf], .int .i64 nn, .int .i64 ax] w1 fun e w' => e = .returned (.tuple #[.agg #[.int .i64 u0, .int .i64 v0, .int .i64 u1, .int .i64 v1, .int .i64 u2, .int .i64 v2], .int .i64 0]) ∧ Gr w1 w' := by
    intro w1 g
    have h1 := HSH.out nn hnF w1 g
    rw [es] at h1
    exact h1
   have htk := HTK.out k hlt
   simp only [en, Int.toNat_natCast, es] at htk
   have HFAC := Lib.hid hfac; have HSHD := Lib.hid hsh; have HTK1 := Lib.hid htk
   clear hfac hsh htk en hnF hlk es
   have hk0 : (0 : Int) ≤ (k : Int) := by omega
   have b0 := HB0.out.gr HGR.out; have b1 := HB1.out.gr HGR.out
   have m0 := b0.blk.cell 0 rfl; have m1 := b0.blk.cell 1 rfl; have m2 := b0.blk.cell 2 rfl; have m3 := b0.blk.cell 3 rfl
   have lb0 := b0.lt; have lb1 := b1.lt
   clear b0 b1
   go_wp2_with fail
   refine (HFAC.out _ (HG.out.trans HGR.out)).mono ?_
   rintro e w2 ⟨rfl, hg2⟩
   have HG2 := Lib.hid (HGR.out.trans hg2); have HO2 := Lib.hid (Fa_owns HO.out hg2)
   clear hg2 m0 m1 m2 m3 lb0 lb1 hck HFAC
   have b0 := HB0.out.gr HG2.out; have b1 := HB1.out.gr HG2.out
   have m0 := b0.blk.cell 0 rfl; have m1 := b0.blk.cell 1 rfl; have m2 := b0.blk.cell 2 rfl; have m3 := b0.blk.cell 3 rfl
   have q0 := b1.blk.cell 0 rfl; have q1 := b1.blk.cell 1 rfl
   have lb0 := b0.lt; have lb1 := b1.lt
   clear b0 b1
   go_wp2_with fail
   refine (HSHD.out _ (HG.out.trans HG2.out)).mono ?_
   rintro e w3 ⟨rfl, hg3⟩
   have HG3 := Lib.hid ((HG2.out.trans hg3).alloc (.cells #[.int .i64 u0, .int .i64 v0, .int .i64 u1, .int .i64 v1, .int .i64 u2, .int .i64 v2] 39)); have HO3 := Lib.hid ((Fa_owns HO2.out hg3).alloc (.cells #[.int .i64 u0, .int .i64 v0, .int .i64 u1, .int .i64 v1, .int .i64 u2, .int .i64 v2] 39))
   have hx : Bx (w3.alloc (.cells #[.int .i64 u0, .int .i64 v0, .int .i64 u1, .int .i64 v1, .int .i64 u2, .int .i64 v2] 39)) w3.heap.size 39 [.int .i64 u0, .int .i64 v0, .int .i64 u1, .int .i64 v1, .int .i64 u2, .int .i64 v2] := Bx.new (vs := [.int .i64 u0, .int .i64 v0, .int .i64 u1, .int .i64 v1, .int .i64 u2, .int .i64 v2]) rfl
   have x0 := hx.blk.cell 0 rfl; have x1 := hx.blk.cell 1 rfl; have x2 := hx.blk.cell 2 rfl; have x3 := hx.blk.cell 3 rfl; have x4 := hx.blk.cell 4 rfl; have x5 := hx.blk.cell 5 rfl
   have hs3 := HG3.out.size
   clear hg3 m0 m1 m2 m3 q0 q1 lb0 lb1 HSHD hx
   go_wp2_with (first
    | (at_builtin; go_loud (refine wpList_append_own _ rfl (.tmp 69) (.tmp 71) 49 rfl V.heap.size 39 i0 (.agg #[.int .i64 0, .int .i64 0, .int .i64 0, .int .i64 0, .int .i64 0, .int .i64 0]) 6 48 Tryz.underlying49 hi hz0 hz1 hz2 rfl (by decide) (.slice a8 k cap8) k (Ro.fl ((shs d ⟨ax, sd, some ⟨bt, ot, none⟩, cc, tris⟩).take k)) (by rfl) (HO3.out.alloc _) ⟨w3.heap.size + 1, 0, none⟩ 1 1 [.int .i64 u0, .int .i64 v0, .int .i64 u1, .int .i64 v1, .int .i64 u2, .int .i64 v2] (by rfl) rfl (by simpa using World.news_of_block (World.alloc_heap_new (w3.alloc (.cells #[.int .i64 u0, .int .i64 v0, .int .i64 u1, .int .i64 v1, .int .i64 u2, .int .i64 v2] 39)) (.cells #[.int .i64 u0, .int .i64 v0, .int .i64 u1, .int .i64 v1, .int .i64 u2, .int .i64 v2] 39))) ?c3 ?c4 ?c5 ?c6 ?_)))
   case c3 => intro u hu; simp at hu; rcases hu with rfl | rfl | rfl | rfl | rfl | rfl <;> rfl
   case c4 => unfold maxLen; omega
   case c5 => omega
   case c6 => simp at hs3 ⊢; omega
   intro v' w4 hown4 hgrow _
   have hg4 : Gr V w4 := Below.grown (HG3.out.alloc _) hgrow (HG3.out.alloc _).size (fun j hj => (HO3.out.lt j hj).1)
   have HO4 := Lib.hid hown4; have HG4 := Lib.hid hg4
   clear hown4 hgrow hg4 x0 x1 x2 x3 x4 x5
   go_wp2_with fail
   go_roundw
   case rel =>
    refine ⟨k + 1, by omega, by go_num, ?_, HG4.out⟩
    rw [HTK1.out, Ro.fl_append]; exact HO4.out
   case measure => simp [intOf]; omega
  ·have hkn : k = n := by omega
   subst hkn
   have HOK := Lib.hid (show wr.ownsRow V.heap.size 39 6 (.slice a8 k cap8) (shs d ⟨ax, sd, some ⟨bt, ot, none⟩, cc, tris⟩).length (Ro.fl (shs d ⟨ax, sd, some ⟨bt, ot, none⟩, cc, tris⟩)) from by
    have := HO.out
    rw [List.take_of_length_le (by rw [HSL.out]; exact Nat.le_refl _)] at this
    rw [HSL.out]; exact this)
   have hz6 : ∀ z ∈ shs d ⟨ax, sd, some ⟨bt, ot, none⟩, cc, tris⟩, z.length = 6 ∧ ∀ x ∈ z, I x := by
    intro z hz
    obtain ⟨j, hj⟩ := List.getElem?_of_mem hz
    have hjl : j < (shs d ⟨ax, sd, some ⟨bt, ot, none⟩, cc, tris⟩).length := (List.getElem?_eq_some_iff.1 hj).1
    rw [HSL.out] at hjl
    have e1 := shs_at d ⟨ax, sd, some ⟨bt, ot, none⟩, cc, tris⟩ (j := j) (by rw [HNN.out]; exact hjl)
    obtain ⟨nn, en, hnF, _⟩ := HFC.out j hjl
    rw [show z = shN d nn ax.toNat from by
     rw [List.getD_eq_getElem?_getD, hj] at e1
     simp only [Option.getD_some] at e1
     rw [e1, en]; simp]
    refine ⟨rfl, fun x hx => ?_⟩
    obtain ⟨i, hi⟩ := List.getElem?_of_mem hx
    have hil : i < 6 := (List.getElem?_eq_some_iff.1 hi).1
    have := HSM.out nn hnF i hil
    rw [List.getD_eq_getElem?_getD, hi] at this
    simp only [Option.getD_some] at this
    exact ⟨by omega, by omega⟩
   obtain ⟨a', cap', e, hrows, hcap, _⟩ := Ro.rows_owned HOK.out (by rw [HSL.out]; omega) hz6
   rw [HSL.out] at e hrows hcap
   cases e
   have HROWS := Lib.hid hrows; have HCAP := Lib.hid hcap
   generalize hS : shs d ⟨ax, sd, some ⟨bt, ot, none⟩, cc, tris⟩ = S at *
   have HS := Lib.hid hS
   have hbs := bl_small S (n := 3 * k) (by have := HBD.out; rw [HSL.out] at this; exact this) (by omega) (3 * k) (Nat.le_refl _)
   have HBX := Lib.hid (fun w1 (g : Gr wr w1) => box_any a8 k cap8 S w1 (hrows.later g) hn (by omega) (by have := HBD.out; rw [HSL.out] at this; exact this))
   have hLx : layHx S dn = (bhx S (3 * k) - blx S (3 * k)) * dn := by unfold layHx; rw [HSL.out]
   have hLy : layHy S dn = (bhy S (3 * k) - bly S (3 * k)) * dn := by unfold layHy; rw [HSL.out]
   obtain ⟨boff, ob, _, _, _, _, _, _, e8, _⟩ := rows6_op hrows hn
   subst e8
   have huv : ∀ j, uvX S dn j = (ptx S j - blx S (3 * k)) * dn ∧ uvY S dn j = (pty S j - bly S (3 * k)) * dn := fun j => by unfold uvX uvY; rw [HSL.out]; exact ⟨rfl, rfl⟩
   have HUV := Lib.hid huv
   have hle : blx S (3 * k) ≤ bhx S (3 * k) ∧ bly S (3 * k) ≤ bhy S (3 * k) := by have := blx_lo S (3 * k) 0 (by omega); omega
   have HLX := Lib.hid hLx; have HLY := Lib.hid hLy
   have hbd : ∀ j, j < 3 * k → (-4096 ≤ ptx S j ∧ ptx S j ≤ 4096) ∧ (-4096 ≤ pty S j ∧ pty S j ≤ 4096) := by have := HBD.out; rw [HSL.out] at this; exact this
   have HBB := Lib.hid hbd
   clear hrows hcap hS hz6 HOK huv hbd hLx hLy
   generalize blx S (3 * k) = lx at *
   generalize bly S (3 * k) = ly at *
   generalize bhx S (3 * k) = hx at *
   generalize bhy S (3 * k) = hy at *
   have HBS := Lib.hid hbs
   clear hbs
   go_wp2_with fail
   refine (HBX.out _ (Gr.refl _)).mono ?_
   rintro e w2 ⟨rfl, hg2⟩
   obtain ⟨U, hU⟩ : ∃ U, (w2.alloc (.cells #[.int .i64 lx, .int .i64 ly] 38)).alloc (.cells #[.int .i64 hx, .int .i64 hy] 38) = U := ⟨_, rfl⟩
   obtain ⟨s2, hs2⟩ : ∃ s2, w2.heap.size = s2 := ⟨_, rfl⟩
   have bl : Bx U s2 38 [.int .i64 lx, .int .i64 ly] := by rw [← hU]; exact (Bx.new (vs := [.int .i64 lx, .int .i64 ly]) hs2.symm).alloc _
   have bh : Bx U (s2 + 1) 38 [.int .i64 hx, .int .i64 hy] := by rw [← hU]; exact Bx.new (vs := [.int .i64 hx, .int .i64 hy]) (by simp; omega)
   have gU : Gr wr U := by rw [← hU]; exact (hg2.alloc _).alloc _
   have hVs : V.heap.size ≤ s2 := by have := (HGR.out.trans hg2).size; omega
   have hWs : wr.heap.size ≤ s2 := by have := hg2.size; omega
   have HWU := Lib.hid gU
   have HGU := Lib.hid (HGR.out.trans gU); have HBL := Lib.hid bl; have HBH := Lib.hid bh; have HRU := Lib.hid (HROWS.out.later gU)
   have h0 := bh.blk.cell 0 rfl; have h1 := bh.blk.cell 1 rfl; have lh := bh.lt; have ll := bl.lt
   clear hg2 bl bh gU HBX
   go_wp2_with fail
   clear hU hs2 h0 h1 lh ll
   have k1 := mul_bd (M := 8192) (N := 64) 524288 (by decide) (show -8192 ≤ hx - lx ∧ hx - lx ≤ 8192 by have := HBS.out; omega) (show -64 ≤ dn ∧ dn ≤ 64 by have := HDN.out; omega)
   have k2 := mul_bd (M := 8192) (N := 64) 524288 (by decide) (show -8192 ≤ hy - ly ∧ hy - ly ≤ 8192 by have := HBS.out; omega) (show -64 ≤ dn ∧ dn ≤ 64 by have := HDN.out; omega)
   have n1 : 0 ≤ (hx - lx) * dn := Int.mul_nonneg (by omega) (by have := HDN.out; omega)
   have n2 : 0 ≤ (hy - ly) * dn := Int.mul_nonneg (by omega) (by have := HDN.out; omega)
   refine (lay1_any hx hy lx ly dn s2 (w.heap.size + 1 + 1) U HBS.out.2.2.1 HBS.out.2.2.2 HBS.out.1 HBS.out.2.1 HDN.out HBL.out (HB2.out.gr HGU.out)).mono ?_
   rintro e w3 ⟨rfl, hg3⟩
   generalize (hx - lx) * dn = X at *
   generalize (hy - ly) * dn = Y at *
   have bh3 := HBH.out.gr hg3; have bl3 := HBL.out.gr hg3
   obtain ⟨Q, hQ⟩ : ∃ Q, (w3.setCell ⟨s2 + 1, 0, none⟩ (.int .i64 X)).setCell ⟨s2 + 1, 1, none⟩ (.int .i64 Y) = Q := ⟨_, rfl⟩
   have gWQ : Gr wr Q := by rw [← hQ]; exact (((HWU.out.trans hg3).setCell (by show wr.heap.size ≤ s2 + 1; omega) _).setCell (by show wr.heap.size ≤ s2 + 1; omega) _)
   have bQh : Bx Q (s2 + 1) 38 [.int .i64 X, .int .i64 Y] := by rw [← hQ]; exact bx_seti (bx_seti bh3 0 _) 1 _
   have bQl : Bx Q s2 38 [.int .i64 lx, .int .i64 ly] := by
    rw [← hQ]
    exact (Below.heap_setCell _ _ _ s2 (by show s2 ≠ s2 + 1; omega)).trans ((Below.heap_setCell _ _ _ s2 (by show s2 ≠ s2 + 1; omega)).trans bl3)
   have HWQ := Lib.hid gWQ; have HQH := Lib.hid bQh; have HQL := Lib.hid bQl
   have f0 := bh3.blk.free 0 rfl; have f1 := bh3.blk.free 1 rfl; have g0 := bh3.blk.cell 0 rfl; have g1 := bh3.blk.cell 1 rfl; have q0 := bQh.blk.cell 0 rfl; have q1 := bQh.blk.cell 1 rfl; have lq := bQh.lt; have lh3 := bh3.lt
   have HZ3 := Lib.hid (HB3.out.gr (HGR.out.trans gWQ)); have HVQ := Lib.hid (HGR.out.trans gWQ)
   have z3 := HZ3.out.blk
   have p0 := z3.cell 0 rfl; have p1 := z3.cell 1 rfl; have p2 := z3.cell 2 rfl; have p3 := z3.cell 3 rfl; have y0 := z3.free 0 rfl; have y1 := z3.free 1 rfl; have y2 := z3.free 2 rfl; have y3 := z3.free 3 rfl; have lz := HZ3.out.lt
   have mx : (if X < Y then Y else X) = max X Y := by split <;> omega
   clear bh3 bl3 gWQ bQh bQl hg3 HRU HGU HBL HBH z3
   by_cases hm : 4096 < max X Y
   ·have d3 : decide (4096 < max X Y) = true := by simpa using hm
    have HNO := Lib.hid (show layB d ⟨ax, sd, some ⟨bt, ot, none⟩, cc, tris⟩ dn = false from by
     rw [HLB.out, HLX.out, HLY.out, show decide (max X Y ≤ 4096) = false by simp; omega]
     simp)
    clear hm
    go_wp2_with fail
    refine bodyPost_ret (res_agg_tmp (vs := [.slice none 0 0, .slice none 0 0, .int .i64 0, .int .i64 0]) rfl ti_patch rfl (bx_seti (bx_seti (bx_seti (bx_seti HZ3.out 0 _) 1 _) 2 _) 3 _) rfl) rfl (LayP.no HNO.out 2 rfl (by omega) ?_)
    exact ((((HG.out.trans HVQ.out).setCell (by show w.heap.size ≤ w.heap.size + 1 + 1 + 1; omega) _).setCell (by show w.heap.size ≤ w.heap.size + 1 + 1 + 1; omega) _).setCell (by show w.heap.size ≤ w.heap.size + 1 + 1 + 1; omega) _).setCell (by show w.heap.size ≤ w.heap.size + 1 + 1 + 1; omega) _
   have d3 : decide (4096 < max X Y) = false := by simpa using hm
   have HM := Lib.hid (show max X Y ≤ 4096 by omega)
   clear hm
   go_wp2_with fail
   refine (turned_lay (.pointer (some ⟨s2, 0, none⟩)) (.pointer (some ⟨w.heap.size + 1 + 1, 0, none⟩)) (uvX S dn) (uvY S dn) boff ob k cap8 S Q (HROWS.out.later HWQ.out) hn (by omega) ?hI ?hf).mono ?_
   case hI =>
    intro j hj
    rw [(HUV.out j).1, (HUV.out j).2]
    have c1 := mul_bd (M := 8192) (N := 64) 524288 (by decide) (show -8192 ≤ ptx S j - lx ∧ ptx S j - lx ≤ 8192 by have := HBS.out; have := HBB.out j hj; omega) (show -64 ≤ dn ∧ dn ≤ 64 by have := HDN.out; omega)
    have c2 := mul_bd (M := 8192) (N := 64) 524288 (by decide) (show -8192 ≤ pty S j - ly ∧ pty S j - ly ≤ 8192 by have := HBS.out; have := HBB.out j hj; omega) (show -64 ≤ dn ∧ dn ≤ 64 by have := HDN.out; omega)
    exact ⟨⟨by omega, by omega⟩, ⟨by omega, by omega⟩⟩
   case hf =>
    intro j hj w1 g
    rw [(HUV.out j).1, (HUV.out j).2]
    exact lay1_any _ _ lx ly dn s2 _ w1 (HBB.out j hj).1 (HBB.out j hj).2 HBS.out.1 HBS.out.2.1 HDN.out (HQL.out.gr g) ((HB2.out.gr HVQ.out).gr g)
   rintro e w4 ⟨gu, capu, rfl, hgu, hcu, hru, hg4⟩
   have eU : tnd (uvX S dn) (uvY S dn) k = layU S dn := by unfold layU; rw [HSL.out]
   rw [eU] at hru
   have HAP := Lib.hid (fapart_any (some ⟨gu, 0, none⟩) k capu (layU S dn) w4 hru hcu (by omega))
   have HRU := Lib.hid hru; have HG4 := Lib.hid hg4; have HCU := Lib.hid hcu
   clear eU hru hg4 hcu f0 f1 q0 q1 lq lh3 p0 p1 p2 p3 g0 g1 y0 y1 y2 y3 lz mx d3 hQ
   have hgw : w.heap.size ≤ gu := by have := (HG.out.trans HVQ.out).size; omega
   cases hap : aptB (layU S dn) with
   | false =>
    rw [hap] at HAP
    have HNO := Lib.hid (show layB d ⟨ax, sd, some ⟨bt, ot, none⟩, cc, tris⟩ dn = false from by rw [HLB.out, hap]; simp)
    clear hap
    go_wp2_with fail
    refine HAP.out.mono ?_
    rintro e w5 ⟨rfl, hg5⟩
    have HV5 := Lib.hid (HVQ.out.trans (HG4.out.trans hg5))
    have HZ5 := Lib.hid (HB3.out.gr HV5.out)
    have z3 := HZ5.out.blk
    have p0 := z3.cell 0 rfl; have p1 := z3.cell 1 rfl; have p2 := z3.cell 2 rfl; have p3 := z3.cell 3 rfl; have y0 := z3.free 0 rfl; have y1 := z3.free 1 rfl; have y2 := z3.free 2 rfl; have y3 := z3.free 3 rfl; have lz := HZ5.out.lt
    clear z3 hg5 HAP
    go_wp2_with fail
    refine bodyPost_ret (res_agg_tmp (vs := [.slice none 0 0, .slice none 0 0, .int .i64 0, .int .i64 0]) rfl ti_patch rfl (bx_seti (bx_seti (bx_seti (bx_seti HZ5.out 0 _) 1 _) 2 _) 3 _) rfl) rfl (LayP.no HNO.out 1 rfl (by omega) ?_)
    exact ((((HG.out.trans HV5.out).setCell (by show w.heap.size ≤ w.heap.size + 1 + 1 + 1; omega) _).setCell (by show w.heap.size ≤ w.heap.size + 1 + 1 + 1; omega) _).setCell (by show w.heap.size ≤ w.heap.size + 1 + 1 + 1; omega) _).setCell (by show w.heap.size ≤ w.heap.size + 1 + 1 + 1; omega) _
   | true =>
    rw [hap] at HAP
    have HYES := Lib.hid (show layB d ⟨ax, sd, some ⟨bt, ot, none⟩, cc, tris⟩ dn = true from by
     rw [HLB.out, hap, HLX.out, HLY.out]
     have := HM.out; have := HDN.out
     simp; omega)
    clear hap
    go_wp2_with fail
    refine HAP.out.mono ?_
    rintro e w5 ⟨rfl, hg5⟩
    have HQ5 := Lib.hid (HG4.out.trans hg5)
    have HR5 := Lib.hid (HRU.out.later hg5)
    have q := HQH.out.gr HQ5.out
    have q0 := q.blk.cell 0 rfl; have q1 := q.blk.cell 1 rfl; have lq := q.lt
    clear q hg5 HAP HRU HG4
    go_wp2_with fail
    refine (size_any X Y n1 (by have := HM.out; omega) n2 (by have := HM.out; omega) w5).mono ?_
    rintro e w6 ⟨rfl, hg6⟩
    have HV6 := Lib.hid ((HVQ.out.trans HQ5.out).trans hg6)
    have HR6 := Lib.hid (HR5.out.later hg6)
    have b1 := HB1.out.gr HV6.out
    have c2 := b1.blk.cell 2 rfl; have l1 := b1.lt
    clear hg6 q0 q1 lq b1 HR5 HQ5
    have x16 : -524288 ≤ X / 16 + 1 ∧ X / 16 + 1 ≤ 524288 := by omega
    have y16 : -524288 ≤ Y / 16 + 1 ∧ Y / 16 + 1 ≤ 524288 := by omega
    go_wp2_with fail
    refine (clone_any bt ot k cc tris w6 (HR.out.later (HG.out.trans HV6.out)) hn (by omega)).mono ?_
    rintro e w7 ⟨gc, capc, rfl, hgc, hcc, hrc, hg7⟩
    have HV7 := Lib.hid (HV6.out.trans hg7)
    have HRC := Lib.hid hrc; have HR7 := Lib.hid (HR6.out.later hg7); have HCC := Lib.hid hcc
    have HZ7 := Lib.hid (HB3.out.gr HV7.out)
    have z3 := HZ7.out.blk
    have p0 := z3.cell 0 rfl; have p1 := z3.cell 1 rfl; have p2 := z3.cell 2 rfl; have p3 := z3.cell 3 rfl; have y0 := z3.free 0 rfl; have y1 := z3.free 1 rfl; have y2 := z3.free 2 rfl; have y3 := z3.free 3 rfl; have lz := HZ7.out.lt
    have hgc2 : w.heap.size ≤ gc := by have := (HG.out.trans HV6.out).size; omega
    clear z3 hg7 hrc hcc c2 l1
    go_wp2_with fail
    refine bodyPost_ret (res_agg_tmp (vs := [.slice (some ⟨gc, 0, none⟩) k capc, .slice (some ⟨gu, 0, none⟩) k capu, .int .i64 (X / 16 + 1), .int .i64 (Y / 16 + 1)]) rfl ti_patch rfl (bx_seti (bx_seti (bx_seti (bx_seti HZ7.out 0 _) 1 _) 2 _) 3 _) rfl) rfl ?_
    refine ⟨fun _ => ⟨⟨some ⟨gc, 0, none⟩, capc, tris, some ⟨gu, 0, none⟩, capu, layU S dn, X / 16 + 1, Y / 16 + 1⟩, ?e1, rfl, by rw [HS.out], by rw [HS.out, HLX.out], by rw [HS.out, HLY.out], ?e2, fun ad h => (by cases h; exact hgc2), fun ad h => (by cases h; exact hgw), ?e3⟩, fun h => (by rw [HYES.out] at h; cases h)⟩
    case e1 => simp only [PA.vs]; rw [HNN.out, layU_len, HSL.out]; rfl
    case e3 =>
     exact ((((HG.out.trans HV7.out).setCell (by show w.heap.size ≤ w.heap.size + 1 + 1 + 1; omega) _).setCell (by show w.heap.size ≤ w.heap.size + 1 + 1 + 1; omega) _).setCell (by show w.heap.size ≤ w.heap.size + 1 + 1 + 1; omega) _).setCell (by show w.heap.size ≤ w.heap.size + 1 + 1 + 1; omega) _
    case e2 =>
     have hgu2 : w.heap.size + 1 + 1 + 1 < gu := by have := HVQ.out.size; have := HB3.out.lt; omega
     have hgc3 : w.heap.size + 1 + 1 + 1 < gc := by have := HV6.out.size; have := HB3.out.lt; omega
     refine ⟨?_, ?_, ?_, ?_⟩
     ·show IsRow .i64 _ (some ⟨gc, 0, none⟩) tris.length tris
      rw [HNN.out]
      exact row_ks HRC.out (ks_four w7 (w.heap.size + 1 + 1 + 1) _ _ _ _) (fun ad h => by cases h; show ¬ gc = _; omega)
     ·show Oi.IsRows 6 _ (some ⟨gu, 0, none⟩) (layU S dn).length (layU S dn)
      rw [layU_len, HSL.out]
      exact rows_ks HR7.out (ks_four w7 (w.heap.size + 1 + 1 + 1) _ _ _ _) (fun ad h => by cases h; show ¬ gu = _; omega)
     ·show (layU S dn).length ≤ capu
      rw [layU_len, HSL.out]; exact HCU.out
     ·show tris.length ≤ capc
      rw [HNN.out]; exact HCC.out
end Mt
end Go.Proofs.YtlfoglklibhbnaaGreat
namespace Go.Proofs.YtlfoglklibhbnaaGreat
open Go.RowKit
namespace Mt
attribute [local go_sem ↓] Go.wp_at_zero Go.wp_at_succ
set_option maxHeartbeats 4000000 in
set_option maxRecDepth 100000 in
theorem within_any (b : Nat) (x y : Int) (h0 : 1 ≤ x ∧ x ≤ 256) (h1 : 1 ≤ y ∧ y ≤ 256) (w : World) (hb : Blk w b [.int .i64 x, .int .i64 y]) :
  Calls Tryz.prog 77 #[.slice (some ⟨b, 0, none⟩) 2 2] w fun e w' => e = .returned (.bool true) ∧ w = w' := by
 have HB := Lib.hid hb
 clear hb
 go_enter Tryz.func77, Tryz.ntmps77
 go_wp2_with fail
 go_loopw [7] (fun v7 wr => ∃ i : Nat, i ≤ 2 ∧ v7 = .int .i64 i ∧ w = wr) (fun v7 _ => 2 - (intOf v7).toNat)
 case atStart => exact ⟨0, by omega, rfl, rfl⟩
 case round =>
  obtain ⟨i, hi, rfl, hw⟩ := hrel
  subst hw
  by_cases hlt : i < 2
  ·obtain ⟨z, hz, hzb⟩ : ∃ z, w.cell? ⟨b, i, none⟩ = some (.int .i64 z) ∧ 1 ≤ z ∧ z ≤ 256 := by
    have hi2 : i = 0 ∨ i = 1 := by omega
    rcases hi2 with rfl | rfl
    ·exact ⟨x, HB.out.cell 0 rfl, h0⟩
    ·exact ⟨y, HB.out.cell 1 rfl, h1⟩
   have d0 : decide (z < 1) = false := by simp; omega
   have d1 : decide (256 < z) = false := by simp; omega
   have hi0 : (0 : Int) ≤ (i : Int) := by omega
   have lb := HB.out.1
   go_wp2_with fail
   go_roundw
   case rel => exact ⟨i + 1, by omega, by go_num, trivial⟩
   case measure => simp [intOf]; omega
  ·have : i = 2 := by omega
   subst this
   go_wp2_with fail
   go_ret
   exact ⟨rfl, rfl⟩
set_option maxHeartbeats 4000000 in
set_option maxRecDepth 100000 in
theorem podd_any (x y : Int) (h0 : 1 ≤ x ∧ x ≤ 256) (h1 : 1 ≤ y ∧ y ≤ 256) (w : World) :
  Calls Tryz.prog 76 #[.agg #[.int .i64 x, .int .i64 y]] w fun e w' => e = .returned (.bool false) ∧ Gr w w' := by
 have hB : Bx (w.alloc (.cells #[.int .i64 x, .int .i64 y] 38)) w.heap.size 38 [.int .i64 x, .int .i64 y] := Bx.new (vs := [.int .i64 x, .int .i64 y]) rfl
 have c0 := hB.blk.cell 0 rfl; have c1 := hB.blk.cell 1 rfl
 clear hB
 go_enter Tryz.func76, Tryz.ntmps76
 go_wp2_with fail
 refine (within_any _ x y h0 h1 _ (Blk.new (vs := [.int .i64 x, .int .i64 y]) (by simp))).mono ?_
 rintro e w1 ⟨rfl, rfl⟩
 go_wp2_with fail
 go_ret
 exact ⟨rfl, ((Gr.refl w).alloc _).alloc _⟩
set_option maxHeartbeats 4000000 in
set_option maxRecDepth 100000 in
theorem behind_any (a n b : Int) (h0 : 0 ≤ a ∧ a ≤ 65536) (h1 : 1 ≤ n ∧ n ≤ 65536) (h2 : 0 ≤ b ∧ b ≤ 65536) (w : World) :
  Calls Tryz.prog 115 #[.int .i64 a, .int .i64 n, .int .i64 b] w fun e w' => e = .returned (.bool (decide (a + n ≤ b))) ∧ w = w' := by
 by_cases hab : a ≤ b
 ·have d0 : decide (a ≤ b) = true := by simpa using hab
  have e1 : decide (n ≤ b - a) = decide (a + n ≤ b) := by simp only [decide_eq_decide]; omega
  go_enter Tryz.func115, Tryz.ntmps115
  go_wp2_with fail
  go_ret
  exact ⟨rfl, rfl⟩
 ·have d0 : decide (a ≤ b) = false := by simpa using hab
  have e1 : decide (a + n ≤ b) = false := by simp; omega
  rw [e1]
  go_enter Tryz.func115, Tryz.ntmps115
  go_wp2_with fail
  go_ret
  exact ⟨rfl, rfl⟩
set_option maxHeartbeats 4000000 in
set_option maxRecDepth 100000 in
theorem free_any (x n y m : Int) (h0 : 0 ≤ x ∧ x ≤ 65536) (h1 : 1 ≤ n ∧ n ≤ 65536) (h2 : 0 ≤ y ∧ y ≤ 65536) (h3 : 1 ≤ m ∧ m ≤ 65536) (w : World) :
  Calls Tryz.prog 114 #[.int .i64 x, .int .i64 n, .int .i64 y, .int .i64 m] w fun e w' => e = .returned (.bool (decide (x + n ≤ y) || decide (y + m ≤ x))) ∧ w = w' := by
 have H1 := Lib.hid (behind_any x n y h0 h1 h2 w)
 have H2 := Lib.hid (behind_any y m x h2 h3 h0 w)
 have d0 : decide (n ≤ 0) = false := by simp; omega
 have d1 : decide (m ≤ 0) = false := by simp; omega
 clear h0 h1 h2 h3
 generalize decide (x + n ≤ y) = p at *
 generalize decide (y + m ≤ x) = q at *
 cases p with
 | true =>
  go_enter Tryz.func114, Tryz.ntmps114
  go_wp2_with fail
  refine H1.out.mono ?_
  rintro e w1 ⟨rfl, rfl⟩
  go_wp2_with fail
  go_ret
  exact ⟨rfl, rfl⟩
 | false =>
  go_enter Tryz.func114, Tryz.ntmps114
  go_wp2_with fail
  refine H1.out.mono ?_
  rintro e w1 ⟨rfl, rfl⟩
  go_wp2_with fail
  refine H2.out.mono ?_
  rintro e w1 ⟨rfl, rfl⟩
  go_wp2_with fail
  go_ret
  exact ⟨rfl, rfl⟩
def sepB (a0 a1 a2 a3 b0 b1 b2 b3 : Int) : Bool := (decide (a0 + a2 ≤ b0) || decide (b0 + b2 ≤ a0)) || (decide (a1 + a3 ≤ b1) || decide (b1 + b3 ≤ a1))
def RB (a0 a1 a2 a3 : Int) : Prop := (0 ≤ a0 ∧ a0 ≤ 65536) ∧ (0 ≤ a1 ∧ a1 ≤ 65536) ∧ (1 ≤ a2 ∧ a2 ≤ 65536) ∧ (1 ≤ a3 ∧ a3 ≤ 65536)
set_option maxHeartbeats 4000000 in
set_option maxRecDepth 100000 in
theorem rapart_any (a0 a1 a2 a3 b0 b1 b2 b3 : Int) (ha : RB a0 a1 a2 a3) (hb : RB b0 b1 b2 b3) (w : World) :
  Calls Tryz.prog 91 #[.agg #[.int .i64 a0, .int .i64 a1, .int .i64 a2, .int .i64 a3], .agg #[.int .i64 b0, .int .i64 b1, .int .i64 b2, .int .i64 b3]] w fun e w' => e = .returned (.bool (sepB a0 a1 a2 a3 b0 b1 b2 b3)) ∧ Gr w w' := by
 have hA : Bx (w.alloc (.cells #[.int .i64 a0, .int .i64 a1, .int .i64 a2, .int .i64 a3] 92)) w.heap.size 92 [.int .i64 a0, .int .i64 a1, .int .i64 a2, .int .i64 a3] := Bx.new (vs := [.int .i64 a0, .int .i64 a1, .int .i64 a2, .int .i64 a3]) rfl
 obtain ⟨V, hV⟩ : ∃ V, (w.alloc (.cells #[.int .i64 a0, .int .i64 a1, .int .i64 a2, .int .i64 a3] 92)).alloc (.cells #[.int .i64 b0, .int .i64 b1, .int .i64 b2, .int .i64 b3] 92) = V := ⟨_, rfl⟩
 have hA2 : Bx V w.heap.size 92 [.int .i64 a0, .int .i64 a1, .int .i64 a2, .int .i64 a3] := by rw [← hV]; exact hA.alloc _
 have hB : Bx V (w.heap.size + 1) 92 [.int .i64 b0, .int .i64 b1, .int .i64 b2, .int .i64 b3] := by rw [← hV]; exact Bx.new (vs := [.int .i64 b0, .int .i64 b1, .int .i64 b2, .int .i64 b3]) (by simp)
 have HG := Lib.hid (show Gr w V from by rw [← hV]; exact ((Gr.refl w).alloc _).alloc _)
 have c0 := hA2.blk.cell 0 rfl; have c1 := hA2.blk.cell 1 rfl; have c2 := hA2.blk.cell 2 rfl; have c3 := hA2.blk.cell 3 rfl; have lA := hA2.lt
 have d0 := hB.blk.cell 0 rfl; have d1 := hB.blk.cell 1 rfl; have d2 := hB.blk.cell 2 rfl; have d3 := hB.blk.cell 3 rfl; have lB := hB.lt
 have H1 := Lib.hid (free_any a0 a2 b0 b2 ha.1 ha.2.2.1 hb.1 hb.2.2.1 V)
 have H2 := Lib.hid (free_any a1 a3 b1 b3 ha.2.1 ha.2.2.2 hb.2.1 hb.2.2.2 V)
 unfold sepB
 clear hA hA2 hB ha hb
 generalize (decide (a0 + a2 ≤ b0) || decide (b0 + b2 ≤ a0)) = p at *
 generalize (decide (a1 + a3 ≤ b1) || decide (b1 + b3 ≤ a1)) = q at *
 cases p with
 | true =>
  go_enter Tryz.func91, Tryz.ntmps91
  go_wp2_with fail
  refine H1.out.mono ?_
  rintro e w1 ⟨rfl, rfl⟩
  go_wp2_with fail
  go_ret
  exact ⟨rfl, HG.out⟩
 | false =>
  go_enter Tryz.func91, Tryz.ntmps91
  go_wp2_with fail
  refine H1.out.mono ?_
  rintro e w1 ⟨rfl, rfl⟩
  go_wp2_with fail
  refine H2.out.mono ?_
  rintro e w1 ⟨rfl, rfl⟩
  go_wp2_with fail
  go_ret
  exact ⟨rfl, HG.out⟩
set_option maxHeartbeats 4000000 in
set_option maxRecDepth 100000 in
theorem apt1_any (a0 a1 a2 a3 b0 b1 b2 b3 : Int) (g : Nat) (ha : RB a0 a1 a2 a3) (hb : RB b0 b1 b2 b3) (w : World) (hg : Bx w g 92 [.int .i64 b0, .int .i64 b1, .int .i64 b2, .int .i64 b3]) :
  Calls Tryz.prog 90 #[.agg #[.int .i64 a0, .int .i64 a1, .int .i64 a2, .int .i64 a3], .pointer (some ⟨g, 0, none⟩)] w fun e w' => e = .returned (.bool (!sepB a0 a1 a2 a3 b0 b1 b2 b3)) ∧ Gr w w' := by
 have hA : Bx (w.alloc (.cells #[.int .i64 a0, .int .i64 a1, .int .i64 a2, .int .i64 a3] 92)) w.heap.size 92 [.int .i64 a0, .int .i64 a1, .int .i64 a2, .int .i64 a3] := Bx.new (vs := [.int .i64 a0, .int .i64 a1, .int .i64 a2, .int .i64 a3]) rfl
 have c0 := hA.blk.cell 0 rfl; have c1 := hA.blk.cell 1 rfl; have c2 := hA.blk.cell 2 rfl; have c3 := hA.blk.cell 3 rfl
 have lg := hg.lt
 have d0 := hg.blk.cell 0 rfl; have d1 := hg.blk.cell 1 rfl; have d2 := hg.blk.cell 2 rfl; have d3 := hg.blk.cell 3 rfl
 have H1 := Lib.hid (fun w1 => rapart_any a0 a1 a2 a3 b0 b1 b2 b3 ha hb w1)
 clear hA hg ha hb
 generalize sepB a0 a1 a2 a3 b0 b1 b2 b3 = r at *
 go_enter Tryz.func90, Tryz.ntmps90
 go_wp2_with fail
 refine (H1.out _).mono ?_
 rintro e w1 ⟨rfl, hg⟩
 have HG := Lib.hid (((Gr.refl w).alloc _).trans hg)
 clear hg H1 c0 c1 c2 c3 d0 d1 d2 d3
 go_wp2_with fail
 go_ret
 exact ⟨rfl, HG.out⟩
end Mt
end Go.Proofs.YtlfoglklibhbnaaGreat
namespace Go.Proofs.YtlfoglklibhbnaaGreat
open Go.RowKit
namespace Mt
attribute [local go_sem ↓] Go.wp_at_zero Go.wp_at_succ
def sepL (a b : List Int) : Bool := sepB (a.getD 0 0) (a.getD 1 0) (a.getD 2 0) (a.getD 3 0) (b.getD 0 0) (b.getD 1 0) (b.getD 2 0) (b.getD 3 0)
def inB (W H : Int) (a : List Int) : Prop := 0 ≤ a.getD 0 0 ∧ 0 ≤ a.getD 1 0 ∧ 1 ≤ a.getD 2 0 ∧ 1 ≤ a.getD 3 0 ∧ a.getD 0 0 + a.getD 2 0 ≤ W ∧ a.getD 1 0 + a.getD 3 0 ≤ H
def RGood (W H : Int) (zs : List (List Int)) : Prop := ∀ i, i < zs.length → inB W H (zs.getD i []) ∧ ∀ j, j < i → sepL (zs.getD j []) (zs.getD i []) = true
theorem sepL_comm (a b : List Int) : sepL a b = sepL b a := by
 unfold sepL sepB
 generalize decide (a.getD 0 0 + a.getD 2 0 ≤ b.getD 0 0) = p
 generalize decide (b.getD 0 0 + b.getD 2 0 ≤ a.getD 0 0) = q
 generalize decide (a.getD 1 0 + a.getD 3 0 ≤ b.getD 1 0) = r
 generalize decide (b.getD 1 0 + b.getD 3 0 ≤ a.getD 1 0) = s
 revert p q r s; decide
theorem inB_rb {W H : Int} {x y a b : Int} (h : inB W H [x, y, a, b]) (hW : W ≤ 256) (hH : H ≤ 256) : RB x y a b := by
 unfold inB at h
 simp only [List.getD_cons_zero, List.getD_cons_succ] at h
 exact ⟨by omega, by omega, by omega, by omega⟩
set_option maxHeartbeats 8000000 in
set_option maxRecDepth 100000 in
theorem ris_good (W H : Int) (hW : 1 ≤ W ∧ W ≤ 256) (hH : 1 ≤ H ∧ H ≤ 256) (a : Option Addr) (len cap : Nat) (zs : List (List Int)) (w : World) (hr : Oi.IsRows 4 w a len zs) (hc : len ≤ cap) (hl : len ≤ 1000) (hg : RGood W H zs) :
  Calls Tryz.prog 57 #[.int .i64 W, .int .i64 H, .slice a len cap] w fun e w' => e = .returned (.bool true) ∧ Gr w w' := by
 have hz := hr.1
 have HZ := Lib.hid hz; have HR := Lib.hid hr; have HGD := Lib.hid hg
 clear hz hr hg
 go_enter Tryz.func57, Tryz.ntmps57
 go_wp2_with fail
 go_loopw [11] (fun v11 wr => ∃ i : Nat, i ≤ len ∧ v11 = .int .i64 i ∧ Gr w wr) (fun v11 _ => len - (intOf v11).toNat)
 case atStart => exact ⟨0, Nat.zero_le _, rfl, Gr.refl _⟩
 case round =>
  obtain ⟨i, hi, rfl, hg⟩ := hrel
  have HG := Lib.hid hg
  clear hg
  by_cases hlt : i < len
  ·obtain ⟨b, off, x, y, a', b', rfl, hbl, ez, hI, c0, c1, c2, c3⟩ := rows4_op (HR.out.later HG.out) hlt
   have hgd := HGD.out i (by rw [HZ.out]; exact hlt)
   rw [ez] at hgd
   have hin := hgd.1
   unfold inB at hin
   simp only [List.getD_cons_zero, List.getD_cons_succ] at hin
   have m1 : (if b' < a' then b' else a') = min a' b' := by split <;> omega
   have m2 : (if y < x then y else x) = min x y := by split <;> omega
   have d0 : decide (min a' b' < 1) = false := by simp; omega
   have d1 : decide (min x y < 0) = false := by simp; omega
   have d2 : decide (W < a') = false := by simp; omega
   have d3 : decide (H < b') = false := by simp; omega
   have d4 : decide (W - a' < x) = false := by simp; omega
   have d5 : decide (H - b' < y) = false := by simp; omega
   have hi0 : (0 : Int) ≤ (i : Int) := by omega
   have hic : (i : Int) ≤ (cap : Int) := by omega
   have hic2 : i ≤ cap := by omega
   have HSEP := Lib.hid hgd.2
   have HRB := Lib.hid (inB_rb hgd.1 hW.2 hH.2)
   clear hgd ez hI
   obtain ⟨V, hV⟩ : ∃ V, wr.alloc (.cells #[.int .i64 x, .int .i64 y, .int .i64 a', .int .i64 b'] 92) = V := ⟨_, rfl⟩
   obtain ⟨s, hs⟩ : ∃ s, wr.heap.size = s := ⟨_, rfl⟩
   have hX : Bx V s 92 [.int .i64 x, .int .i64 y, .int .i64 a', .int .i64 b'] := by rw [← hV]; exact Bx.new (vs := [.int .i64 x, .int .i64 y, .int .i64 a', .int .i64 b']) hs.symm
   have hgV : Gr w V := by rw [← hV]; exact HG.out.alloc _
   have HX := Lib.hid hX; have HGV := Lib.hid hgV
   have x0 := hX.blk.cell 0 rfl; have x1 := hX.blk.cell 1 rfl; have x2 := hX.blk.cell 2 rfl; have x3 := hX.blk.cell 3 rfl; have lX := hX.lt
   clear hX hgV
   go_wp2_with fail
   have hcon := con_apt (fun _ b => b = false) (.pointer (some ⟨s, 0, none⟩)) (some ⟨b, off, none⟩) i cap (zs.take i) V ?hrow (by omega) ?hp
   case hrow => exact Ro.rows_take (HR.out.later HGV.out) (by omega)
   case hp =>
    intro j hj w1 g1
    obtain ⟨_, _, u, v, p, q, _, _, ez', _, _⟩ := rows4_op (HR.out.later HGV.out) (show j < len by omega)
    have hgj := HGD.out j (by rw [HZ.out]; omega)
    have hs := HSEP.out j hj
    rw [ez'] at hgj hs
    have hrb := inB_rb hgj.1 hW.2 hH.2
    have e1 : (zs.take i).getD j [] = [u, v, p, q] := by rw [← ez']; simp [List.getD, List.getElem?_take, hj]
    rw [e1]
    have h1 := apt1_any u v p q x y a' b' s hrb HRB.out w1 (HX.out.gr g1)
    have hs' : sepB u v p q x y a' b' = true := hs
    rw [hs'] at h1
    exact h1.mono fun e w' h => ⟨false, h.1, rfl, h.2⟩
   refine hcon.mono ?_
   rintro e w2 ⟨bb, rfl, hbb, hg2⟩
   have hbf : bb = false := by
    rcases hbb with ⟨h, _⟩ | ⟨_, k, _, h, _⟩
    ·exact h
    ·cases h
   subst hbf
   have HG2 := Lib.hid (HGV.out.trans hg2)
   clear hg2 hbb hcon hV hs x0 x1 x2 x3 lX
   go_wp2_with fail
   go_roundw
   case rel => exact ⟨i + 1, by omega, by go_num, HG2.out⟩
   case measure => simp [intOf]; omega
  ·have hil : i = len := by omega
   subst hil
   go_wp2_with fail
   go_ret
   exact ⟨rfl, HG.out⟩
end Mt
end Go.Proofs.YtlfoglklibhbnaaGreat
namespace Go.Proofs.YtlfoglklibhbnaaGreat
open Go.RowKit
namespace Mt
attribute [local go_sem ↓] Go.wp_at_zero Go.wp_at_succ
theorem fold_max (l : List Int) : ∀ a : Int, a ≤ l.foldl max a ∧ (∀ z ∈ l, z ≤ l.foldl max a) ∧ (l.foldl max a = a ∨ l.foldl max a ∈ l) := by
 induction l with
 | nil => intro a; simp
 | cons x l ih =>
  intro a
  obtain ⟨h1, h2, h3⟩ := ih (max a x)
  simp only [List.foldl_cons, List.mem_cons]
  refine ⟨by omega, ?_, ?_⟩
  ·rintro z (rfl | hz)
   ·omega
   ·exact h2 z hz
  ·rcases h3 with h | h
   ·by_cases e : a ≤ x
    ·right; left; rw [h]; omega
    ·left; rw [h]; omega
   ·right; right; exact h
theorem maxOf_mem {l : List Int} (h : l ≠ []) : (∀ z ∈ l, z ≤ Lib.maxOf l) ∧ Lib.maxOf l ∈ l := by
 cases l with
 | nil => exact absurd rfl h
 | cons x l =>
  obtain ⟨h1, h2, h3⟩ := fold_max (x :: l) x
  unfold Lib.maxOf
  simp only [List.headD_cons]
  refine ⟨h2, ?_⟩
  rcases h3 with h | h
  ·rw [h]; simp
  ·exact h
def mxs (zs : List Int) (x n : Nat) : Int := Lib.maxOf ((zs.drop x).take n)
theorem mxs_ge {zs : List Int} {x n i : Nat} (hi : i < n) (hx : x + n ≤ zs.length) : zs.getD (x + i) 0 ≤ mxs zs x n := by
 have hne : (zs.drop x).take n ≠ [] := by
  intro h
  have := congrArg List.length h
  simp at this; omega
 refine (maxOf_mem hne).1 _ ?_
 have : ((zs.drop x).take n)[i]? = some (zs.getD (x + i) 0) := by
  rw [List.getElem?_take_of_lt hi, List.getElem?_drop, List.getD_eq_getElem?_getD, List.getElem?_eq_getElem (by omega)]; rfl
 exact List.mem_of_getElem? this
theorem mxs_bd {zs : List Int} {x n : Nat} {B : Int} (hn : 0 < n) (hx : x + n ≤ zs.length) (hb : ∀ z ∈ zs, 0 ≤ z ∧ z ≤ B) : 0 ≤ mxs zs x n ∧ mxs zs x n ≤ B := by
 have hne : (zs.drop x).take n ≠ [] := by
  intro h
  have := congrArg List.length h
  simp at this; omega
 exact hb _ (List.mem_of_mem_drop (List.mem_of_mem_take (maxOf_mem hne).2))
theorem row_part {w : World} {b off len x n : Nat} {zs : List Int} (h : IsRow .i64 w (some ⟨b, off, none⟩) len zs) (hx : x + n ≤ len) : IsRow .i64 w (some ⟨b, off + x, none⟩) n ((zs.drop x).take n) := by
 obtain ⟨h1, h2, h3, h4⟩ := h
 refine ⟨by simp; omega, by omega, fun z hz => h3 z (List.mem_of_mem_drop (List.mem_of_mem_take hz)), fun h0 => ?_⟩
 obtain ⟨b', off', e, hc⟩ := h4 (by omega)
 cases e
 refine ⟨b, off + x, rfl, fun i hi => ?_⟩
 have := hc (x + i) (by omega)
 rw [show off + x + i = off + (x + i) by omega, this]
 congr 2
 simp [List.getD, List.getElem?_take, List.getElem?_drop, hi]
def FindP (zs : List Int) (n : Nat) (hh most : Int) (k : Nat) (at' low : Int) (fd : Bool) : Prop :=
 (fd = true → ∃ x : Nat, at' = x ∧ x < k ∧ low = mxs zs x n ∧ low + hh ≤ most) ∧ (fd = false → ∀ x : Nat, x < k → ¬ (mxs zs x n + hh ≤ most))
set_option maxHeartbeats 8000000 in
set_option maxRecDepth 100000 in
theorem find_any (b off len cap n : Nat) (hh most : Int) (zs : List Int) (w : World) (hr : IsRow .i64 w (some ⟨b, off, none⟩) len zs) (hc : len ≤ cap) (hl : len ≤ 256) (hb : ∀ z ∈ zs, 0 ≤ z ∧ z ≤ 256) (hn : 1 ≤ n ∧ n ≤ 256) (hh0 : 1 ≤ hh ∧ hh ≤ 256) (hm : 1 ≤ most ∧ most ≤ 256) :
  Calls Tryz.prog 78 #[.slice (some ⟨b, off, none⟩) len cap, .int .i64 n, .int .i64 hh, .int .i64 most] w fun e w' => ∃ at' low fd, e = .returned (.tuple #[.int .i64 at', .int .i64 low, .bool fd]) ∧ FindP zs n hh most (len + 1 - n) at' low fd ∧ w = w' := by
 have hz := hr.1
 have HZ := Lib.hid hz; have HR := Lib.hid hr; have HB := Lib.hid hb
 clear hz hr hb
 obtain ⟨N, hN⟩ : ∃ N, len + 1 - n = N := ⟨_, rfl⟩
 rw [hN]
 have mx : (if (len : Int) - (n : Int) + 1 < 0 then (0 : Int) else (len : Int) - (n : Int) + 1) = (N : Int) := by split <;> omega
 have mx' : max ((len : Int) - (n : Int) + 1) 0 = (N : Int) := by omega
 go_enter Tryz.func78, Tryz.ntmps78
 go_wp2_with fail
 go_loopw [11, 12, 13, 22] (fun v11 v12 v13 v22 wr => ∃ k : Nat, k ≤ N ∧ v22 = .int .i64 k ∧ (∃ at' low fd, v11 = .int .i64 at' ∧ v12 = .int .i64 low ∧ v13 = .bool fd ∧ FindP zs n hh most k at' low fd ∧ 0 ≤ low ∧ low ≤ 256) ∧ w = wr) (fun _ _ _ v22 _ => N - (intOf v22).toNat)
 case atStart => exact ⟨0, Nat.zero_le _, rfl, ⟨0, 0, false, rfl, rfl, rfl, ⟨fun h => (by cases h), fun _ x h => absurd h (by omega)⟩, by omega, by omega⟩, rfl⟩
 case round =>
  obtain ⟨k, hk, rfl, ⟨at', low, fd, rfl, rfl, rfl, hf, l0, l1⟩, hw⟩ := hrel
  subst hw
  have HF := Lib.hid hf
  clear hf
  by_cases hlt : k < N
  ·have hrow := row_part HR.out (show k + n ≤ len by omega)
   have hbd := mxs_bd (x := k) (n := n) hn.1 (by rw [HZ.out]; omega) HB.out
   have HMX := Lib.hid (max_any (some ⟨b, off + k, none⟩) n n _ w hrow hn.1)
   have hE : Lib.maxOf ((zs.drop k).take n) = mxs zs k n := rfl
   rw [hE] at HMX
   have HE := Lib.hid (rfl : mxs zs k n = mxs zs k n)
   obtain ⟨y, hy⟩ : ∃ y, mxs zs k n = y := ⟨_, rfl⟩
   rw [hy] at HMX hbd
   have HY := Lib.hid hy
   clear hrow hE HE hy
   have hk0 : (0 : Int) ≤ (k : Int) := by omega
   have hkn : (k : Int) + (n : Int) ≤ (cap : Int) := by omega
   have hkn2 : k + n ≤ cap := by omega
   have hsub : ((k : Int) + (n : Int) - (k : Int)) = (n : Int) := by omega
   have HBD := Lib.hid hbd
   have h256 : y + hh ≤ 512 := by omega
   go_wp2_with fail
   rw [show k + n - k = n by omega]
   refine HMX.out.mono ?_
   rintro e w1 ⟨rfl, rfl⟩
   have hno : ¬ (y + hh ≤ most) → fd = false → ∀ x : Nat, x < k + 1 → ¬ (mxs zs x n + hh ≤ most) := fun h1 h2 x hx => by
    by_cases e : x = k
    ·subst e; rw [HY.out]; exact h1
    ·exact HF.out.2 h2 x (by omega)
   have hup : fd = true → ∃ x : Nat, at' = x ∧ x < k + 1 ∧ low = mxs zs x n ∧ low + hh ≤ most := fun h => by
    obtain ⟨x, h1, h2, h3, h4⟩ := HF.out.1 h
    exact ⟨x, h1, by omega, h3, h4⟩
   have HNO := Lib.hid hno; have HUP := Lib.hid hup
   clear hno hup
   by_cases hle : y + hh ≤ most
   ·have d0 : decide (y + hh ≤ most) = true := by simpa using hle
    have HLE := Lib.hid hle
    clear hle
    cases fd with
    | false =>
     go_wp2_with fail
     go_roundw
     case rel => exact ⟨k + 1, by omega, by go_num, ⟨k, y, true, rfl, rfl, rfl, ⟨fun _ => ⟨k, rfl, by omega, HY.out.symm, HLE.out⟩, fun h => (by cases h)⟩, HBD.out.1, HBD.out.2⟩, trivial⟩
     case measure => simp [intOf]; omega
    | true =>
     by_cases hlow : y < low
     ·have d1 : decide (y < low) = true := by simpa using hlow
      clear hlow
      go_wp2_with fail
      go_roundw
      case rel => exact ⟨k + 1, by omega, by go_num, ⟨k, y, true, rfl, rfl, rfl, ⟨fun _ => ⟨k, rfl, by omega, HY.out.symm, HLE.out⟩, fun h => (by cases h)⟩, HBD.out.1, HBD.out.2⟩, trivial⟩
      case measure => simp [intOf]; omega
     ·have d1 : decide (y < low) = false := by simpa using hlow
      clear hlow
      go_wp2_with fail
      go_roundw
      case rel => exact ⟨k + 1, by omega, by go_num, ⟨at', low, true, rfl, rfl, rfl, ⟨fun _ => HUP.out trivial, fun h => (by cases h)⟩, l0, l1⟩, trivial⟩
      case measure => simp [intOf]; omega
   ·have d0 : decide (y + hh ≤ most) = false := by simpa using hle
    have HLE := Lib.hid hle
    clear hle
    go_wp2_with fail
    go_roundw
    case rel => exact ⟨k + 1, by omega, by go_num, ⟨at', low, fd, rfl, rfl, rfl, ⟨HUP.out, fun h x hx => by have := HNO.out HLE.out h x hx; omega⟩, l0, l1⟩, trivial⟩
    case measure => simp [intOf]; omega
  ·have hkn : k = N := by omega
   subst hkn
   go_wp2_with fail
   go_ret3
   exact ⟨at', low, fd, rfl, HF.out, rfl⟩
def riseL (zs : List Int) (x : Nat) (up : Int) : Nat → List Int
 | 0 => zs
 | n + 1 => (riseL zs x up n).set (x + n) up
theorem riseL_len (zs : List Int) (x : Nat) (up : Int) : ∀ n, (riseL zs x up n).length = zs.length
 | 0 => rfl
 | n + 1 => by simp [riseL, riseL_len zs x up n]
theorem riseL_at (zs : List Int) (x : Nat) (up : Int) : ∀ n i, x + n ≤ zs.length → (riseL zs x up n).getD i 0 = if x ≤ i ∧ i < x + n then up else zs.getD i 0
 | 0, i, _ => by rw [if_neg (by omega)]; rfl
 | n + 1, i, h => by
  have hl := riseL_len zs x up n
  simp only [riseL, List.getD_eq_getElem?_getD]
  by_cases e : x + n = i
  ·subst e
   rw [List.getElem?_set_self (by omega), if_pos (by omega)]; rfl
  ·rw [List.getElem?_set_ne e]
   have := riseL_at zs x up n i (by omega)
   rw [List.getD_eq_getElem?_getD] at this
   rw [this]
   by_cases h2 : x ≤ i ∧ i < x + n
   ·rw [if_pos h2, if_pos (by omega)]
   ·rw [if_neg h2, if_neg (by omega)]; rw [List.getD_eq_getElem?_getD]
set_option maxHeartbeats 8000000 in
set_option maxRecDepth 100000 in
theorem rise_any (g len cap x n : Nat) (up : Int) (zs : List Int) (w : World) (hb : Bx w g 3 (zs.map (Value.int .i64))) (hl : zs.length = len) (hl2 : len ≤ 256) (hx : x + n ≤ len) :
  Calls Tryz.prog 79 #[.slice (some ⟨g, 0, none⟩) len cap, .int .i64 x, .int .i64 n, .int .i64 up] w fun e w' => e = .returned (.tuple #[]) ∧ Bx w' g 3 ((riseL zs x up n).map (Value.int .i64)) ∧ Ks (fun b => b = g) w w' := by
 have HB := Lib.hid hb; have HL := Lib.hid hl
 clear hb hl
 go_enter Tryz.func79, Tryz.ntmps79
 go_wp2_with fail
 go_loopw [10] (fun v10 wr => ∃ k : Nat, k ≤ n ∧ v10 = .int .i64 k ∧ Bx wr g 3 ((riseL zs x up k).map (Value.int .i64)) ∧ Ks (fun b => b = g) w wr) (fun v10 _ => n - (intOf v10).toNat)
 case atStart => exact ⟨0, Nat.zero_le _, rfl, HB.out, Ks.of_gr (Gr.refl _)⟩
 case round =>
  obtain ⟨k, hk, rfl, hb, hg⟩ := hrel
  have HBK := Lib.hid hb; have HG := Lib.hid hg
  clear hb hg
  by_cases hlt : k < n
  ·have hi : ((riseL zs x up k).map (Value.int .i64))[x + k]? = some (.int .i64 ((riseL zs x up k).getD (x + k) 0)) := by
    rw [List.getElem?_map, List.getD_eq_getElem?_getD, List.getElem?_eq_getElem (by rw [riseL_len, HL.out]; omega)]; rfl
   have c0 := HBK.out.blk.cell (x + k) hi; have f0 := HBK.out.blk.free (x + k) hi; have lg := HBK.out.lt
   have hk0 : (0 : Int) ≤ (k : Int) := by omega
   have hxl : (x : Int) + (k : Int) ≤ 256 := by omega
   clear hi
   go_wp2_with fail
   go_roundw
   case rel =>
    refine ⟨k + 1, by omega, by go_num, ?_, ?_⟩
    ·have := bx_seti HBK.out (x + k) (.int .i64 up)
     rw [← List.map_set] at this
     exact this
    ·exact HG.out.trans (ks_set rfl)
   case measure => simp [intOf]; omega
  ·have hkn : k = n := by omega
   subst hkn
   go_wp2_with fail
   exact bodyPost_end (results_none rfl _ _ _) rfl ⟨rfl, HBK.out, HG.out⟩
end Mt
end Go.Proofs.YtlfoglklibhbnaaGreat
namespace Go.Proofs.YtlfoglklibhbnaaGreat
open Go.RowKit
namespace Mt
attribute [local go_sem ↓] Go.wp_at_zero Go.wp_at_succ
structure PackI (W : Nat) (H : Int) (sz : List (List Int)) (k : Nat) (sky : List Int) (rs : List (List Int)) : Prop where
 wide : sky.length = W
 sm : ∀ z ∈ sky, 0 ≤ z ∧ z ≤ H
 cnt : rs.length = k
 four : ∀ z ∈ rs, z.length = 4
 sizes : ∀ i, i < k → (rs.getD i []).getD 2 0 = (sz.getD i []).getD 0 0 ∧ (rs.getD i []).getD 3 0 = (sz.getD i []).getD 1 0
 good : RGood W H rs
 over : ∀ i, i < k → ∀ c : Nat, (rs.getD i []).getD 0 0 ≤ c → (c : Int) < (rs.getD i []).getD 0 0 + (rs.getD i []).getD 2 0 → (rs.getD i []).getD 1 0 + (rs.getD i []).getD 3 0 ≤ sky.getD c 0
 low : k = 0 → sky = List.replicate W 0
theorem packI_0 (W : Nat) (H : Int) (hH : 0 ≤ H) (sz : List (List Int)) : PackI W H sz 0 (List.replicate W 0) [] :=
 ⟨by simp, fun z hz => by rw [List.eq_of_mem_replicate hz]; omega, rfl, fun z hz => by simp at hz, fun i h => absurd h (by omega), fun i h => absurd h (by simp), fun i h => absurd h (by omega), fun _ => rfl⟩
theorem getD_mem' {zs : List Int} {i : Nat} (h : i < zs.length) : zs.getD i 0 ∈ zs := by
 rw [List.getD_eq_getElem?_getD, List.getElem?_eq_getElem h]; exact List.getElem_mem _
theorem getD_app_l {rs : List (List Int)} {z : List Int} {i : Nat} (h : i < rs.length) : (rs ++ [z]).getD i [] = rs.getD i [] := by
 simp [List.getD, List.getElem?_append_left h]
theorem getD_app_r {rs : List (List Int)} {z : List Int} : (rs ++ [z]).getD rs.length [] = z := by
 simp [List.getD]
theorem packI_step {W n : Nat} {H hh : Int} {sz rs : List (List Int)} {k x : Nat} {sky : List Int} (h : PackI W H sz k sky rs) (hn : 1 ≤ n) (hh0 : 1 ≤ hh) (hx : x < W + 1 - n) (hfit : mxs sky x n + hh ≤ H) (e0 : (sz.getD k []).getD 0 0 = n) (e1 : (sz.getD k []).getD 1 0 = hh) :
  PackI W H sz (k + 1) (riseL sky x (mxs sky x n + hh) n) (rs ++ [[(x : Int), mxs sky x n, n, hh]]) := by
 have hw := h.wide
 have hbd := mxs_bd (x := x) (n := n) (by omega) (by omega) h.sm
 have hge := fun i (hi : i < n) => mxs_ge (zs := sky) (x := x) (n := n) hi (by omega)
 have hat := fun i => riseL_at sky x (mxs sky x n + hh) n i (by omega)
 generalize mxs sky x n = low at *
 refine ⟨by rw [riseL_len]; exact hw, ?_, by simp [h.cnt], ?_, ?_, ?_, ?_, fun h0 => absurd h0 (by omega)⟩
 ·intro z hz
  obtain ⟨i, hi⟩ := List.getElem?_of_mem hz
  have hil : i < (riseL sky x (low + hh) n).length := (List.getElem?_eq_some_iff.1 hi).1
  have := hat i
  rw [List.getD_eq_getElem?_getD, hi] at this
  simp only [Option.getD_some] at this
  rw [riseL_len] at hil
  have hm := h.sm _ (getD_mem' hil)
  rw [this]
  split <;> omega
 ·intro z hz
  rw [List.mem_append] at hz
  rcases hz with hz | hz
  ·exact h.four z hz
  ·simp at hz; subst hz; rfl
 ·intro i hi
  by_cases e : i < k
  ·rw [getD_app_l (by rw [h.cnt]; exact e)]; exact h.sizes i e
  ·have e' : i = rs.length := by rw [h.cnt]; omega
   have hk : i = k := by omega
   rw [e', getD_app_r, h.cnt, e0, e1]
   exact ⟨rfl, rfl⟩
 ·intro i hi
  rw [List.length_append, List.length_singleton, h.cnt] at hi
  by_cases e : i < k
  ·rw [getD_app_l (by rw [h.cnt]; exact e)]
   have hg := h.good i (by rw [h.cnt]; exact e)
   exact ⟨hg.1, fun j hj => by rw [getD_app_l (by rw [h.cnt]; omega)]; exact hg.2 j hj⟩
  ·have hk : i = rs.length := by rw [h.cnt]; omega
   subst hk
   rw [getD_app_r]
   refine ⟨?_, fun j hj => ?_⟩
   ·unfold inB
    simp only [List.getD_cons_zero, List.getD_cons_succ]
    omega
   ·rw [getD_app_l hj]
    have hjk : j < k := by rw [← h.cnt]; exact hj
    have hg := (h.good j hj).1
    have ho := h.over j hjk
    unfold inB at hg
    unfold sepL sepB
    generalize (rs.getD j []).getD 0 0 = a0 at *
    generalize (rs.getD j []).getD 1 0 = a1 at *
    generalize (rs.getD j []).getD 2 0 = a2 at *
    generalize (rs.getD j []).getD 3 0 = a3 at *
    simp only [List.getD_cons_zero, List.getD_cons_succ, Bool.or_eq_true, decide_eq_true_eq]
    apply Classical.byContradiction
    intro hc
    have hc1 : ¬ (a0 + a2 ≤ (x : Int)) := fun h => hc (.inl (.inl h))
    have hc2 : ¬ ((x : Int) + n ≤ a0) := fun h => hc (.inl (.inr h))
    have hc3 : ¬ (a1 + a3 ≤ low) := fun h => hc (.inr (.inl h))
    by_cases hax : a0 ≤ (x : Int)
    ·have := ho x hax (by omega)
     have := hge 0 (by omega)
     rw [Nat.add_zero] at this
     omega
    ·have e1 : ((a0.toNat : Nat) : Int) = a0 := by omega
     have := ho a0.toNat (by omega) (by omega)
     have := hge (a0.toNat - x) (by omega)
     rw [show x + (a0.toNat - x) = a0.toNat by omega] at this
     omega
 ·intro i hi c hc1 hc2
  rw [hat c]
  by_cases e : i < k
  ·rw [getD_app_l (by rw [h.cnt]; exact e)] at hc1 hc2 ⊢
   have ho := h.over i e c hc1 hc2
   split
   ·rename_i hcx
    have := hge (c - x) (by omega)
    rw [show x + (c - x) = c by omega] at this
    omega
   ·exact ho
  ·have hk : i = rs.length := by rw [h.cnt]; omega
   subst hk
   rw [getD_app_r] at hc1 hc2 ⊢
   simp only [List.getD_cons_zero, List.getD_cons_succ] at hc1 hc2 ⊢
   rw [if_pos (by omega)]
   omega
theorem mxs_zero (W n : Nat) (hn : 0 < n) (h : n ≤ W) : mxs (List.replicate W 0) 0 n = 0 := by
 have := mxs_bd (zs := List.replicate W 0) (x := 0) (n := n) (B := 0) hn (by simp; omega) (fun z hz => by rw [List.eq_of_mem_replicate hz]; omega)
 omega
theorem row_bx {w : World} {g n : Nat} {T : TypeId} {zs : List Int} (h : Bx w g T (zs.map (Value.int .i64))) (hl : zs.length = n) (hn : n ≤ 1000) (hI : ∀ z ∈ zs, I z) : IsRow .i64 w (some ⟨g, 0, none⟩) n zs := by
 refine ⟨hl, by omega, fun z hz => wf_of_I (hI z hz), fun _ => ⟨g, 0, rfl, fun i hi => ?_⟩⟩
 rw [Nat.zero_add]
 refine h.blk.cell i ?_
 rw [List.getElem?_map, List.getD_eq_getElem?_getD, List.getElem?_eq_getElem (by omega)]; rfl
def PackP (W H : Nat) (sz : List (List Int)) (len : Nat) (w : World) (e : Ending) (w' : World) : Prop :=
 ∃ v er, e = .returned (.tuple #[v, .int .i64 er]) ∧ Gr w w' ∧ (er = 0 → ∃ a cap rs, v = .slice a len cap ∧ len ≤ cap ∧ Oi.IsRows 4 w' a len rs ∧ RGood W H rs ∧ ∀ i, i < len → (rs.getD i []).getD 2 0 = (sz.getD i []).getD 0 0 ∧ (rs.getD i []).getD 3 0 = (sz.getD i []).getD 1 0) ∧ (len = 1 → (sz.getD 0 []).getD 0 0 ≤ W → (sz.getD 0 []).getD 1 0 ≤ H → er = 0)
end Mt
end Go.Proofs.YtlfoglklibhbnaaGreat
namespace Go.Proofs.YtlfoglklibhbnaaGreat
open Go.RowKit
namespace Mt
attribute [local go_sem ↓] Go.wp_at_zero Go.wp_at_succ
theorem own_bx {w : World} {base : Nat} {e : TypeId} {g n : Nat} {xs : List Value} (h : w.ownsRow base e 1 (.slice (some ⟨g, 0, none⟩) n n) n xs) : Bx w g e xs := by
 rcases h.2 with ⟨hv, _⟩ | ⟨g', cap', cur, hv, hb, hh, hc, hs, ht⟩
 ·cases hv
 ·injection hv with h1 h2 h3
  injection h1 with h1; injection h1 with h1
  subst h1 h3
  have e1 : cur.toList = xs := by
   rw [← ht.2, List.take_of_length_le (by simp; omega)]
  unfold Bx
  rw [hh, ← e1]
theorem infoR : (Tryz.prog.info? 92).map (fun i => (i.zero, i.size, i.bytes)) = some (some (.agg #[.int .i64 0, .int .i64 0, .int .i64 0, .int .i64 0]), 4, 32) := by kernel_rfl
set_option maxHeartbeats 16000000 in
set_option maxRecDepth 100000 in
theorem pack_any (W H : Nat) (a : Option Addr) (len cap : Nat) (sz : List (List Int)) (w : World) (hW : 1 ≤ W ∧ W ≤ 256) (hH : 1 ≤ H ∧ H ≤ 256) (hr : Oi.IsRows 2 w a len sz) (hc : len ≤ cap) (hl : len ≤ 1000) (hs : ∀ i, i < len → (1 ≤ (sz.getD i []).getD 0 0 ∧ (sz.getD i []).getD 0 0 ≤ 256) ∧ (1 ≤ (sz.getD i []).getD 1 0 ∧ (sz.getD i []).getD 1 0 ≤ 256)) :
  Calls Tryz.prog 48 #[.int .i64 W, .int .i64 H, .slice a len cap] w (PackP W H sz len w) := by
 obtain ⟨i0, hi, hz0, hz1, hz2⟩ := info_parts infoInt
 obtain ⟨j0, hj, hy0, hy1, hy2⟩ := info_parts infoR
 have HR := Lib.hid hr; have HS := Lib.hid hs
 clear hr hs
 go_enter Tryz.func48, Tryz.ntmps48
 go_wp2_with fail
 have hwi := within_any w.heap.size W H (by omega) (by omega) (w.alloc (.cells #[.int .i64 W, .int .i64 H] 3)) (Blk.new (vs := [.int .i64 W, .int .i64 H]) rfl)
 refine hwi.mono ?_
 rintro e w1 ⟨rfl, rfl⟩
 clear hwi
 obtain ⟨V, hV⟩ : ∃ V, w.alloc (.cells #[.int .i64 W, .int .i64 H] 3) = V := ⟨_, rfl⟩
 have HG := Lib.hid (show Gr w V from by rw [← hV]; exact (Gr.refl w).alloc _)
 simp only [hV]
 clear hV
 go_wp2_with fail
 have hcon := con_podd (fun _ b => b = false) a len cap sz V (HR.out.later HG.out) (by omega) (fun j hj w1 g1 => by
  obtain ⟨_, _, u, v, _, _, ez', _, _⟩ := rows2_op (HR.out.later HG.out) hj
  have h2 := HS.out j hj
  rw [ez'] at h2 ⊢
  exact (podd_any u v h2.1 h2.2 w1).mono fun e w' h => ⟨false, h.1, rfl, h.2⟩)
 refine hcon.mono ?_
 rintro e w2 ⟨bb, rfl, hbb, hg2⟩
 have hbf : bb = false := by
  rcases hbb with ⟨h, _⟩ | ⟨_, k, _, h, _⟩
  ·exact h
  ·cases h
 subst hbf
 have HG2 := Lib.hid (HG.out.trans hg2)
 clear hg2 hbb hcon
 go_wp2_with (first | (refine wpList_make_full _ rfl (.tmp 26) (.tmp 26) 154 rfl w2.heap.size 3 i0 (.int .i64 0) 1 Tryz.underlying154 hi hz0 hz1 .i64 .i64 _ _ W rfl rfl ?c1 ?c2 ?c3 ?c4 ?c5 ?_))
 case c1 => rfl
 case c2 => rfl
 case c3 => first | omega | (rw [hz2]; omega)
 case c4 => unfold maxLen; omega
 try case c5 => simp
 intro w3 hown hgrow
 have hG : Gr w2 w3 := Below.grown (Gr.refl _) hgrow (Nat.le_refl _) (fun k hk => by simp at hk)
 have hB : Bx w3 w2.heap.size 3 ((List.replicate W (0 : Int)).map (Value.int .i64)) := by
  have := own_bx hown
  rw [toList_madeCells_one] at this
  simpa using this
 have HG3 := Lib.hid hG; have HB3 := Lib.hid hB
 have hlt3 := hB.lt
 clear hown hgrow hG hB
 obtain ⟨g, hgg⟩ : ∃ g, w2.heap.size = g := ⟨_, rfl⟩
 rw [hgg] at HB3 hlt3 ⊢
 have HGG := Lib.hid hgg
 clear hgg
 go_wp2_with fail
 go_loopw [10, 30] (fun v10 v30 wr => ∃ k : Nat, k ≤ len ∧ v30 = .int .i64 k ∧ ∃ sky rs, PackI W H sz k sky rs ∧ wr.ownsRow w3.heap.size 92 4 v10 k (Ro.fl rs) ∧ Bx wr g 3 (sky.map (Value.int .i64)) ∧ Gr w2 wr ∧ w3.heap.size ≤ wr.heap.size) (fun _ v30 _ => len - (intOf v30).toNat)
 case atStart => exact ⟨0, Nat.zero_le _, rfl, _, _, packI_0 W H (by omega) sz, World.ownsRow_nil _ _ _ _, HB3.out, HG3.out, Nat.le_refl _⟩
 case round =>
  clear HB3 HG3
  obtain ⟨k, hk, rfl, sky, rs, hp, hown, hb, hg, hsz⟩ := hrel
  obtain ⟨a10, cap10, rfl⟩ := own_slice hown
  have HP := Lib.hid hp; have HO := Lib.hid hown; have HB := Lib.hid hb; have HGR := Lib.hid hg
  clear hp hown hb hg
  by_cases hlt : k < len
  ·obtain ⟨b, off, u, v, ea, hbl, ez, hI, c0, c1⟩ := rows2_op (HR.out.later (HG2.out.trans HGR.out)) hlt
   subst ea
   have hs1 := HS.out k hlt
   rw [ez] at hs1
   simp only [List.getD_cons_zero, List.getD_cons_succ] at hs1
   obtain ⟨n, hn⟩ : ∃ n : Nat, u = n := ⟨u.toNat, by omega⟩
   subst hn
   have HEZ := Lib.hid ez
   have hk0 : (0 : Int) ≤ (k : Int) := by omega
   obtain ⟨V, hV⟩ : ∃ V, wr.alloc (.cells #[.int .i64 n, .int .i64 v] 38) = V := ⟨_, rfl⟩
   obtain ⟨s, hs⟩ : ∃ s, wr.heap.size = s := ⟨_, rfl⟩
   have hX : Bx V s 38 [.int .i64 n, .int .i64 v] := by rw [← hV]; exact Bx.new (vs := [.int .i64 n, .int .i64 v]) hs.symm
   have hgV : Gr wr V := by rw [← hV]; exact (Gr.refl wr).alloc _
   have hgs : g < s := by have := HB.out.lt; omega
   have hOV := Fa_owns HO.out hgV
   have hBV := HB.out.gr hgV
   have x0 := hX.blk.cell 0 rfl; have x1 := hX.blk.cell 1 rfl; have lX := hX.lt
   have HX := Lib.hid hX; have HGV := Lib.hid (HGR.out.trans hgV); have HOV := Lib.hid hOV; have HBV := Lib.hid hBV
   have hsv : w3.heap.size ≤ V.heap.size := by have := hgV.size; omega
   have hrow := row_bx hBV HP.out.wide (by omega) (fun z hz => by have := HP.out.sm z hz; exact ⟨by omega, by omega⟩)
   have HF := Lib.hid (find_any g 0 W W n v H sky V hrow (Nat.le_refl _) (by omega) (fun z hz => by have := HP.out.sm z hz; omega) (by omega) (by omega) (by omega))
   clear hX hgV hOV hBV hrow ez hI HO HB
   go_wp2_with fail
   clear hV hs
   refine HF.out.mono ?_
   rintro e w4 ⟨at', low, fd, rfl, hfind, rfl⟩
   have HFI := Lib.hid hfind
   clear hfind HF c0 c1
   cases fd with
   | false =>
    go_wp2_with fail
    go_ret2
    refine ⟨_, _, rfl, HG2.out.trans HGV.out, fun h => (by cases h), fun h1 h2 h3 => ?_⟩
    exfalso
    have hk0 : k = 0 := by omega
    subst hk0
    have hsky := HP.out.low rfl
    rw [HEZ.out] at h2 h3
    simp only [List.getD_cons_zero, List.getD_cons_succ] at h2 h3
    have := HFI.out.2 rfl 0 (by omega)
    rw [hsky, mxs_zero W n (by omega) (by omega)] at this
    omega
   | true =>
    obtain ⟨x, ex, hx, el, hle⟩ := HFI.out.1 rfl
    subst ex
    have hlow := mxs_bd (x := x) (n := n) (by omega) (by rw [HP.out.wide]; omega) HP.out.sm
    rw [← el] at hlow
    have hstep := packI_step (hh := v) HP.out (by omega) (by omega) hx (by rw [← el]; exact hle) (by rw [HEZ.out]; rfl) (by rw [HEZ.out]; rfl)
    rw [← el] at hstep
    have HST := Lib.hid hstep
    have hr := rise_any g W W x n (low + v) sky V HBV.out HP.out.wide (by omega) (by omega)
    have HRI := Lib.hid hr
    clear hstep hr el HFI
    go_wp2_with fail
    refine HRI.out.mono ?_
    rintro e w5 ⟨rfl, hb5, hk5⟩
    have hO5 := own_ks2 HOV.out hk5 (fun q hq => by have := (HOV.out.lt q hq).1; show ¬ q = g; omega)
    have hX5 := HX.out.ks hk5 (by show ¬ s = g; omega)
    have hG5 : Gr w2 w5 := Ks.gr hk5 HGV.out (fun q hq => by have := HGG.out; show ¬ q = g; omega)
    have hs5 : w3.heap.size ≤ w5.heap.size := by have := hk5.size; omega
    have x0' := hX5.blk.cell 0 rfl; have x1' := hX5.blk.cell 1 rfl; have lX' := hX5.lt
    have HB5 := Lib.hid hb5; have HO5 := Lib.hid hO5; have HG5 := Lib.hid hG5
    clear hb5 hk5 hO5 hX5 hG5 HRI x0 x1 lX HX HOV HBV
    go_wp2_with (first
     | (at_builtin; go_loud (refine wpList_append_own _ rfl (.tmp 56) (.tmp 64) 30 rfl w3.heap.size 92 j0 (.agg #[.int .i64 0, .int .i64 0, .int .i64 0, .int .i64 0]) 4 32 Tryz.underlying30 hj hy0 hy1 hy2 rfl (by decide) (.slice a10 k cap10) k (Ro.fl rs) (by rfl) (HO5.out.alloc _) ⟨w5.heap.size, 0, none⟩ 1 1 [.int .i64 x, .int .i64 low, .int .i64 n, .int .i64 v] (by rfl) rfl (by simpa using World.news_of_block (World.alloc_heap_new w5 (.cells #[.int .i64 x, .int .i64 low, .int .i64 n, .int .i64 v] 92))) ?d3 ?d4 ?d5 ?d6 ?_)))
    case d3 => intro u hu; simp at hu; rcases hu with rfl | rfl | rfl | rfl <;> rfl
    case d4 => unfold maxLen; omega
    case d5 => omega
    case d6 => simp; omega
    intro v' w6 hown6 hgrow _
    have hB6 : Bx w6 g 3 ((riseL sky x (low + v) n).map (Value.int .i64)) := by
     have h1 := HB5.out.alloc (.cells #[.int .i64 x, .int .i64 low, .int .i64 n, .int .i64 v] 92)
     refine (hgrow.block g h1.lt (fun e => ?_)).trans h1
     have := (HO5.out.alloc (.cells #[.int .i64 x, .int .i64 low, .int .i64 n, .int .i64 v] 92)).lt g e.symm
     omega
    have hG6 : Gr w2 w6 := Below.grown (HG5.out.alloc _) hgrow (HG5.out.alloc _).size (fun q hq => by have := ((HO5.out.alloc (.cells #[.int .i64 x, .int .i64 low, .int .i64 n, .int .i64 v] 92)).lt q hq).1; have := HGG.out; omega)
    have hs6 : w3.heap.size ≤ w6.heap.size := by have := hgrow.size; simp at this; omega
    have HB6 := Lib.hid hB6; have HG6 := Lib.hid hG6; have HO6 := Lib.hid hown6
    clear hB6 hG6 hown6 hgrow x0' x1' lX'
    go_wp2_with fail
    go_roundw
    case rel =>
     refine ⟨k + 1, by omega, by go_num, _, _, HST.out, ?_, HB6.out, HG6.out, hs6⟩
     rw [Ro.fl_append, Ro.fl_one1]
     exact HO6.out
    case measure => simp [intOf]; omega
  ·have hkn : k = len := by omega
   subst hkn
   have hlen := HP.out.cnt
   have hro := HO.out
   have hrows := Ro.rows_owned (m := 4) (zs := rs) (by rw [hlen]; exact hro) (by omega) (fun z hz => by
    obtain ⟨i, hi⟩ := List.getElem?_of_mem hz
    have hil : i < rs.length := (List.getElem?_eq_some_iff.1 hi).1
    have hg := (HP.out.good i hil).1
    have hsi := HS.out i (by omega)
    have hss := HP.out.sizes i (by omega)
    have ez : rs.getD i [] = z := by rw [List.getD_eq_getElem?_getD, hi]; rfl
    rw [ez] at hg hss
    have h4 := HP.out.four z hz
    refine ⟨h4, ?_⟩
    unfold inB at hg
    obtain ⟨x0, l0, rfl, e0⟩ := Sx.cut1 h4
    obtain ⟨x1, l1, rfl, e1⟩ := Sx.cut1 e0
    obtain ⟨x2, l2, rfl, e2⟩ := Sx.cut1 e1
    obtain ⟨x3, l3, rfl, e3⟩ := Sx.cut1 e2
    obtain rfl := Sx.cut0 e3
    simp only [List.getD_cons_zero, List.getD_cons_succ] at hg
    intro y hy
    simp only [List.mem_cons, List.not_mem_nil, or_false] at hy
    rcases hy with rfl | rfl | rfl | rfl <;> exact ⟨by omega, by omega⟩)
   obtain ⟨aa, cc, e, hrw, hcc, _⟩ := hrows
   rw [hlen] at e hrw hcc
   cases e
   have HRW := Lib.hid hrw; have HCC := Lib.hid hcc
   clear hrw hro hcc hlen
   go_wp2_with fail
   go_ret2
   exact ⟨_, _, rfl, HG2.out.trans HGR.out, fun _ => ⟨_, _, rs, rfl, HCC.out, HRW.out, HP.out.good, HP.out.sizes⟩, fun _ _ _ => rfl⟩
end Mt
end Go.Proofs.YtlfoglklibhbnaaGreat
