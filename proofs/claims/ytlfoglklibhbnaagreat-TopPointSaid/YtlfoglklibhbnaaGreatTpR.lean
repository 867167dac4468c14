/- Parts of the proof of TopPoint. No condition of their own. -/
import Derived.Test.YtlfoglklibhbnaaGreatTpQ
import Derived.Deep.RegionHeld3
import Derived.Deep.DrawnRows
import Derived.StillTailTactics
import Derived.Test.YtlfoglklibhbnaaGreatTpK
set_option linter.unusedVariables false
set_option linter.unusedSimpArgs false
namespace Go.Proofs.YtlfoglklibhbnaaGreat
open Go.RowKit
namespace Mt
attribute [local go_sem ↓] Go.wp_at_zero Go.wp_at_succ
def farB (z : List Int) : Bool := decide (4096 < max (max (z.getD 0 0) (z.getD 1 0)) (z.getD 2 0)) || decide (min (min (z.getD 0 0) (z.getD 1 0)) (z.getD 2 0) < -4096)
def tameB (d : MD) : Bool := meshB d && d.V.all (fun z => !farB z)
set_option maxHeartbeats 4000000 in
set_option maxRecDepth 100000 in
theorem far_any (x y z : Int) (w : World) :
  Calls Tryz.prog 82 #[.agg #[.int .i64 x, .int .i64 y, .int .i64 z]] w fun e w' => e = .returned (.bool (farB [x, y, z])) ∧ Gr w w' := by
 have e1 : (if (if x < y then y else x) < z then z else (if x < y then y else x)) = max (max x y) z := by split <;> split at * <;> omega
 have e2 : (if z < (if y < x then y else x) then z else (if y < x then y else x)) = min (min x y) z := by split <;> split at * <;> omega
 have hB : Blk (w.alloc (.cells #[.int .i64 x, .int .i64 y, .int .i64 z] 63)) w.heap.size [.int .i64 x, .int .i64 y, .int .i64 z] := Blk.new rfl
 have c0 := hB.cell 0 rfl; have c1 := hB.cell 1 rfl; have c2 := hB.cell 2 rfl
 have hf : farB [x, y, z] = (decide (4096 < max (max x y) z) || decide (min (min x y) z < -4096)) := rfl
 rw [hf]
 clear hB hf
 generalize max (max x y) z = M at *
 generalize min (min x y) z = N at *
 generalize hA : decide (4096 < M) = A
 generalize hB : decide (N < -4096) = B
 cases A <;> cases B
 all_goals
  go_enter Tryz.func82, Tryz.ntmps82
  go_wp2_with fail
  go_ret
  exact ⟨rfl, (Gr.refl w).alloc _⟩
set_option maxHeartbeats 4000000 in
set_option maxRecDepth 100000 in
theorem tame_any (m : ML) (d : MD) (w : World) (h : IsM w m d) :
  Calls Tryz.prog 50 #[m.val] w fun e w' => e = .returned (.bool (tameB d)) ∧ Gr w w' := by
 obtain ⟨⟨av, lv, cv⟩, ⟨at', lt, ct⟩, ⟨an, ln, cn⟩, ⟨af, lf, cf⟩⟩ := m
 have HM := Lib.hid h
 have hlv : d.V.length = lv := h.v.1
 have hB : Bx (w.alloc (.cells #[.slice av lv cv, .slice at' lt ct, .slice an ln cn, .slice af lf cf] 26)) w.heap.size 26 [.slice av lv cv, .slice at' lt ct, .slice an ln cn, .slice af lf cf] := Bx.new (vs := [.slice av lv cv, .slice at' lt ct, .slice an ln cn, .slice af lf cf]) rfl
 have HB := Lib.hid hB
 have HG := Lib.hid ((Gr.refl w).alloc (.cells #[.slice av lv cv, .slice at' lt ct, .slice an ln cn, .slice af lf cf] 26))
 have c0 := hB.blk.cell 0 rfl; have c1 := hB.blk.cell 1 rfl; have c2 := hB.blk.cell 2 rfl; have c3 := hB.blk.cell 3 rfl
 have HLV := Lib.hid hlv
 have HTM := Lib.hid (show tameB d = (meshB d && d.V.all (fun z => !farB z)) from rfl)
 have HFW := Lib.hid (show meshB d = true → d.V.length ≤ 2000 from fun h => by
  unfold meshB fewB at h
  simp only [Bool.and_eq_true, decide_eq_true_eq] at h
  omega)
 clear hB h hlv
 unfold ML.val SL.v
 go_enter Tryz.func50, Tryz.ntmps50
 go_wp2_with fail
 refine (is_any ⟨⟨av, lv, cv⟩, ⟨at', lt, ct⟩, ⟨an, ln, cn⟩, ⟨af, lf, cf⟩⟩ d _ (HM.out.later HG.out)).mono ?_
 rintro e w1 ⟨rfl, hg1⟩
 have HB1 := Lib.hid (HB.out.gr hg1); have HG1 := Lib.hid (HG.out.trans hg1)
 clear hg1 c0 c1 c2 c3
 have c0 := HB1.out.blk.cell 0 rfl; have lb := HB1.out.lt
 cases hm : meshB d
 ·have HMB := Lib.hid hm
  clear hm
  go_wp2_with fail
  go_ret
  exact ⟨by rw [HTM.out, HMB.out]; rfl, HG1.out⟩
 ·have HMB := Lib.hid hm
  have hle := HFW.out hm
  rw [HLV.out] at hle
  clear hm
  go_wp2_with fail
  refine (con_far (fun z b => b = farB z) av lv cv d.V _ (HM.out.later HG1.out).v (by omega) (fun j hj w1 g1 => ?_)).mono ?_
  ·obtain ⟨b, off, x0, x1, x2, -, -, ez, -, -⟩ := rows3_op HM.out.v hj
   rw [ez]
   exact (far_any x0 x1 x2 w1).mono fun e w' h => ⟨_, h.1, rfl, h.2⟩
  rintro e w2 ⟨b, rfl, hb, hg2⟩
  have HG2 := Lib.hid (HG1.out.trans hg2)
  have hall : d.V.all (fun z => !farB z) = !b := by
   rcases hb with ⟨rfl, h⟩ | ⟨rfl, k, hk, h, -⟩
   ·exact all_of (p := fun z => !farB z) (fun j hj => by rw [HLV.out] at hj; show (!farB (d.V.getD j [])) = true; rw [← h j hj]; rfl)
   ·exact all_at (p := fun z => !farB z) (k := k) (by rw [HLV.out]; exact hk) (by show (!farB (d.V.getD k [])) = false; rw [← h]; rfl)
  have HAL := Lib.hid hall
  clear hg2 hb hall
  cases b
  ·go_wp2_with fail
   go_ret
   exact ⟨by rw [HTM.out, HMB.out, HAL.out]; rfl, HG2.out⟩
  ·go_wp2_with fail
   go_ret
   exact ⟨by rw [HTM.out, HMB.out, HAL.out]; rfl, HG2.out⟩
theorem S4_gr {V x y : World} {b : Nat} {v0 v1 v2 v3 : Value} (h : Gr V x ∧ x.cell? ⟨b, 0, none⟩ = some v0 ∧ x.cell? ⟨b, 1, none⟩ = some v1 ∧ x.cell? ⟨b, 2, none⟩ = some v2 ∧ x.cell? ⟨b, 3, none⟩ = some v3) (g : Gr x y) : Gr V y ∧ y.cell? ⟨b, 0, none⟩ = some v0 ∧ y.cell? ⟨b, 1, none⟩ = some v1 ∧ y.cell? ⟨b, 2, none⟩ = some v2 ∧ y.cell? ⟨b, 3, none⟩ = some v3 :=
 ⟨h.1.trans g, (g.cell (lt_of_cell h.2.1)).trans h.2.1, (g.cell (lt_of_cell h.2.2.1)).trans h.2.2.1, (g.cell (lt_of_cell h.2.2.2.1)).trans h.2.2.2.1, (g.cell (lt_of_cell h.2.2.2.2)).trans h.2.2.2.2⟩
set_option maxHeartbeats 4000000 in
set_option maxRecDepth 100000 in
theorem open_any (m : ML) (d : MD) (w : World) (h : IsM w m d) :
  Calls Tryz.prog 20 #[m.val] w fun e w' => ∃ b, e = .returned (.tuple #[.pointer (some ⟨b, 0, none⟩), .bool (tameB d)]) ∧ Bx w' b 125 m.vs ∧ w.heap.size ≤ b ∧ Gr w w' := by
 obtain ⟨⟨av, lv, cv⟩, ⟨at', lt, ct⟩, ⟨an, ln, cn⟩, ⟨af, lf, cf⟩⟩ := m
 have HM := Lib.hid h
 have hS0 : Gr w (w.alloc (.cells #[.slice av lv cv, .slice at' lt ct, .slice an ln cn, .slice af lf cf] 26)) ∧ (w.alloc (.cells #[.slice av lv cv, .slice at' lt ct, .slice an ln cn, .slice af lf cf] 26)).cell? ⟨w.heap.size, 0, none⟩ = some (.slice av lv cv) ∧ (w.alloc (.cells #[.slice av lv cv, .slice at' lt ct, .slice an ln cn, .slice af lf cf] 26)).cell? ⟨w.heap.size, 1, none⟩ = some (.slice at' lt ct) ∧ (w.alloc (.cells #[.slice av lv cv, .slice at' lt ct, .slice an ln cn, .slice af lf cf] 26)).cell? ⟨w.heap.size, 2, none⟩ = some (.slice an ln cn) ∧ (w.alloc (.cells #[.slice av lv cv, .slice at' lt ct, .slice an ln cn, .slice af lf cf] 26)).cell? ⟨w.heap.size, 3, none⟩ = some (.slice af lf cf) := by
  have hB : Bx (w.alloc (.cells #[.slice av lv cv, .slice at' lt ct, .slice an ln cn, .slice af lf cf] 26)) w.heap.size 26 [.slice av lv cv, .slice at' lt ct, .slice an ln cn, .slice af lf cf] := Bx.new (vs := [.slice av lv cv, .slice at' lt ct, .slice an ln cn, .slice af lf cf]) rfl
  exact ⟨(Gr.refl w).alloc _, hB.blk.cell 0 rfl, hB.blk.cell 1 rfl, hB.blk.cell 2 rfl, hB.blk.cell 3 rfl⟩
 obtain ⟨-, c0, c1, c2, c3⟩ := id hS0
 clear h
 unfold ML.val SL.v
 go_enter Tryz.func20, Tryz.ntmps20
 go_wp2_with fail
 go_region_held3 (fun x => Gr w x ∧ x.cell? ⟨w.heap.size, 0, none⟩ = some (.slice av lv cv) ∧ x.cell? ⟨w.heap.size, 1, none⟩ = some (.slice at' lt ct) ∧ x.cell? ⟨w.heap.size, 2, none⟩ = some (.slice an ln cn) ∧ x.cell? ⟨w.heap.size, 3, none⟩ = some (.slice af lf cf))
  (first | exact S4_gr hS0 (Gr.refl _).drew | exact S4_gr (by assumption) hg | exact S4_gr (by assumption) ((Gr.refl _).alloc _))
  (first | (go_at_call 50; refine (tame_any ⟨⟨av, lv, cv⟩, ⟨at', lt, ct⟩, ⟨an, ln, cn⟩, ⟨af, lf, cf⟩⟩ d _ (HM.out.later (And.left (by assumption)))).mono ?_; rintro e x1 ⟨rfl, hg⟩))
 all_goals
  go_wp2_with fail
  go_ret2
 ·refine ⟨_, rfl, ?_, by omega, by first | exact And.left (by assumption) | assumption⟩
  exact Bx.gr (Bx.new (w := w.alloc (.cells #[.slice av lv cv, .slice at' lt ct, .slice an ln cn, .slice af lf cf] 26)) (T := 125) (vs := [.slice av lv cv, .slice at' lt ct, .slice an ln cn, .slice af lf cf]) (by simp)) ((Gr.refl _).drew.trans hg)
 ·have hgx : Gr w x1 := ((Gr.refl w).alloc _).drew.trans hg
  exact ⟨_, rfl, Bx.new (vs := [.slice av lv cv, .slice at' lt ct, .slice an ln cn, .slice af lf cf]) rfl, hgx.size, hgx.alloc _⟩
def Body (w : World) (b : Nat) (m : ML) : Prop := Bx w b 125 m.vs
set_option maxHeartbeats 4000000 in
set_option maxRecDepth 100000 in
theorem has_any (i : Int) (b : Nat) (m : ML) (d : MD) (w : World) (h : IsM w m d) (hb : Body w b m) :
  Calls Tryz.prog 24 #[.pointer (some ⟨b, 0, none⟩), .int .i64 i] w fun e w' => e = .returned (.bool (decide (0 ≤ i) && decide (i < d.F.length))) ∧ w = w' := by
 obtain ⟨⟨av, lv, cv⟩, ⟨at', lt, ct⟩, ⟨an, ln, cn⟩, ⟨af, lf, cf⟩⟩ := m
 have h4 : d.F.length = lf := h.f.1
 rw [h4]
 have hb' : Bx w b 125 [.slice av lv cv, .slice at' lt ct, .slice an ln cn, .slice af lf cf] := hb
 have c3 := hb'.blk.cell 3 rfl
 have lb := hb'.lt
 clear hb hb' h h4
 generalize hA : decide (0 ≤ i) = A
 generalize hB : decide (i < (lf : Int)) = B
 cases A <;> cases B
 all_goals
  go_enter Tryz.func24, Tryz.ntmps24
  go_wp2_with fail
  go_ret
  exact ⟨rfl, rfl⟩
def ptsN (d : MD) (i : Nat) : List Int :=
 let f := d.F.getD i []
 d.V.getD (f.getD 0 0).toNat [] ++ (d.V.getD (f.getD 3 0).toNat [] ++ d.V.getD (f.getD 6 0).toNat [])
theorem mesh_face {d : MD} (h : meshB d = true) {i : Nat} (hi : i < d.F.length) : ∀ k, k < 3 → 0 ≤ (d.F.getD i []).getD (3 * k) 0 ∧ (d.F.getD i []).getD (3 * k) 0 < d.V.length := by
 unfold meshB at h
 simp only [Bool.and_eq_true] at h
 have hf := h.2.2.2.2
 rw [List.all_eq_true] at hf
 have := hf (d.F.getD i []) (by rw [List.getD_eq_getElem?_getD, List.getElem?_eq_getElem hi]; exact List.getElem_mem _)
 unfold faceB at this
 simp only [Bool.and_eq_true] at this
 obtain ⟨q0, q1, q2⟩ := this
 have key : ∀ k, cornB d (d.F.getD i []) k = true → 0 ≤ (d.F.getD i []).getD (3 * k) 0 ∧ (d.F.getD i []).getD (3 * k) 0 < d.V.length := by
  intro k hc
  unfold cornB at hc
  simp only [Bool.and_eq_true] at hc
  have := hc.1
  unfold amB at this
  simpa using this
 intro k hk
 match k, hk with
 | 0, _ => exact key 0 q0
 | 1, _ => exact key 1 q1
 | 2, _ => exact key 2 q2
end Mt
end Go.Proofs.YtlfoglklibhbnaaGreat
namespace Go.Proofs.YtlfoglklibhbnaaGreat
open Go.RowKit
namespace Mt
attribute [local go_sem ↓] Go.wp_at_zero Go.wp_at_succ
theorem bx_seti {w : World} {b : Nat} {T : TypeId} {vs : List Value} (h : Bx w b T vs) (i : Nat) (v : Value) : Bx (w.setCell ⟨b, i, none⟩ v) b T (vs.set i v) := by
 unfold Bx at *
 unfold World.setCell
 simp [Array.getElem?_modify, h]
theorem bx_drew {w : World} {b : Nat} {T : TypeId} {vs : List Value} (h : Bx w b T vs) : Bx w.drew b T vs := h
theorem bx_far {w : World} {b : Nat} {T : TypeId} {vs : List Value} (h : Bx w b T vs) {p : Addr} (hp : b ≠ p.block) (v : Value) : Bx (w.setCell p v) b T vs := (Below.heap_setCell w p v b hp).trans h
theorem fac_raw (a0 a1 a2 a3 a4 a5 a6 a7 a8 : Int) (w : World) : Calls Tryz.prog 52 #[.agg #[.int .i64 a0, .int .i64 a1, .int .i64 a2], .agg #[.int .i64 a3, .int .i64 a4, .int .i64 a5], .agg #[.int .i64 a6, .int .i64 a7, .int .i64 a8]] w fun e w' => e = .returned (.tuple #[.int .i64 (Sx.fi 14 0 [a0, a1, a2, a3, a4, a5, a6, a7, a8]), .int .i64 (Sx.fi 14 1 [a0, a1, a2, a3, a4, a5, a6, a7, a8]), .int .i64 (Sx.fi 14 2 [a0, a1, a2, a3, a4, a5, a6, a7, a8])]) ∧ Gr w w' :=
 Sx.flat_run (Sx.c_facing w) rfl [a0, a1, a2, a3, a4, a5, a6, a7, a8] rfl trivial
theorem parts_raw (x y z : Int) (w : World) : Calls Tryz.prog 86 #[.agg #[.int .i64 x, .int .i64 y, .int .i64 z]] w fun e w' => e = .returned (.agg #[.int .i64 x, .int .i64 y, .int .i64 z]) ∧ Gr w w' :=
 (Vc.parts_any x y z w).mono fun e w' h => ⟨h.1, by rw [← h.2]; exact ((Gr.refl w).alloc _).alloc _⟩
def AggT (P : Program) (t : TypeId) (n : Nat) : Prop := ∃ ti : Sx.TI, Sx.TyOk P t ti ∧ ti.agg = true ∧ ti.size = n
theorem res_agg {P : Program} {fn : Func} {q : Tmp} {ty : TypeId} (h : fn.results = #[.cell q ty]) {tmps : Array Value} {w : World} {b : Nat} {T : TypeId} {vs : List Value} {n : Nat} (ht : AggT P ty n)
  (hp : tmps.getD q undef = .pointer (some ⟨b, 0, none⟩)) (hb : Bx w b T vs) (hn : n = vs.length) : (results fn tmps).run P w = .ok (.agg vs.toArray) w := by
 obtain ⟨ti, ht, ha, hs⟩ := ht
 rw [hn] at hs
 have h1 : (loadVar ty ⟨b, 0, none⟩).run P w = .ok (.agg vs.toArray) w := by
  have := Sx.run_loadVar_agg ht ha (off := 0) (vs := vs.toArray) hb (by simp [hs])
  rw [this, hs]
  simp
 simp only [results, h]
 have hp2 : tmps[q]?.getD undef = .pointer (some ⟨b, 0, none⟩) := by rw [← hp]; simp
 simp [Sem.run_bind, hp2, asAddr, h1, Result.andThen]
theorem res_agg_tmp {P : Program} {fn : Func} {q r : Tmp} {ty : TypeId} (h : fn.results = #[.cell q ty, .tmp r]) {tmps : Array Value} {w : World} {b : Nat} {T : TypeId} {vs : List Value} {n : Nat} (ht : AggT P ty n)
  (hp : tmps.getD q undef = .pointer (some ⟨b, 0, none⟩)) (hb : Bx w b T vs) (hn : n = vs.length) : (results fn tmps).run P w = .ok (.tuple #[.agg vs.toArray, tmps.getD r undef]) w := by
 obtain ⟨ti, ht, ha, hs⟩ := ht
 rw [hn] at hs
 have h1 : (loadVar ty ⟨b, 0, none⟩).run P w = .ok (.agg vs.toArray) w := by
  have := Sx.run_loadVar_agg ht ha (off := 0) (vs := vs.toArray) hb (by simp [hs])
  rw [this, hs]
  simp
 simp only [results, h]
 have hp2 : tmps[q]?.getD undef = .pointer (some ⟨b, 0, none⟩) := by rw [← hp]; simp
 simp [Sem.run_bind, hp2, asAddr, h1, Result.andThen]
theorem ti_p9 : AggT Tryz.prog 126 9 := ⟨⟨_, 9, [.int .i64 0, .int .i64 0, .int .i64 0, .int .i64 0, .int .i64 0, .int .i64 0, .int .i64 0, .int .i64 0, .int .i64 0]⟩, ⟨Tryz.underlying126, by kernel_rfl⟩, rfl, rfl⟩
theorem ti_p6 : AggT Tryz.prog 39 6 := ⟨⟨_, 6, [.int .i64 0, .int .i64 0, .int .i64 0, .int .i64 0, .int .i64 0, .int .i64 0]⟩, ⟨Tryz.underlying39, by kernel_rfl⟩, rfl, rfl⟩
theorem ti_w : AggT Tryz.prog 79 2 := ⟨⟨_, 2, [.int .i64 0, .int .i64 0]⟩, ⟨Tryz.underlying79, by kernel_rfl⟩, rfl, rfl⟩
set_option maxRecDepth 100000 in
theorem drop_any (k : Nat) (hk : k < 3) (x y z : Int) (w : World) :
  Calls Tryz.prog 53 #[.agg #[.int .i64 x, .int .i64 y, .int .i64 z], .int .i64 k] w fun e w' => e = .returned (.tuple #[.agg #[.int .i64 ([x, y, z].getD ((k + 1) % 3) 0), .int .i64 ([x, y, z].getD ((k + 2) % 3) 0)], .int .i64 0]) ∧ Gr w w' := by
 have hk3 : k = 0 ∨ k = 1 ∨ k = 2 := by omega
 have hB : Blk (w.alloc (.cells #[.int .i64 x, .int .i64 y, .int .i64 z] 63)) w.heap.size [.int .i64 x, .int .i64 y, .int .i64 z] := Blk.new rfl
 have hB1 := hB.alloc (o := .cells #[.int .i64 0, .int .i64 0] 38)
 have c0 := hB1.cell 0 rfl; have c1 := hB1.cell 1 rfl; have c2 := hB1.cell 2 rfl
 have hG : Gr w ((w.alloc (.cells #[.int .i64 x, .int .i64 y, .int .i64 z] 63)).alloc (.cells #[.int .i64 0, .int .i64 0] 38)) := ((Gr.refl w).alloc _).alloc _
 have hN : Bx ((w.alloc (.cells #[.int .i64 x, .int .i64 y, .int .i64 z] 63)).alloc (.cells #[.int .i64 0, .int .i64 0] 38)) (w.heap.size + 1) 38 [.int .i64 0, .int .i64 0] := Bx.new (vs := [.int .i64 0, .int .i64 0]) (by simp)
 have HG := Lib.hid hG; have HN := Lib.hid hN
 clear hB hB1 hG hN
 rcases hk3 with rfl | rfl | rfl
 ·simp only [Int.natCast_zero, Int.natCast_one, Int.ofNat_zero, Int.cast_ofNat_Int]
  go_enter Tryz.func53, Tryz.ntmps53
  go_wp2_with fail
  refine (parts_raw x y z _).mono ?_
  rintro e w1 ⟨rfl, hg⟩
  have HG1 := Lib.hid (HG.out.trans hg); have HN1 := Lib.hid (HN.out.gr hg)
  clear hg c0 c1 c2
  have hlt := HN1.out.lt
  obtain ⟨V, hV⟩ : ∃ V, w1.alloc (.cells #[.int .i64 x, .int .i64 y, .int .i64 z] 162) = V := ⟨_, rfl⟩
  have hP : Blk V w1.heap.size [.int .i64 x, .int .i64 y, .int .i64 z] := by rw [← hV]; exact Blk.new rfl
  have hN2 := HN1.out.alloc (.cells #[.int .i64 x, .int .i64 y, .int .i64 z] 162)
  rw [hV] at hN2
  have HG2 := Lib.hid (show Gr w V by rw [← hV]; exact HG1.out.alloc _)
  have HP := Lib.hid hP; have HN2 := Lib.hid hN2
  clear hP hN2
  have p0 := HP.out.cell 0 rfl; have p1 := HP.out.cell 1 rfl; have p2 := HP.out.cell 2 rfl
  have n0 := HN2.out.blk.cell 0 rfl; have n1 := HN2.out.blk.cell 1 rfl; have fn0 := HN2.out.blk.free 0 rfl; have fn1 := HN2.out.blk.free 1 rfl
  have ln := HN2.out.lt
  go_wp2_with fail
  go_region
  go_wp2_with fail
  have hR := (bx_seti (bx_seti HN2.out 0 (.int .i64 y)) 1 (.int .i64 z)).blk
  have r0 := hR.cell 0 rfl; have r1 := hR.cell 1 rfl
  refine bodyPost_ret (v := .tuple #[.agg #[.int .i64 y, .int .i64 z], .int .i64 0]) (by simp [results, Tryz.results53, go_sem, r0, r1]) rfl ⟨rfl, ?_⟩
  exact ((HG2.out.setCell (by simp) _).setCell (by simp) _).drew
 ·simp only [Int.natCast_zero, Int.natCast_one, Int.ofNat_zero, Int.cast_ofNat_Int]
  go_enter Tryz.func53, Tryz.ntmps53
  go_wp2_with fail
  refine (parts_raw x y z _).mono ?_
  rintro e w1 ⟨rfl, hg⟩
  have HG1 := Lib.hid (HG.out.trans hg); have HN1 := Lib.hid (HN.out.gr hg)
  clear hg c0 c1 c2
  have hlt := HN1.out.lt
  obtain ⟨V, hV⟩ : ∃ V, w1.alloc (.cells #[.int .i64 x, .int .i64 y, .int .i64 z] 162) = V := ⟨_, rfl⟩
  have hP : Blk V w1.heap.size [.int .i64 x, .int .i64 y, .int .i64 z] := by rw [← hV]; exact Blk.new rfl
  have hN2 := HN1.out.alloc (.cells #[.int .i64 x, .int .i64 y, .int .i64 z] 162)
  rw [hV] at hN2
  have HG2 := Lib.hid (show Gr w V by rw [← hV]; exact HG1.out.alloc _)
  have HP := Lib.hid hP; have HN2 := Lib.hid hN2
  clear hP hN2
  have p0 := HP.out.cell 0 rfl; have p1 := HP.out.cell 1 rfl; have p2 := HP.out.cell 2 rfl
  have n0 := HN2.out.blk.cell 0 rfl; have n1 := HN2.out.blk.cell 1 rfl; have fn0 := HN2.out.blk.free 0 rfl; have fn1 := HN2.out.blk.free 1 rfl
  have ln := HN2.out.lt
  go_wp2_with fail
  go_region
  go_wp2_with fail
  have hR := (bx_seti (bx_seti HN2.out 0 (.int .i64 z)) 1 (.int .i64 x)).blk
  have r0 := hR.cell 0 rfl; have r1 := hR.cell 1 rfl
  refine bodyPost_ret (v := .tuple #[.agg #[.int .i64 z, .int .i64 x], .int .i64 0]) (by simp [results, Tryz.results53, go_sem, r0, r1]) rfl ⟨rfl, ?_⟩
  exact ((HG2.out.setCell (by simp) _).setCell (by simp) _).drew
 ·simp only [Int.natCast_zero, Int.natCast_one, Int.ofNat_zero, Int.cast_ofNat_Int]
  go_enter Tryz.func53, Tryz.ntmps53
  go_wp2_with fail
  refine (parts_raw x y z _).mono ?_
  rintro e w1 ⟨rfl, hg⟩
  have HG1 := Lib.hid (HG.out.trans hg); have HN1 := Lib.hid (HN.out.gr hg)
  clear hg c0 c1 c2
  have hlt := HN1.out.lt
  obtain ⟨V, hV⟩ : ∃ V, w1.alloc (.cells #[.int .i64 x, .int .i64 y, .int .i64 z] 162) = V := ⟨_, rfl⟩
  have hP : Blk V w1.heap.size [.int .i64 x, .int .i64 y, .int .i64 z] := by rw [← hV]; exact Blk.new rfl
  have hN2 := HN1.out.alloc (.cells #[.int .i64 x, .int .i64 y, .int .i64 z] 162)
  rw [hV] at hN2
  have HG2 := Lib.hid (show Gr w V by rw [← hV]; exact HG1.out.alloc _)
  have HP := Lib.hid hP; have HN2 := Lib.hid hN2
  clear hP hN2
  have p0 := HP.out.cell 0 rfl; have p1 := HP.out.cell 1 rfl; have p2 := HP.out.cell 2 rfl
  have n0 := HN2.out.blk.cell 0 rfl; have n1 := HN2.out.blk.cell 1 rfl; have fn0 := HN2.out.blk.free 0 rfl; have fn1 := HN2.out.blk.free 1 rfl
  have ln := HN2.out.lt
  go_wp2_with fail
  go_region
  go_wp2_with fail
  have hR := (bx_seti (bx_seti HN2.out 0 (.int .i64 x)) 1 (.int .i64 y)).blk
  have r0 := hR.cell 0 rfl; have r1 := hR.cell 1 rfl
  refine bodyPost_ret (v := .tuple #[.agg #[.int .i64 x, .int .i64 y], .int .i64 0]) (by simp [results, Tryz.results53, go_sem, r0, r1]) rfl ⟨rfl, ?_⟩
  exact ((HG2.out.setCell (by simp) _).setCell (by simp) _).drew
def preP (l : List Int) (k : Nat) : List Value := (l.take (3 * k) ++ List.replicate (9 - 3 * k) 0).map (Value.int .i64)
theorem ptsN_len {d : MD} (h : meshB d = true) (hv : ∀ z ∈ d.V, z.length = 3) {i : Nat} (hi : i < d.F.length) : ∃ x0 y0 z0 x1 y1 z1 x2 y2 z2 : Int, ptsN d i = [x0, y0, z0, x1, y1, z1, x2, y2, z2] := by
 have hf := mesh_face h hi
 have key : ∀ k, k < 3 → ∃ x y z : Int, d.V.getD ((d.F.getD i []).getD (3 * k) 0).toNat [] = [x, y, z] := by
  intro k hk
  obtain ⟨h1, h2⟩ := hf k hk
  have hl := hv (d.V.getD ((d.F.getD i []).getD (3 * k) 0).toNat []) (by rw [List.getD_eq_getElem?_getD, List.getElem?_eq_getElem (by omega)]; exact List.getElem_mem _)
  obtain ⟨x, l1, e1, g1⟩ := Sx.cut1 hl
  obtain ⟨y, l2, e2, g2⟩ := Sx.cut1 g1
  obtain ⟨z, l3, e3, g3⟩ := Sx.cut1 g2
  have e4 := Sx.cut0 g3
  exact ⟨x, y, z, by rw [e1, e2, e3, e4]⟩
 obtain ⟨x0, y0, z0, e0⟩ := key 0 (by omega)
 obtain ⟨x1, y1, z1, e1⟩ := key 1 (by omega)
 obtain ⟨x2, y2, z2, e2⟩ := key 2 (by omega)
 refine ⟨x0, y0, z0, x1, y1, z1, x2, y2, z2, ?_⟩
 simp only [Nat.mul_zero, Nat.reduceMul] at e0 e1 e2
 unfold ptsN
 simp only [e0, e1, e2, List.cons_append, List.nil_append]
set_option maxHeartbeats 8000000 in
set_option maxRecDepth 100000 in
theorem points_any (i : Nat) (b : Nat) (m : ML) (d : MD) (w : World) (h : IsM w m d) (hm : meshB d = true) (hi : i < d.F.length) (hb : Body w b m) :
  Calls Tryz.prog 51 #[.pointer (some ⟨b, 0, none⟩), .int .i64 i] w fun e w' => e = .returned (agOf (ptsN d i)) ∧ Gr w w' := by
 obtain ⟨⟨av, lv, cv⟩, ⟨at', lt, ct⟩, ⟨an, ln, cn⟩, ⟨af, lf, cf⟩⟩ := m
 have h4 : d.F.length = lf := h.f.1
 have hvl : d.V.length = lv := h.v.1
 have hfc := mesh_face hm hi
 have hb' : Bx w b 125 [.slice av lv cv, .slice at' lt ct, .slice an ln cn, .slice af lf cf] := hb
 have hpt : ptsN d i = d.V.getD ((d.F.getD i []).getD 0 0).toNat [] ++ (d.V.getD ((d.F.getD i []).getD 3 0).toNat [] ++ d.V.getD ((d.F.getD i []).getD 6 0).toNat []) := rfl
 obtain ⟨bf, off, t0, t1, t2, t3, t4, t5, t6, t7, t8, eaf, hbl', ez, hI, f0, f1, f2, f3, f4, f5, f6, f7, f8⟩ := rows9_at h.f (i := i) (show i < lf by omega)
 have hbl : bf < w.heap.size := hbl'
 have eaf' : af = some ⟨bf, off, none⟩ := eaf
 subst eaf'
 rw [ez] at hpt hfc
 have g0 := hfc 0 (by omega); have g1 := hfc 1 (by omega); have g2 := hfc 2 (by omega)
 simp only [Nat.mul_zero, Nat.reduceMul, List.getD_cons_zero, List.getD_cons_succ] at g0 g1 g2 hpt
 rw [hvl] at g0 g1 g2
 obtain ⟨n0, rfl⟩ : ∃ n : Nat, t0 = n := ⟨t0.toNat, by omega⟩
 obtain ⟨n3, rfl⟩ : ∃ n : Nat, t3 = n := ⟨t3.toNat, by omega⟩
 obtain ⟨n6, rfl⟩ : ∃ n : Nat, t6 = n := ⟨t6.toNat, by omega⟩
 simp only [Int.toNat_natCast] at hpt
 obtain ⟨bv, offv, x0, y0, z0, eav, hbv, ez0, hI0, p00, p01, p02⟩ := rows3_op h.v (i := n0) (show n0 < lv by omega)
 have eav' : av = some ⟨bv, offv, none⟩ := eav
 subst eav'
 obtain ⟨bv', offv', x1, y1, z1, eav2, hbv', ez1, hI1, p10, p11, p12⟩ := rows3_op h.v (i := n3) (show n3 < lv by omega)
 obtain ⟨rfl, rfl⟩ : bv = bv' ∧ offv = offv' := by injection eav2 with e; injection e with e1 e2; exact ⟨e1, e2⟩
 obtain ⟨bv', offv', x2, y2, z2, eav3, hbv'', ez2, hI2, p20, p21, p22⟩ := rows3_op h.v (i := n6) (show n6 < lv by omega)
 obtain ⟨rfl, rfl⟩ : bv = bv' ∧ offv = offv' := by injection eav3 with e; injection e with e1 e2; exact ⟨e1, e2⟩
 rw [ez0, ez1, ez2] at hpt
 rw [hpt]
 have k0 : (0 : Int) ≤ (i : Int) := by omega
 have k1 : (0 : Int) ≤ (n0 : Int) := by omega
 have k2 : (0 : Int) ≤ (n3 : Int) := by omega
 have k3 : (0 : Int) ≤ (n6 : Int) := by omega
 have k4 : i < lf := by omega
 have G0 := Lib.hid g0; have G1 := Lib.hid g1; have G2 := Lib.hid g2
 have PV := Lib.hid (And.intro hbv (And.intro (And.intro p00 (And.intro p01 p02)) (And.intro (And.intro p10 (And.intro p11 p12)) (And.intro p20 (And.intro p21 p22)))))
 obtain ⟨V, hV⟩ : ∃ V, w.alloc (.cells #[.int .i64 0, .int .i64 0, .int .i64 0, .int .i64 0, .int .i64 0, .int .i64 0, .int .i64 0, .int .i64 0, .int .i64 0] 126) = V := ⟨_, rfl⟩
 have hG : Gr w V := by rw [← hV]; exact (Gr.refl w).alloc _
 have hN : Bx V w.heap.size 126 [.int .i64 0, .int .i64 0, .int .i64 0, .int .i64 0, .int .i64 0, .int .i64 0, .int .i64 0, .int .i64 0, .int .i64 0] := by rw [← hV]; exact Bx.new (vs := [.int .i64 0, .int .i64 0, .int .i64 0, .int .i64 0, .int .i64 0, .int .i64 0, .int .i64 0, .int .i64 0, .int .i64 0]) rfl
 have q0 := (hG.cell (p := ⟨bf, off + i * 9, none⟩) hbl).trans f0
 have q1 := (hG.cell (p := ⟨bf, off + i * 9 + 1, none⟩) hbl).trans f1
 have q2 := (hG.cell (p := ⟨bf, off + i * 9 + 2, none⟩) hbl).trans f2
 have q3 := (hG.cell (p := ⟨bf, off + i * 9 + 3, none⟩) hbl).trans f3
 have q4 := (hG.cell (p := ⟨bf, off + i * 9 + 4, none⟩) hbl).trans f4
 have q5 := (hG.cell (p := ⟨bf, off + i * 9 + 5, none⟩) hbl).trans f5
 have q6 := (hG.cell (p := ⟨bf, off + i * 9 + 6, none⟩) hbl).trans f6
 have q7 := (hG.cell (p := ⟨bf, off + i * 9 + 7, none⟩) hbl).trans f7
 have q8 := (hG.cell (p := ⟨bf, off + i * 9 + 8, none⟩) hbl).trans f8
 have hBV := hb'.gr hG
 have b3 := hBV.blk.cell 3 rfl
 have hsz : b < w.heap.size := hb'.lt
 have HG := Lib.hid hG; have HN := Lib.hid hN; have HBV := Lib.hid hBV
 clear hpt hfc h hb hb' hG hN hBV g0 g1 g2 ez0 ez1 ez2 p00 p01 p02 p10 p11 p12 p20 p21 p22 hI hI0 hI1 hI2 hbv hbv' hbv'' eav eav2 eav3 eaf f0 f1 f2 f3 f4 f5 f6 f7 f8 h4 hvl hm ez hi hbl'
 go_enter Tryz.func51, Tryz.ntmps51
 go_wp2_with fail
 clear hV q0 q1 q2 q3 q4 q5 q6 q7 q8 b3
 go_loopw [15] (fun v15 wr => ∃ k : Nat, k ≤ 3 ∧ v15 = .int .i64 k ∧ Bx wr w.heap.size 126 (preP [x0, y0, z0, x1, y1, z1, x2, y2, z2] k) ∧ Gr w wr ∧ Bx wr b 125 [.slice (some ⟨bv, offv, none⟩) lv cv, .slice at' lt ct, .slice an ln cn, .slice (some ⟨bf, off, none⟩) lf cf]) (fun v15 _ => 3 - (intOf v15).toNat)
 case atStart => exact ⟨0, Nat.zero_le _, rfl, HN.out, HG.out, HBV.out⟩
 case round =>
  clear HN HG HBV
  obtain ⟨k, hk, rfl, hx, hg, hbd⟩ := hrel
  have hk4 : k = 0 ∨ k = 1 ∨ k = 2 ∨ k = 3 := by omega
  rcases hk4 with rfl | rfl | rfl | rfl
  ·have hx' : Bx wr w.heap.size 126 [.int .i64 0, .int .i64 0, .int .i64 0, .int .i64 0, .int .i64 0, .int .i64 0, .int .i64 0, .int .i64 0, .int .i64 0] := hx
   have hix := fun w => ix_c w n0 t1 t2 n3 t4 t5 n6 t7 t8 0 (by omega)
   simp only [Nat.mul_zero, Nat.mul_one, Nat.reduceMul, Nat.reduceAdd, Nat.zero_add, List.getD_cons_zero, List.getD_cons_succ, Int.natCast_zero, Int.natCast_one, Int.ofNat_zero, Int.cast_ofNat_Int] at hix
   obtain ⟨s, hs⟩ : ∃ s, wr.heap.size = s := ⟨_, rfl⟩
   have hss : w.heap.size < s := by rw [← hs]; exact hx'.lt
   obtain ⟨V2, hV2⟩ : ∃ V2, wr.alloc (.cells #[.int .i64 n0, .int .i64 t1, .int .i64 t2] 65) = V2 := ⟨_, rfl⟩
   have hG2 : Gr w V2 := by rw [← hV2]; exact hg.alloc _
   have hC : Bx V2 s 65 [.int .i64 n0, .int .i64 t1, .int .i64 t2] := by rw [← hV2]; exact Bx.new (vs := [.int .i64 n0, .int .i64 t1, .int .i64 t2]) hs.symm
   have hX2 : Bx V2 w.heap.size 126 [.int .i64 0, .int .i64 0, .int .i64 0, .int .i64 0, .int .i64 0, .int .i64 0, .int .i64 0, .int .i64 0, .int .i64 0] := by rw [← hV2]; exact hx'.alloc _
   have hB2 : Bx V2 b 125 [.slice (some ⟨bv, offv, none⟩) lv cv, .slice at' lt ct, .slice an ln cn, .slice (some ⟨bf, off, none⟩) lf cf] := by rw [← hV2]; exact hbd.alloc _
   have r0 := (hG2.cell (p := ⟨bv, offv + n0 * 3, none⟩) PV.out.1).trans PV.out.2.1.1; have r1 := (hG2.cell (p := ⟨bv, offv + n0 * 3 + 1, none⟩) PV.out.1).trans PV.out.2.1.2.1; have r2 := (hG2.cell (p := ⟨bv, offv + n0 * 3 + 2, none⟩) PV.out.1).trans PV.out.2.1.2.2
   have cc0 := hC.blk.cell 0 rfl
   have cb0 := hB2.blk.cell 0 rfl
   have hlx := hX2.lt
   have lG := G0.out.2
   have fx0 := hX2.blk.free 0 rfl; have fx1 := hX2.blk.free 1 rfl; have fx2 := hX2.blk.free 2 rfl
   have ox0 := hX2.blk.cell 0 rfl; have ox1 := hX2.blk.cell 1 rfl; have ox2 := hX2.blk.cell 2 rfl
   have HX2 := Lib.hid hX2; have HG2 := Lib.hid hG2; have HB2 := Lib.hid hB2
   clear hx hx' hg hbd hC hX2 hB2 hG2
   go_wp2_with fail
   go_region
   go_wp2_with fail
   go_roundw
   case rel => exact ⟨0 + 1, by omega, by go_num, bx_drew (bx_seti (bx_seti (bx_seti HX2.out 0 (.int .i64 x0)) 1 (.int .i64 y0)) 2 (.int .i64 z0)), (((HG2.out.setCell (by simp) _).setCell (by simp) _).setCell (by simp) _).drew, bx_drew (bx_far (bx_far (bx_far HB2.out (by simp; omega) _) (by simp; omega) _) (by simp; omega) _)⟩
   case measure => simp [intOf]
  ·have hx' : Bx wr w.heap.size 126 [.int .i64 x0, .int .i64 y0, .int .i64 z0, .int .i64 0, .int .i64 0, .int .i64 0, .int .i64 0, .int .i64 0, .int .i64 0] := hx
   have hix := fun w => ix_c w n0 t1 t2 n3 t4 t5 n6 t7 t8 1 (by omega)
   simp only [Nat.mul_zero, Nat.mul_one, Nat.reduceMul, Nat.reduceAdd, Nat.zero_add, List.getD_cons_zero, List.getD_cons_succ, Int.natCast_zero, Int.natCast_one, Int.ofNat_zero, Int.cast_ofNat_Int] at hix
   obtain ⟨s, hs⟩ : ∃ s, wr.heap.size = s := ⟨_, rfl⟩
   have hss : w.heap.size < s := by rw [← hs]; exact hx'.lt
   obtain ⟨V2, hV2⟩ : ∃ V2, wr.alloc (.cells #[.int .i64 n3, .int .i64 t4, .int .i64 t5] 65) = V2 := ⟨_, rfl⟩
   have hG2 : Gr w V2 := by rw [← hV2]; exact hg.alloc _
   have hC : Bx V2 s 65 [.int .i64 n3, .int .i64 t4, .int .i64 t5] := by rw [← hV2]; exact Bx.new (vs := [.int .i64 n3, .int .i64 t4, .int .i64 t5]) hs.symm
   have hX2 : Bx V2 w.heap.size 126 [.int .i64 x0, .int .i64 y0, .int .i64 z0, .int .i64 0, .int .i64 0, .int .i64 0, .int .i64 0, .int .i64 0, .int .i64 0] := by rw [← hV2]; exact hx'.alloc _
   have hB2 : Bx V2 b 125 [.slice (some ⟨bv, offv, none⟩) lv cv, .slice at' lt ct, .slice an ln cn, .slice (some ⟨bf, off, none⟩) lf cf] := by rw [← hV2]; exact hbd.alloc _
   have r0 := (hG2.cell (p := ⟨bv, offv + n3 * 3, none⟩) PV.out.1).trans PV.out.2.2.1.1; have r1 := (hG2.cell (p := ⟨bv, offv + n3 * 3 + 1, none⟩) PV.out.1).trans PV.out.2.2.1.2.1; have r2 := (hG2.cell (p := ⟨bv, offv + n3 * 3 + 2, none⟩) PV.out.1).trans PV.out.2.2.1.2.2
   have cc0 := hC.blk.cell 0 rfl
   have cb0 := hB2.blk.cell 0 rfl
   have hlx := hX2.lt
   have lG := G1.out.2
   have fx0 := hX2.blk.free 3 rfl; have fx1 := hX2.blk.free 4 rfl; have fx2 := hX2.blk.free 5 rfl
   have ox0 := hX2.blk.cell 3 rfl; have ox1 := hX2.blk.cell 4 rfl; have ox2 := hX2.blk.cell 5 rfl
   have HX2 := Lib.hid hX2; have HG2 := Lib.hid hG2; have HB2 := Lib.hid hB2
   clear hx hx' hg hbd hC hX2 hB2 hG2
   go_wp2_with fail
   go_region
   go_wp2_with fail
   go_roundw
   case rel => exact ⟨1 + 1, by omega, by go_num, bx_drew (bx_seti (bx_seti (bx_seti HX2.out 3 (.int .i64 x1)) 4 (.int .i64 y1)) 5 (.int .i64 z1)), (((HG2.out.setCell (by simp) _).setCell (by simp) _).setCell (by simp) _).drew, bx_drew (bx_far (bx_far (bx_far HB2.out (by simp; omega) _) (by simp; omega) _) (by simp; omega) _)⟩
   case measure => simp [intOf]
  ·have hx' : Bx wr w.heap.size 126 [.int .i64 x0, .int .i64 y0, .int .i64 z0, .int .i64 x1, .int .i64 y1, .int .i64 z1, .int .i64 0, .int .i64 0, .int .i64 0] := hx
   have hix := fun w => ix_c w n0 t1 t2 n3 t4 t5 n6 t7 t8 2 (by omega)
   simp only [Nat.mul_zero, Nat.mul_one, Nat.reduceMul, Nat.reduceAdd, Nat.zero_add, List.getD_cons_zero, List.getD_cons_succ, Int.natCast_zero, Int.natCast_one, Int.ofNat_zero, Int.cast_ofNat_Int] at hix
   obtain ⟨s, hs⟩ : ∃ s, wr.heap.size = s := ⟨_, rfl⟩
   have hss : w.heap.size < s := by rw [← hs]; exact hx'.lt
   obtain ⟨V2, hV2⟩ : ∃ V2, wr.alloc (.cells #[.int .i64 n6, .int .i64 t7, .int .i64 t8] 65) = V2 := ⟨_, rfl⟩
   have hG2 : Gr w V2 := by rw [← hV2]; exact hg.alloc _
   have hC : Bx V2 s 65 [.int .i64 n6, .int .i64 t7, .int .i64 t8] := by rw [← hV2]; exact Bx.new (vs := [.int .i64 n6, .int .i64 t7, .int .i64 t8]) hs.symm
   have hX2 : Bx V2 w.heap.size 126 [.int .i64 x0, .int .i64 y0, .int .i64 z0, .int .i64 x1, .int .i64 y1, .int .i64 z1, .int .i64 0, .int .i64 0, .int .i64 0] := by rw [← hV2]; exact hx'.alloc _
   have hB2 : Bx V2 b 125 [.slice (some ⟨bv, offv, none⟩) lv cv, .slice at' lt ct, .slice an ln cn, .slice (some ⟨bf, off, none⟩) lf cf] := by rw [← hV2]; exact hbd.alloc _
   have r0 := (hG2.cell (p := ⟨bv, offv + n6 * 3, none⟩) PV.out.1).trans PV.out.2.2.2.1; have r1 := (hG2.cell (p := ⟨bv, offv + n6 * 3 + 1, none⟩) PV.out.1).trans PV.out.2.2.2.2.1; have r2 := (hG2.cell (p := ⟨bv, offv + n6 * 3 + 2, none⟩) PV.out.1).trans PV.out.2.2.2.2.2
   have cc0 := hC.blk.cell 0 rfl
   have cb0 := hB2.blk.cell 0 rfl
   have hlx := hX2.lt
   have lG := G2.out.2
   have fx0 := hX2.blk.free 6 rfl; have fx1 := hX2.blk.free 7 rfl; have fx2 := hX2.blk.free 8 rfl
   have ox0 := hX2.blk.cell 6 rfl; have ox1 := hX2.blk.cell 7 rfl; have ox2 := hX2.blk.cell 8 rfl
   have HX2 := Lib.hid hX2; have HG2 := Lib.hid hG2; have HB2 := Lib.hid hB2
   clear hx hx' hg hbd hC hX2 hB2 hG2
   go_wp2_with fail
   go_region
   go_wp2_with fail
   go_roundw
   case rel => exact ⟨2 + 1, by omega, by go_num, bx_drew (bx_seti (bx_seti (bx_seti HX2.out 6 (.int .i64 x2)) 7 (.int .i64 y2)) 8 (.int .i64 z2)), (((HG2.out.setCell (by simp) _).setCell (by simp) _).setCell (by simp) _).drew, bx_drew (bx_far (bx_far (bx_far HB2.out (by simp; omega) _) (by simp; omega) _) (by simp; omega) _)⟩
   case measure => simp [intOf]
  ·have hx' : Bx wr w.heap.size 126 [.int .i64 x0, .int .i64 y0, .int .i64 z0, .int .i64 x1, .int .i64 y1, .int .i64 z1, .int .i64 x2, .int .i64 y2, .int .i64 z2] := hx
   have o0 := hx'.blk.cell 0 rfl; have o1 := hx'.blk.cell 1 rfl; have o2 := hx'.blk.cell 2 rfl; have o3 := hx'.blk.cell 3 rfl; have o4 := hx'.blk.cell 4 rfl; have o5 := hx'.blk.cell 5 rfl; have o6 := hx'.blk.cell 6 rfl; have o7 := hx'.blk.cell 7 rfl; have o8 := hx'.blk.cell 8 rfl; have u0 := hx'.blk.free 0 rfl; have u1 := hx'.blk.free 1 rfl; have u2 := hx'.blk.free 2 rfl; have u3 := hx'.blk.free 3 rfl; have u4 := hx'.blk.free 4 rfl; have u5 := hx'.blk.free 5 rfl; have u6 := hx'.blk.free 6 rfl; have u7 := hx'.blk.free 7 rfl; have u8 := hx'.blk.free 8 rfl; have hlx := hx'.lt
   have HX := Lib.hid hx'; have HG := Lib.hid hg
   clear hx hx' hg hbd
   go_wp2_with fail
   refine bodyPost_ret (res_agg (vs := [.int .i64 x0, .int .i64 y0, .int .i64 z0, .int .i64 x1, .int .i64 y1, .int .i64 z1, .int .i64 x2, .int .i64 y2, .int .i64 z2]) rfl ti_p9 rfl (bx_seti (bx_seti (bx_seti (bx_seti (bx_seti (bx_seti (bx_seti (bx_seti (bx_seti HX.out 0 (.int .i64 x0)) 1 (.int .i64 y0)) 2 (.int .i64 z0)) 3 (.int .i64 x1)) 4 (.int .i64 y1)) 5 (.int .i64 z1)) 6 (.int .i64 x2)) 7 (.int .i64 y2)) 8 (.int .i64 z2)) rfl) rfl ⟨rfl, ?_⟩
   exact (((((((((HG.out.setCell (by simp) _).setCell (by simp) _).setCell (by simp) _).setCell (by simp) _).setCell (by simp) _).setCell (by simp) _).setCell (by simp) _).setCell (by simp) _).setCell (by simp) _)
end Mt
end Go.Proofs.YtlfoglklibhbnaaGreat
namespace Go.Proofs.YtlfoglklibhbnaaGreat
open Go.RowKit
namespace Mt
attribute [local go_sem ↓] Go.wp_at_zero Go.wp_at_succ
def shN (d : MD) (i ax : Nat) : List Int :=
 let p := ptsN d i
 [p.getD ((ax + 1) % 3) 0, p.getD ((ax + 2) % 3) 0, p.getD (3 + (ax + 1) % 3) 0, p.getD (3 + (ax + 2) % 3) 0, p.getD (6 + (ax + 1) % 3) 0, p.getD (6 + (ax + 2) % 3) 0]
def fcI (k : Nat) (d : MD) (i : Int) : Int := if 0 ≤ i ∧ i < d.F.length then Sx.fi 14 k (ptsN d i.toNat) else (if k = 2 then 1 else 0)
theorem fcI_no {k : Nat} {d : MD} {i : Int} (h : ¬ (0 ≤ i ∧ i < d.F.length)) : fcI k d i = if k = 2 then 1 else 0 := if_neg h
theorem fcI_at {k : Nat} {d : MD} {i : Nat} (h : i < d.F.length) : fcI k d (i : Int) = Sx.fi 14 k (ptsN d i) := by
 unfold fcI; rw [if_pos ⟨by omega, by omega⟩]; simp
def preS (l : List Int) (k : Nat) : List Value := (l.take (2 * k) ++ List.replicate (6 - 2 * k) 0).map (Value.int .i64)
set_option maxHeartbeats 8000000 in
set_option maxRecDepth 100000 in
theorem shadow_any (i ax : Nat) (hax : ax < 3) (b : Nat) (m : ML) (d : MD) (w : World) (h : IsM w m d) (hm : meshB d = true) (hi : i < d.F.length) (hb : Body w b m) :
  Calls Tryz.prog 25 #[.pointer (some ⟨b, 0, none⟩), .int .i64 i, .int .i64 ax] w fun e w' => e = .returned (agOf (shN d i ax)) ∧ Gr w w' := by
 obtain ⟨x0, y0, z0, x1, y1, z1, x2, y2, z2, ep⟩ := ptsN_len hm (fun z hz => (h.v.2.2.1 z hz).1) hi
 have hpt := fun w1 (g : Gr w w1) => points_any i b m d w1 (h.later g) hm hi (Bx.gr hb g)
 obtain ⟨u0, hu0⟩ : ∃ u, [x0, y0, z0].getD ((ax + 1) % 3) 0 = u := ⟨_, rfl⟩
 obtain ⟨v0, hv0⟩ : ∃ u, [x0, y0, z0].getD ((ax + 2) % 3) 0 = u := ⟨_, rfl⟩
 obtain ⟨u1, hu1⟩ : ∃ u, [x1, y1, z1].getD ((ax + 1) % 3) 0 = u := ⟨_, rfl⟩
 obtain ⟨v1, hv1⟩ : ∃ u, [x1, y1, z1].getD ((ax + 2) % 3) 0 = u := ⟨_, rfl⟩
 obtain ⟨u2, hu2⟩ : ∃ u, [x2, y2, z2].getD ((ax + 1) % 3) 0 = u := ⟨_, rfl⟩
 obtain ⟨v2, hv2⟩ : ∃ u, [x2, y2, z2].getD ((ax + 2) % 3) 0 = u := ⟨_, rfl⟩
 have es : shN d i ax = [u0, v0, u1, v1, u2, v2] := by
  unfold shN
  rw [ep]
  have h3 : ax = 0 ∨ ax = 1 ∨ ax = 2 := by omega
  rcases h3 with rfl | rfl | rfl
  all_goals (simp at hu0 hv0 hu1 hv1 hu2 hv2; simp [hu0, hv0, hu1, hv1, hu2, hv2])
 rw [es]
 have d0 := drop_any ax hax x0 y0 z0; have d1 := drop_any ax hax x1 y1 z1; have d2 := drop_any ax hax x2 y2 z2
 rw [hu0, hv0] at d0; rw [hu1, hv1] at d1; rw [hu2, hv2] at d2
 rw [ep] at hpt
 have HP := Lib.hid hpt; have D0 := Lib.hid d0; have D1 := Lib.hid d1; have D2 := Lib.hid d2
 clear hpt d0 d1 d2 hu0 hv0 hu1 hv1 hu2 hv2 es ep h hb hm hi
 have hG : Gr w (w.alloc (.cells #[.int .i64 0, .int .i64 0, .int .i64 0, .int .i64 0, .int .i64 0, .int .i64 0] 39)) := (Gr.refl w).alloc _
 have hN : Bx (w.alloc (.cells #[.int .i64 0, .int .i64 0, .int .i64 0, .int .i64 0, .int .i64 0, .int .i64 0] 39)) w.heap.size 39 [.int .i64 0, .int .i64 0, .int .i64 0, .int .i64 0, .int .i64 0, .int .i64 0] := Bx.new (vs := [.int .i64 0, .int .i64 0, .int .i64 0, .int .i64 0, .int .i64 0, .int .i64 0]) rfl
 have HG := Lib.hid hG; have HN := Lib.hid hN
 clear hG hN
 go_enter Tryz.func25, Tryz.ntmps25
 go_wp2_with fail
 refine (HP.out _ HG.out).mono ?_
 rintro e w1 ⟨rfl, hg⟩
 have HG1 := Lib.hid (HG.out.trans hg); have HN1 := Lib.hid (HN.out.gr hg)
 clear hg
 rw [show agOf [x0, y0, z0, x1, y1, z1, x2, y2, z2] = .agg #[.int .i64 x0, .int .i64 y0, .int .i64 z0, .int .i64 x1, .int .i64 y1, .int .i64 z1, .int .i64 x2, .int .i64 y2, .int .i64 z2] from rfl]
 go_wp2_with fail
 go_loopw [12] (fun v12 wr => ∃ k : Nat, k ≤ 3 ∧ v12 = .int .i64 k ∧ Bx wr w.heap.size 39 (preS [u0, v0, u1, v1, u2, v2] k) ∧ Gr w wr) (fun v12 _ => 3 - (intOf v12).toNat)
 case atStart => exact ⟨0, Nat.zero_le _, rfl, HN1.out, HG1.out⟩
 case round =>
  clear HN HG HN1 HG1
  obtain ⟨k, hk, rfl, hx, hg⟩ := hrel
  have hk4 : k = 0 ∨ k = 1 ∨ k = 2 ∨ k = 3 := by omega
  rcases hk4 with rfl | rfl | rfl | rfl
  ·have hx' : Bx wr w.heap.size 39 [.int .i64 0, .int .i64 0, .int .i64 0, .int .i64 0, .int .i64 0, .int .i64 0] := hx
   have hix := fun w => ix_p w x0 y0 z0 x1 y1 z1 x2 y2 z2 0 (by omega)
   simp only [Nat.mul_zero, Nat.mul_one, Nat.reduceMul, Nat.reduceAdd, Nat.zero_add, List.getD_cons_zero, List.getD_cons_succ, Int.natCast_zero, Int.natCast_one, Int.ofNat_zero, Int.cast_ofNat_Int] at hix
   obtain ⟨s, hs⟩ : ∃ s, wr.heap.size = s := ⟨_, rfl⟩
   have hss : w.heap.size < s := by rw [← hs]; exact hx'.lt
   obtain ⟨V2, hV2⟩ : ∃ V2, wr.alloc (.cells #[.int .i64 x0, .int .i64 y0, .int .i64 z0] 63) = V2 := ⟨_, rfl⟩
   have hG2 : Gr w V2 := by rw [← hV2]; exact hg.alloc _
   have hC : Bx V2 s 63 [.int .i64 x0, .int .i64 y0, .int .i64 z0] := by rw [← hV2]; exact Bx.new (vs := [.int .i64 x0, .int .i64 y0, .int .i64 z0]) hs.symm
   have hX2 : Bx V2 w.heap.size 39 [.int .i64 0, .int .i64 0, .int .i64 0, .int .i64 0, .int .i64 0, .int .i64 0] := by rw [← hV2]; exact hx'.alloc _
   have cc0 := hC.blk.cell 0 rfl; have cc1 := hC.blk.cell 1 rfl; have cc2 := hC.blk.cell 2 rfl
   have hlc := hC.lt
   have HX2 := Lib.hid hX2; have HG2 := Lib.hid hG2
   clear hx hx' hg hC hX2 hG2
   go_wp2_with fail
   refine (D0.out _).mono ?_
   rintro e w3 ⟨rfl, hg⟩
   have hX3 := HX2.out.gr hg
   have HX3 := Lib.hid hX3; have HG3 := Lib.hid (HG2.out.trans hg)
   have hlx := hX3.lt
   have fx0 := hX3.blk.free 0 rfl; have fx1 := hX3.blk.free 1 rfl
   have ox0 := hX3.blk.cell 0 rfl; have ox1 := hX3.blk.cell 1 rfl
   clear hg hX3 cc0 cc1 cc2 hlc hV2 hix
   go_wp2_with fail
   go_roundw
   case rel => exact ⟨0 + 1, by omega, by go_num, bx_seti (bx_seti HX3.out 0 (.int .i64 u0)) 1 (.int .i64 v0), (HG3.out.setCell (by simp) _).setCell (by simp) _⟩
   case measure => simp [intOf]
  ·have hx' : Bx wr w.heap.size 39 [.int .i64 u0, .int .i64 v0, .int .i64 0, .int .i64 0, .int .i64 0, .int .i64 0] := hx
   have hix := fun w => ix_p w x0 y0 z0 x1 y1 z1 x2 y2 z2 1 (by omega)
   simp only [Nat.mul_zero, Nat.mul_one, Nat.reduceMul, Nat.reduceAdd, Nat.zero_add, List.getD_cons_zero, List.getD_cons_succ, Int.natCast_zero, Int.natCast_one, Int.ofNat_zero, Int.cast_ofNat_Int] at hix
   obtain ⟨s, hs⟩ : ∃ s, wr.heap.size = s := ⟨_, rfl⟩
   have hss : w.heap.size < s := by rw [← hs]; exact hx'.lt
   obtain ⟨V2, hV2⟩ : ∃ V2, wr.alloc (.cells #[.int .i64 x1, .int .i64 y1, .int .i64 z1] 63) = V2 := ⟨_, rfl⟩
   have hG2 : Gr w V2 := by rw [← hV2]; exact hg.alloc _
   have hC : Bx V2 s 63 [.int .i64 x1, .int .i64 y1, .int .i64 z1] := by rw [← hV2]; exact Bx.new (vs := [.int .i64 x1, .int .i64 y1, .int .i64 z1]) hs.symm
   have hX2 : Bx V2 w.heap.size 39 [.int .i64 u0, .int .i64 v0, .int .i64 0, .int .i64 0, .int .i64 0, .int .i64 0] := by rw [← hV2]; exact hx'.alloc _
   have cc0 := hC.blk.cell 0 rfl; have cc1 := hC.blk.cell 1 rfl; have cc2 := hC.blk.cell 2 rfl
   have hlc := hC.lt
   have HX2 := Lib.hid hX2; have HG2 := Lib.hid hG2
   clear hx hx' hg hC hX2 hG2
   go_wp2_with fail
   refine (D1.out _).mono ?_
   rintro e w3 ⟨rfl, hg⟩
   have hX3 := HX2.out.gr hg
   have HX3 := Lib.hid hX3; have HG3 := Lib.hid (HG2.out.trans hg)
   have hlx := hX3.lt
   have fx0 := hX3.blk.free 2 rfl; have fx1 := hX3.blk.free 3 rfl
   have ox0 := hX3.blk.cell 2 rfl; have ox1 := hX3.blk.cell 3 rfl
   clear hg hX3 cc0 cc1 cc2 hlc hV2 hix
   go_wp2_with fail
   go_roundw
   case rel => exact ⟨1 + 1, by omega, by go_num, bx_seti (bx_seti HX3.out 2 (.int .i64 u1)) 3 (.int .i64 v1), (HG3.out.setCell (by simp) _).setCell (by simp) _⟩
   case measure => simp [intOf]
  ·have hx' : Bx wr w.heap.size 39 [.int .i64 u0, .int .i64 v0, .int .i64 u1, .int .i64 v1, .int .i64 0, .int .i64 0] := hx
   have hix := fun w => ix_p w x0 y0 z0 x1 y1 z1 x2 y2 z2 2 (by omega)
   simp only [Nat.mul_zero, Nat.mul_one, Nat.reduceMul, Nat.reduceAdd, Nat.zero_add, List.getD_cons_zero, List.getD_cons_succ, Int.natCast_zero, Int.natCast_one, Int.ofNat_zero, Int.cast_ofNat_Int] at hix
   obtain ⟨s, hs⟩ : ∃ s, wr.heap.size = s := ⟨_, rfl⟩
   have hss : w.heap.size < s := by rw [← hs]; exact hx'.lt
   obtain ⟨V2, hV2⟩ : ∃ V2, wr.alloc (.cells #[.int .i64 x2, .int .i64 y2, .int .i64 z2] 63) = V2 := ⟨_, rfl⟩
   have hG2 : Gr w V2 := by rw [← hV2]; exact hg.alloc _
   have hC : Bx V2 s 63 [.int .i64 x2, .int .i64 y2, .int .i64 z2] := by rw [← hV2]; exact Bx.new (vs := [.int .i64 x2, .int .i64 y2, .int .i64 z2]) hs.symm
   have hX2 : Bx V2 w.heap.size 39 [.int .i64 u0, .int .i64 v0, .int .i64 u1, .int .i64 v1, .int .i64 0, .int .i64 0] := by rw [← hV2]; exact hx'.alloc _
   have cc0 := hC.blk.cell 0 rfl; have cc1 := hC.blk.cell 1 rfl; have cc2 := hC.blk.cell 2 rfl
   have hlc := hC.lt
   have HX2 := Lib.hid hX2; have HG2 := Lib.hid hG2
   clear hx hx' hg hC hX2 hG2
   go_wp2_with fail
   refine (D2.out _).mono ?_
   rintro e w3 ⟨rfl, hg⟩
   have hX3 := HX2.out.gr hg
   have HX3 := Lib.hid hX3; have HG3 := Lib.hid (HG2.out.trans hg)
   have hlx := hX3.lt
   have fx0 := hX3.blk.free 4 rfl; have fx1 := hX3.blk.free 5 rfl
   have ox0 := hX3.blk.cell 4 rfl; have ox1 := hX3.blk.cell 5 rfl
   clear hg hX3 cc0 cc1 cc2 hlc hV2 hix
   go_wp2_with fail
   go_roundw
   case rel => exact ⟨2 + 1, by omega, by go_num, bx_seti (bx_seti HX3.out 4 (.int .i64 u2)) 5 (.int .i64 v2), (HG3.out.setCell (by simp) _).setCell (by simp) _⟩
   case measure => simp [intOf]
  ·have hx' : Bx wr w.heap.size 39 [.int .i64 u0, .int .i64 v0, .int .i64 u1, .int .i64 v1, .int .i64 u2, .int .i64 v2] := hx
   have o0 := hx'.blk.cell 0 rfl; have o1 := hx'.blk.cell 1 rfl; have o2 := hx'.blk.cell 2 rfl; have o3 := hx'.blk.cell 3 rfl; have o4 := hx'.blk.cell 4 rfl; have o5 := hx'.blk.cell 5 rfl; have q0 := hx'.blk.free 0 rfl; have q1 := hx'.blk.free 1 rfl; have q2 := hx'.blk.free 2 rfl; have q3 := hx'.blk.free 3 rfl; have q4 := hx'.blk.free 4 rfl; have q5 := hx'.blk.free 5 rfl; have hlx := hx'.lt
   have HX := Lib.hid hx'; have HG := Lib.hid hg
   clear hx hx' hg
   go_wp2_with fail
   refine bodyPost_ret (res_agg (vs := [.int .i64 u0, .int .i64 v0, .int .i64 u1, .int .i64 v1, .int .i64 u2, .int .i64 v2]) rfl ti_p6 rfl (bx_seti (bx_seti (bx_seti (bx_seti (bx_seti (bx_seti HX.out 0 (.int .i64 u0)) 1 (.int .i64 v0)) 2 (.int .i64 u1)) 3 (.int .i64 v1)) 4 (.int .i64 u2)) 5 (.int .i64 v2)) rfl) rfl ⟨rfl, ?_⟩
   exact ((((((HG.out.setCell (by simp) _).setCell (by simp) _).setCell (by simp) _).setCell (by simp) _).setCell (by simp) _).setCell (by simp) _)
set_option maxHeartbeats 8000000 in
set_option maxRecDepth 100000 in
theorem way_any (i : Int) (b : Nat) (m : ML) (d : MD) (w : World) (h : IsM w m d) (hm : meshB d = true) (hb : Body w b m) :
  Calls Tryz.prog 21 #[.pointer (some ⟨b, 0, none⟩), .int .i64 i] w fun e w' => e = .returned (.tuple #[.agg #[.int .i64 (fcI 0 d i), .int .i64 (fcI 1 d i)], .bool (fcI 2 d i == 0)]) ∧ Gr w w' := by
 obtain ⟨V, hV⟩ : ∃ V, w.alloc (.cells #[.int .i64 0, .int .i64 0] 79) = V := ⟨_, rfl⟩
 have hG : Gr w V := by rw [← hV]; exact (Gr.refl w).alloc _
 have hN : Bx V w.heap.size 79 [.int .i64 0, .int .i64 0] := by rw [← hV]; exact Bx.new (vs := [.int .i64 0, .int .i64 0]) rfl
 have hH := has_any i b m d V (h.later hG) (Bx.gr hb hG)
 have HH := Lib.hid hH; have HG := Lib.hid hG; have HN := Lib.hid hN
 have o0 := hN.blk.cell 0 rfl; have o1 := hN.blk.cell 1 rfl; have f0 := hN.blk.free 0 rfl; have f1 := hN.blk.free 1 rfl; have hl := hN.lt
 clear hH hG hN
 by_cases hh : 0 ≤ i ∧ i < d.F.length
 ·obtain ⟨n, rfl⟩ : ∃ n : Nat, i = n := ⟨i.toNat, by omega⟩
  have hi : n < d.F.length := by omega
  obtain ⟨x0, y0, z0, x1, y1, z1, x2, y2, z2, ep⟩ := ptsN_len hm (fun z hz => (h.v.2.2.1 z hz).1) hi
  have hpt := fun w1 (g : Gr w w1) => points_any n b m d w1 (h.later g) hm hi (Bx.gr hb g)
  have d1 : (decide (0 ≤ (n : Int)) && decide ((n : Int) < d.F.length)) = true := by simp; omega
  rw [d1] at HH
  rw [fcI_at hi, fcI_at hi, fcI_at hi, ep]
  rw [ep] at hpt
  have HP := Lib.hid hpt
  clear hpt ep d1 h hm hb hh
  have HF := Lib.hid (fac_raw x0 y0 z0 x1 y1 z1 x2 y2 z2)
  generalize Sx.fi 14 0 [x0, y0, z0, x1, y1, z1, x2, y2, z2] = r0 at *
  generalize Sx.fi 14 1 [x0, y0, z0, x1, y1, z1, x2, y2, z2] = r1 at *
  generalize Sx.fi 14 2 [x0, y0, z0, x1, y1, z1, x2, y2, z2] = r2 at *
  go_enter Tryz.func21, Tryz.ntmps21
  go_wp2_with fail
  refine (HH.out).mono ?_
  rintro e w1 ⟨rfl, rfl⟩
  go_wp2_with fail
  refine (HP.out _ HG.out).mono ?_
  rintro e w1 ⟨rfl, hg⟩
  rw [show agOf [x0, y0, z0, x1, y1, z1, x2, y2, z2] = .agg #[.int .i64 x0, .int .i64 y0, .int .i64 z0, .int .i64 x1, .int .i64 y1, .int .i64 z1, .int .i64 x2, .int .i64 y2, .int .i64 z2] from rfl]
  have HG1 := Lib.hid (HG.out.trans hg); have HN1 := Lib.hid (HN.out.gr hg)
  clear hg o0 o1 f0 f1 hl hV
  have h9 : Bx (w1.alloc (.cells #[.int .i64 x0, .int .i64 y0, .int .i64 z0, .int .i64 x1, .int .i64 y1, .int .i64 z1, .int .i64 x2, .int .i64 y2, .int .i64 z2] 126)) w1.heap.size 126 [.int .i64 x0, .int .i64 y0, .int .i64 z0, .int .i64 x1, .int .i64 y1, .int .i64 z1, .int .i64 x2, .int .i64 y2, .int .i64 z2] := Bx.new (vs := [.int .i64 x0, .int .i64 y0, .int .i64 z0, .int .i64 x1, .int .i64 y1, .int .i64 z1, .int .i64 x2, .int .i64 y2, .int .i64 z2]) rfl
  have p0 := h9.blk.cell 0 rfl; have p1 := h9.blk.cell 1 rfl; have p2 := h9.blk.cell 2 rfl; have p3 := h9.blk.cell 3 rfl; have p4 := h9.blk.cell 4 rfl; have p5 := h9.blk.cell 5 rfl; have p6 := h9.blk.cell 6 rfl; have p7 := h9.blk.cell 7 rfl; have p8 := h9.blk.cell 8 rfl
  go_wp2_with fail
  refine (HF.out _).mono ?_
  rintro e w2 ⟨rfl, hg⟩
  have hN2 := (HN1.out.alloc (.cells #[.int .i64 x0, .int .i64 y0, .int .i64 z0, .int .i64 x1, .int .i64 y1, .int .i64 z1, .int .i64 x2, .int .i64 y2, .int .i64 z2] 126)).gr hg
  have HG2 := Lib.hid ((HG1.out.alloc (.cells #[.int .i64 x0, .int .i64 y0, .int .i64 z0, .int .i64 x1, .int .i64 y1, .int .i64 z1, .int .i64 x2, .int .i64 y2, .int .i64 z2] 126)).trans hg); have HN2 := Lib.hid hN2
  have o0 := hN2.blk.cell 0 rfl; have o1 := hN2.blk.cell 1 rfl; have f0 := hN2.blk.free 0 rfl; have f1 := hN2.blk.free 1 rfl; have hl := hN2.lt
  clear hg hN2 p0 p1 p2 p3 p4 p5 p6 p7 p8 h9 HH HP
  go_wp2_with fail
  refine bodyPost_ret (res_agg_tmp (vs := [.int .i64 r0, .int .i64 r1]) rfl ti_w rfl (bx_seti (bx_seti HN2.out 0 (.int .i64 r0)) 1 (.int .i64 r1)) rfl) rfl ⟨rfl, ?_⟩
  exact (HG2.out.setCell (by simp) _).setCell (by simp) _
 ·have d1 : (decide (0 ≤ i) && decide (i < d.F.length)) = false := by
   rw [← Bool.not_eq_true]; simpa using hh
  rw [d1] at HH
  rw [fcI_no hh, fcI_no hh, fcI_no hh]
  clear d1 hh h hm hb
  go_enter Tryz.func21, Tryz.ntmps21
  go_wp2_with fail
  refine (HH.out).mono ?_
  rintro e w1 ⟨rfl, rfl⟩
  go_wp2_with fail
  refine bodyPost_ret (res_agg_tmp (vs := [.int .i64 0, .int .i64 0]) rfl ti_w rfl (bx_seti (bx_seti HN.out 0 (.int .i64 0)) 1 (.int .i64 0)) rfl) rfl ⟨rfl, ?_⟩
  exact (HG.out.setCell (by simp) _).setCell (by simp) _
end Mt
end Go.Proofs.YtlfoglklibhbnaaGreat
namespace Go.Proofs.YtlfoglklibhbnaaGreat
open Go.RowKit
namespace Mt
attribute [local go_sem ↓] Go.wp_at_zero Go.wp_at_succ
def Piece (w : World) (bp b : Nat) (ax sd : Int) (tr : Value) : Prop := Bx w bp 104 [.pointer (some ⟨b, 0, none⟩), .int .i64 ax, .int .i64 sd, tr]
def lookB (d : MD) (ax sd i : Int) : Bool := fcI 2 d i == 0 && (fcI 0 d i == ax && fcI 1 d i == sd)
set_option maxHeartbeats 8000000 in
set_option maxRecDepth 100000 in
theorem looks_any (i ax sd : Int) (tr : Value) (bp b : Nat) (m : ML) (d : MD) (w : World) (h : IsM w m d) (hm : meshB d = true) (hb : Body w b m) (hp : Piece w bp b ax sd tr) :
  Calls Tryz.prog 64 #[.pointer (some ⟨bp, 0, none⟩), .int .i64 i] w fun e w' => e = .returned (.bool (lookB d ax sd i)) ∧ Gr w w' := by
 have HW := Lib.hid (way_any i b m d w h hm hb)
 have hp' : Bx w bp 104 [.pointer (some ⟨b, 0, none⟩), .int .i64 ax, .int .i64 sd, tr] := hp
 have c0 := hp'.blk.cell 0 rfl
 have lp := hp'.lt
 have HP := Lib.hid hp'
 unfold lookB
 clear h hm hb hp hp'
 generalize fcI 0 d i = r0 at *
 generalize fcI 1 d i = r1 at *
 generalize fcI 2 d i = r2 at *
 generalize hr : (r2 == 0) = ok at *
 clear hr
 go_enter Tryz.func64, Tryz.ntmps64
 go_wp2_with fail
 refine (HW.out).mono ?_
 rintro e w1 ⟨rfl, hg⟩
 have HP1 := Lib.hid (HP.out.gr hg)
 have HG := Lib.hid hg
 clear hg c0 lp HW
 have hx : Bx (w1.alloc (.cells #[.int .i64 r0, .int .i64 r1] 79)) w1.heap.size 79 [.int .i64 r0, .int .i64 r1] := Bx.new (vs := [.int .i64 r0, .int .i64 r1]) rfl
 have hpx := HP1.out.alloc (.cells #[.int .i64 r0, .int .i64 r1] 79)
 have x0 := hx.blk.cell 0 rfl; have x1 := hx.blk.cell 1 rfl; have p1 := hpx.blk.cell 1 rfl; have p2 := hpx.blk.cell 2 rfl
 have l1 := hx.lt; have l2 := hpx.lt
 clear hx hpx
 have fin : ∀ n, Gr w ((w1.alloc (.cells #[.int .i64 r0, .int .i64 r1] 79)).drewN n) := fun n => (HG.out.alloc _).dn n
 have FIN := Lib.hid fin
 clear fin
 have hz : (r0 = ax ∧ r1 = sd) ∨ (r0 = ax ∧ (r1 == sd) = false) ∨ ((r0 == ax) = false) := by
  by_cases e0 : r0 = ax
  ·by_cases e1 : r1 = sd
   ·exact .inl ⟨e0, e1⟩
   ·exact .inr (.inl ⟨e0, by simpa using e1⟩)
  ·exact .inr (.inr (by simpa using e0))
 rcases hz with ⟨rfl, rfl⟩ | ⟨rfl, hz⟩ | hz <;> cases ok
 all_goals
  go_wp2_with fail
  refine wp_region_quiet_lit (by kernel_rfl) (by kernel_rfl) ?_
  repeat (go_big_quiet_step (fail))
  refine wpQuiet_nil ?_
  rintro _ ⟨n', rfl⟩
  go_wp2_with fail
  go_ret
  refine ⟨?_, FIN.out _⟩
  simp_all
def fcT (k : Nat) (d : MD) (i : Int) : Int := if tameB d = true then fcI k d i else (if k = 2 then 1 else 0)
theorem tame_mesh {d : MD} (h : tameB d = true) : meshB d = true := by
 unfold tameB at h
 rw [Bool.and_eq_true] at h
 exact h.1
set_option maxHeartbeats 8000000 in
set_option maxRecDepth 100000 in
theorem facing_any (i : Int) (m : ML) (d : MD) (w : World) (h : IsM w m d) :
  Calls Tryz.prog 8 #[m.val, .int .i64 i] w fun e w' => e = .returned (.tuple #[.int .i64 (fcT 0 d i), .int .i64 (fcT 1 d i), .bool (fcT 2 d i == 0)]) ∧ Gr w w' := by
 by_cases ht : tameB d = true
 ·obtain ⟨⟨av, lv, cv⟩, ⟨at', lt, ct⟩, ⟨an, ln, cn⟩, ⟨af, lf, cf⟩⟩ := m
  have HO := Lib.hid fun w1 (g : Gr w w1) => open_any ⟨⟨av, lv, cv⟩, ⟨at', lt, ct⟩, ⟨an, ln, cn⟩, ⟨af, lf, cf⟩⟩ d w1 (h.later g)
  have HM := Lib.hid h
  have hB : Bx (w.alloc (.cells #[.slice av lv cv, .slice at' lt ct, .slice an ln cn, .slice af lf cf] 26)) w.heap.size 26 [.slice av lv cv, .slice at' lt ct, .slice an ln cn, .slice af lf cf] := Bx.new (vs := [.slice av lv cv, .slice at' lt ct, .slice an ln cn, .slice af lf cf]) rfl
  have HG := Lib.hid ((Gr.refl w).alloc (.cells #[.slice av lv cv, .slice at' lt ct, .slice an ln cn, .slice af lf cf] 26))
  have c0 := hB.blk.cell 0 rfl; have c1 := hB.blk.cell 1 rfl; have c2 := hB.blk.cell 2 rfl; have c3 := hB.blk.cell 3 rfl
  clear hB h
  unfold ML.val SL.v
  unfold ML.val SL.v at HO
  have e0 : fcT 0 d i = fcI 0 d i := if_pos ht
  have e1 : fcT 1 d i = fcI 1 d i := if_pos ht
  have e2 : fcT 2 d i = fcI 2 d i := if_pos ht
  rw [e0, e1, e2]
  have HW := Lib.hid fun b w2 (g : Gr w w2) (hb : Body w2 b ⟨⟨av, lv, cv⟩, ⟨at', lt, ct⟩, ⟨an, ln, cn⟩, ⟨af, lf, cf⟩⟩) => way_any i b _ d w2 (HM.out.later g) (tame_mesh ht) hb
  have HT := Lib.hid ht
  clear ht e0 e1 e2
  generalize fcI 0 d i = r0 at *
  generalize fcI 1 d i = r1 at *
  generalize fcI 2 d i = r2 at *
  go_enter Tryz.func8, Tryz.ntmps8
  go_wp2_with fail
  refine (HO.out _ HG.out).mono ?_
  rintro e w1 ⟨b, rfl, hb, hge, hg⟩
  have HB := Lib.hid hb; have HG1 := Lib.hid (HG.out.trans hg)
  clear hg c0 c1 c2 c3 hge hb
  rw [HT.out]
  go_wp2_with fail
  refine (HW.out b _ HG1.out HB.out).mono ?_
  rintro e w2 ⟨rfl, hg⟩
  have HG2 := Lib.hid (HG1.out.trans hg)
  clear hg
  have hx : Bx (w2.alloc (.cells #[.int .i64 r0, .int .i64 r1] 79)) w2.heap.size 79 [.int .i64 r0, .int .i64 r1] := Bx.new (vs := [.int .i64 r0, .int .i64 r1]) rfl
  have x0 := hx.blk.cell 0 rfl; have x1 := hx.blk.cell 1 rfl
  have l1 := hx.lt
  clear hx
  go_wp2_with fail
  refine wp_region_quiet_lit (by kernel_rfl) (by kernel_rfl) ?_
  repeat (go_big_quiet_step (fail))
  refine wpQuiet_nil ?_
  rintro _ ⟨n', rfl⟩
  go_wp2_with fail
  go_ret3
  exact ⟨rfl, (HG2.out.alloc _).dn _⟩
 ·obtain ⟨⟨av, lv, cv⟩, ⟨at', lt, ct⟩, ⟨an, ln, cn⟩, ⟨af, lf, cf⟩⟩ := m
  have HO := Lib.hid fun w1 (g : Gr w w1) => open_any ⟨⟨av, lv, cv⟩, ⟨at', lt, ct⟩, ⟨an, ln, cn⟩, ⟨af, lf, cf⟩⟩ d w1 (h.later g)
  have HM := Lib.hid h
  have hB : Bx (w.alloc (.cells #[.slice av lv cv, .slice at' lt ct, .slice an ln cn, .slice af lf cf] 26)) w.heap.size 26 [.slice av lv cv, .slice at' lt ct, .slice an ln cn, .slice af lf cf] := Bx.new (vs := [.slice av lv cv, .slice at' lt ct, .slice an ln cn, .slice af lf cf]) rfl
  have HG := Lib.hid ((Gr.refl w).alloc (.cells #[.slice av lv cv, .slice at' lt ct, .slice an ln cn, .slice af lf cf] 26))
  have c0 := hB.blk.cell 0 rfl; have c1 := hB.blk.cell 1 rfl; have c2 := hB.blk.cell 2 rfl; have c3 := hB.blk.cell 3 rfl
  clear hB h
  unfold ML.val SL.v
  unfold ML.val SL.v at HO
  have e0 : fcT 0 d i = 0 := if_neg ht
  have e1 : fcT 1 d i = 0 := if_neg ht
  have e2 : fcT 2 d i = 1 := if_neg ht
  rw [e0, e1, e2]
  have HT := Lib.hid (show tameB d = false by simpa using ht)
  clear ht e0 e1 e2
  go_enter Tryz.func8, Tryz.ntmps8
  go_wp2_with fail
  refine (HO.out _ HG.out).mono ?_
  rintro e w1 ⟨b, rfl, hb, hge, hg⟩
  have HB := Lib.hid hb; have HG1 := Lib.hid (HG.out.trans hg)
  clear hg c0 c1 c2 c3 hge hb
  rw [HT.out]
  go_wp2_with fail
  go_ret3
  exact ⟨rfl, HG1.out⟩
set_option maxHeartbeats 8000000 in
set_option maxRecDepth 100000 in
theorem shadow_of (i ax : Nat) (hax : ax < 3) (m : ML) (d : MD) (w : World) (h : IsM w m d) (ht : tameB d = true) (hi : i < d.F.length) :
  Calls Tryz.prog 11 #[m.val, .int .i64 i, .int .i64 ax] w fun e w' => e = .returned (.tuple #[agOf (shN d i ax), .int .i64 0]) ∧ Gr w w' := by
 obtain ⟨⟨av, lv, cv⟩, ⟨at', lt, ct⟩, ⟨an, ln, cn⟩, ⟨af, lf, cf⟩⟩ := m
 have HO := Lib.hid fun w1 (g : Gr w w1) => open_any ⟨⟨av, lv, cv⟩, ⟨at', lt, ct⟩, ⟨an, ln, cn⟩, ⟨af, lf, cf⟩⟩ d w1 (h.later g)
 have HM := Lib.hid h; have HT := Lib.hid ht; have HI := Lib.hid hi
 have HL := Lib.hid (show (decide (0 ≤ (i : Int)) && decide ((i : Int) < d.F.length)) = true by simp; omega)
 have hB : Bx (w.alloc (.cells #[.slice av lv cv, .slice at' lt ct, .slice an ln cn, .slice af lf cf] 26)) w.heap.size 26 [.slice av lv cv, .slice at' lt ct, .slice an ln cn, .slice af lf cf] := Bx.new (vs := [.slice av lv cv, .slice at' lt ct, .slice an ln cn, .slice af lf cf]) rfl
 have hB2 := hB.alloc (.cells #[.int .i64 0, .int .i64 0, .int .i64 0, .int .i64 0, .int .i64 0, .int .i64 0] 39)
 have hN : Bx ((w.alloc (.cells #[.slice av lv cv, .slice at' lt ct, .slice an ln cn, .slice af lf cf] 26)).alloc (.cells #[.int .i64 0, .int .i64 0, .int .i64 0, .int .i64 0, .int .i64 0, .int .i64 0] 39)) (w.heap.size + 1) 39 [.int .i64 0, .int .i64 0, .int .i64 0, .int .i64 0, .int .i64 0, .int .i64 0] := Bx.new (vs := [.int .i64 0, .int .i64 0, .int .i64 0, .int .i64 0, .int .i64 0, .int .i64 0]) (by simp)
 have HG := Lib.hid (((Gr.refl w).alloc (.cells #[.slice av lv cv, .slice at' lt ct, .slice an ln cn, .slice af lf cf] 26)).alloc (.cells #[.int .i64 0, .int .i64 0, .int .i64 0, .int .i64 0, .int .i64 0, .int .i64 0] 39))
 have HN := Lib.hid hN
 have c0 := hB2.blk.cell 0 rfl; have c1 := hB2.blk.cell 1 rfl; have c2 := hB2.blk.cell 2 rfl; have c3 := hB2.blk.cell 3 rfl
 obtain ⟨u0, v0, u1, v1, u2, v2, es⟩ : ∃ u0 v0 u1 v1 u2 v2, shN d i ax = [u0, v0, u1, v1, u2, v2] := ⟨_, _, _, _, _, _, rfl⟩
 have ES := Lib.hid es
 rw [es]
 have hx2 : decide ((ax : Int) < 0) = false := by simp
 have hx3 : decide ((3 : Int) ≤ (ax : Int)) = false := by simp; omega
 have hx4 : decide (3 ≤ ax) = false := by simp; omega
 clear hB hB2 hN h es ht hi
 unfold ML.val SL.v
 unfold ML.val SL.v at HO
 go_enter Tryz.func11, Tryz.ntmps11
 go_wp2_with fail
 refine (HO.out _ HG.out).mono ?_
 rintro e w1 ⟨b, rfl, hb, hge, hg⟩
 have HB := Lib.hid hb; have HG1 := Lib.hid (HG.out.trans hg); have HN1 := Lib.hid (HN.out.gr hg)
 clear hg c0 c1 c2 c3 hge hb
 rw [HT.out]
 go_wp2_with fail
 refine (has_any (i : Int) b ⟨⟨av, lv, cv⟩, ⟨at', lt, ct⟩, ⟨an, ln, cn⟩, ⟨af, lf, cf⟩⟩ d _ (HM.out.later HG1.out) HB.out).mono ?_
 rintro e w2 ⟨rfl, rfl⟩
 rw [HL.out]
 go_wp2_with fail
 refine (shadow_any i ax hax b ⟨⟨av, lv, cv⟩, ⟨at', lt, ct⟩, ⟨an, ln, cn⟩, ⟨af, lf, cf⟩⟩ d _ (HM.out.later HG1.out) (tame_mesh HT.out) HI.out HB.out).mono ?_
 rintro e w3 ⟨rfl, hg⟩
 have HG3 := Lib.hid (HG1.out.trans hg); have HN3 := Lib.hid (HN1.out.gr hg)
 have lN := HN3.out.lt
 have o0 := HN3.out.blk.cell 0 rfl; have o1 := HN3.out.blk.cell 1 rfl; have o2 := HN3.out.blk.cell 2 rfl; have o3 := HN3.out.blk.cell 3 rfl; have o4 := HN3.out.blk.cell 4 rfl; have o5 := HN3.out.blk.cell 5 rfl
 have f0 := HN3.out.blk.free 0 rfl; have f1 := HN3.out.blk.free 1 rfl; have f2 := HN3.out.blk.free 2 rfl; have f3 := HN3.out.blk.free 3 rfl; have f4 := HN3.out.blk.free 4 rfl; have f5 := HN3.out.blk.free 5 rfl
 clear hg
 rw [ES.out, show agOf [u0, v0, u1, v1, u2, v2] = .agg #[.int .i64 u0, .int .i64 v0, .int .i64 u1, .int .i64 v1, .int .i64 u2, .int .i64 v2] from rfl]
 go_wp2_with fail
 refine bodyPost_ret (res_agg_tmp (vs := [.int .i64 u0, .int .i64 v0, .int .i64 u1, .int .i64 v1, .int .i64 u2, .int .i64 v2]) rfl ti_p6 rfl (bx_seti (bx_seti (bx_seti (bx_seti (bx_seti (bx_seti HN3.out 0 (.int .i64 u0)) 1 (.int .i64 v0)) 2 (.int .i64 u1)) 3 (.int .i64 v1)) 4 (.int .i64 u2)) 5 (.int .i64 v2)) rfl) rfl ⟨rfl, ?_⟩
 exact (((((HG3.out.setCell (by simp) _).setCell (by simp) _).setCell (by simp) _).setCell (by simp) _).setCell (by simp) _).setCell (by simp) _
end Mt
end Go.Proofs.YtlfoglklibhbnaaGreat
