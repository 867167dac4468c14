/- Parts of the proof of TopPoint. No condition of their own. -/
import Derived.Test.YtlfoglklibhbnaaGreatTpP
import Derived.Test.YtlfoglklibhbnaaGreatTpC
import Derived.Test.YtlfoglklibhbnaaGreatTpH
import Derived.Deep.MidRow
import Derived.Laws.Cover1
import Derived.Test.YtlfoglklibhbnaaGreatTpO
set_option linter.unusedVariables false
set_option linter.unusedSimpArgs false
namespace Go.Proofs.YtlfoglklibhbnaaGreat
open Go.RowKit
namespace Mt
structure SL where
 a : Option Addr
 len : Nat
 cap : Nat
def SL.v (s : SL) : Value := .slice s.a s.len s.cap
structure ML where
 v : SL
 t : SL
 n : SL
 f : SL
def ML.val (m : ML) : Value := .agg #[m.v.v, m.t.v, m.n.v, m.f.v]
def ML.vs (m : ML) : List Value := [m.v.v, m.t.v, m.n.v, m.f.v]
structure MD where
 V : List (List Int)
 T : List (List Int)
 N : List (List Int)
 F : List (List Int)
structure IsM (w : World) (m : ML) (d : MD) : Prop where
 v : Oi.IsRows 3 w m.v.a m.v.len d.V
 t : Oi.IsRows 2 w m.t.a m.t.len d.T
 n : Oi.IsRows 3 w m.n.a m.n.len d.N
 f : Oi.IsRows 9 w m.f.a m.f.len d.F
theorem IsM.later {w w' : World} {m : ML} {d : MD} (h : IsM w m d) (g : Gr w w') : IsM w' m d := ⟨h.v.later g, h.t.later g, h.n.later g, h.f.later g⟩
def amB (n many : Int) (none : Bool) : Bool := (decide (0 ≤ n) && decide (n < many)) || (none && (n == -1))
def fewB (d : MD) : Bool := decide (max (max d.V.length d.T.length) d.N.length ≤ 2000) && decide (d.F.length ≤ 500)
def cornB (d : MD) (f : List Int) (k : Nat) : Bool :=
 amB (f.getD (3 * k) 0) d.V.length false && (amB (f.getD (3 * k + 1) 0) d.T.length true && (amB (f.getD (3 * k + 2) 0) d.N.length true && (decide (decide (f.getD (3 * k + 1) 0 < 0) = decide (f.getD 1 0 < 0)) && decide (decide (f.getD (3 * k + 2) 0 < 0) = decide (f.getD 2 0 < 0)))))
def faceB (d : MD) (f : List Int) : Bool := cornB d f 0 && (cornB d f 1 && cornB d f 2)
def nrs (z : List Int) : Bool := z.all Vc.nr
def meshB (d : MD) : Bool := fewB d && (d.V.all nrs && (d.T.all nrs && (d.N.all nrs && d.F.all (faceB d))))
theorem rows_p3 {w : World} {a : Option Addr} {len : Nat} {zs : List (List Int)} (h : Oi.IsRows 3 w a len zs) : ∃ ps : List P3, IsP3s w a len ps ∧ (∀ p ∈ ps, I p.x ∧ I p.y ∧ I p.z) ∧ ps.all Vc.nr3 = zs.all nrs := by
 obtain ⟨h1, h2, h3, h4⟩ := h
 refine ⟨zs.map fun z => ⟨z.getD 0 0, z.getD 1 0, z.getD 2 0⟩, ⟨by simp [h1], h2, fun h0 => ?_⟩, ?_, ?_⟩
 ·obtain ⟨b, off, e, hc⟩ := h4 h0
  refine ⟨b, off, e, lt_of_cell (hc 0 0 h0 (by omega)), fun i p hp => ?_⟩
  rw [List.getElem?_map] at hp
  have hi : i < zs.length := by
   apply Classical.byContradiction; intro hn
   rw [List.getElem?_eq_none (by omega)] at hp; cases hp
  have c0 := hc i 0 (by omega) (by omega); have c1 := hc i 1 (by omega) (by omega); have c2 := hc i 2 (by omega) (by omega)
  have e2 : zs.getD i [] = zs[i] := by rw [List.getD_eq_getElem?_getD, List.getElem?_eq_getElem hi]; rfl
  rw [List.getElem?_eq_getElem hi] at hp
  simp only [Option.map_some, Option.some.injEq] at hp
  subst hp
  rw [e2] at c0 c1 c2
  exact ⟨c0, c1, c2⟩
 ·intro p hp
  rw [List.mem_map] at hp
  obtain ⟨z, hz, rfl⟩ := hp
  obtain ⟨hl, hI⟩ := h3 z hz
  have : ∀ j, j < 3 → I (z.getD j 0) := fun j hj => hI _ (by rw [List.getD_eq_getElem?_getD, List.getElem?_eq_getElem (by omega)]; exact List.getElem_mem _)
  exact ⟨this 0 (by omega), this 1 (by omega), this 2 (by omega)⟩
 ·rw [List.all_map]
  clear h1 h2 h4
  induction zs with
  | nil => rfl
  | cons z zs ih =>
   have hl := (h3 z (by simp)).1
   rw [List.all_cons, List.all_cons, ih (fun y hy => h3 y (by simp [hy]))]
   congr 1
   obtain ⟨x0, l0, rfl, e0⟩ := Sx.cut1 hl
   obtain ⟨x1, l1, rfl, e1⟩ := Sx.cut1 e0
   obtain ⟨x2, l2, rfl, e2⟩ := Sx.cut1 e1
   obtain rfl := Sx.cut0 e2
   simp [nrs, Vc.nr3, Bool.and_assoc]
theorem rows_p2 {w : World} {a : Option Addr} {len : Nat} {zs : List (List Int)} (h : Oi.IsRows 2 w a len zs) : ∃ ps : List P2, IsP2s w a len ps ∧ (∀ p ∈ ps, I p.x ∧ I p.y) ∧ ps.all Vc.nr2 = zs.all nrs := by
 obtain ⟨h1, h2, h3, h4⟩ := h
 refine ⟨zs.map fun z => ⟨z.getD 0 0, z.getD 1 0⟩, ⟨by simp [h1], h2, fun h0 => ?_⟩, ?_, ?_⟩
 ·obtain ⟨b, off, e, hc⟩ := h4 h0
  refine ⟨b, off, e, lt_of_cell (hc 0 0 h0 (by omega)), fun i p hp => ?_⟩
  rw [List.getElem?_map] at hp
  have hi : i < zs.length := by
   apply Classical.byContradiction; intro hn
   rw [List.getElem?_eq_none (by omega)] at hp; cases hp
  have c0 := hc i 0 (by omega) (by omega); have c1 := hc i 1 (by omega) (by omega)
  have e2 : zs.getD i [] = zs[i] := by rw [List.getD_eq_getElem?_getD, List.getElem?_eq_getElem hi]; rfl
  rw [List.getElem?_eq_getElem hi] at hp
  simp only [Option.map_some, Option.some.injEq] at hp
  subst hp
  rw [e2] at c0 c1
  exact ⟨c0, c1⟩
 ·intro p hp
  rw [List.mem_map] at hp
  obtain ⟨z, hz, rfl⟩ := hp
  obtain ⟨hl, hI⟩ := h3 z hz
  have : ∀ j, j < 2 → I (z.getD j 0) := fun j hj => hI _ (by rw [List.getD_eq_getElem?_getD, List.getElem?_eq_getElem (by omega)]; exact List.getElem_mem _)
  exact ⟨this 0 (by omega), this 1 (by omega)⟩
 ·rw [List.all_map]
  clear h1 h2 h4
  induction zs with
  | nil => rfl
  | cons z zs ih =>
   have hl := (h3 z (by simp)).1
   rw [List.all_cons, List.all_cons, ih (fun y hy => h3 y (by simp [hy]))]
   congr 1
   obtain ⟨x0, l0, rfl, e0⟩ := Sx.cut1 hl
   obtain ⟨x1, l1, rfl, e1⟩ := Sx.cut1 e0
   obtain rfl := Sx.cut0 e1
   simp [nrs, Vc.nr2, Bool.and_assoc]
theorem is3_rows (a : Option Addr) (len cap : Nat) (zs : List (List Int)) (w : World) (hr : Oi.IsRows 3 w a len zs) :
  Calls Tryz.prog 106 #[.slice a len cap] w fun e w' => e = .returned (.bool (zs.all nrs)) ∧ Gr w w' := by
 obtain ⟨ps, h1, h2, h3⟩ := rows_p3 hr
 rw [← h3]
 exact Vc.is3_any a len cap ps w h1 h2
theorem is2_rows (a : Option Addr) (len cap : Nat) (zs : List (List Int)) (w : World) (hr : Oi.IsRows 2 w a len zs) :
  Calls Tryz.prog 88 #[.slice a len cap] w fun e w' => e = .returned (.bool (zs.all nrs)) ∧ Gr w w' := by
 obtain ⟨ps, h1, h2, h3⟩ := rows_p2 hr
 rw [← h3]
 exact Vc.is2_any a len cap ps w h1 h2
set_option maxRecDepth 100000 in
theorem among_any (n many : Int) (nn : Bool) (w : World) :
  Calls Tryz.prog 107 #[.int .i64 n, .int .i64 many, .bool nn] w fun e w' => e = .returned (.bool (amB n many nn)) ∧ w = w' := by
 unfold amB
 generalize hA : decide (0 ≤ n) = A
 generalize hB : decide (n < many) = B
 generalize hC : (n == -1) = C
 cases A <;> cases B <;> cases nn <;> cases C
 all_goals
  go_enter Tryz.func107, Tryz.ntmps107
  go_wp2_with fail
  go_ret
  exact ⟨rfl, rfl⟩
set_option maxRecDepth 100000 in
theorem few_any (m : ML) (d : MD) (w : World) (h : IsM w m d) :
  Calls Tryz.prog 105 #[m.val] w fun e w' => e = .returned (.bool (fewB d)) ∧ Gr w w' := by
 obtain ⟨⟨av, lv, cv⟩, ⟨at', lt, ct⟩, ⟨an, ln, cn⟩, ⟨af, lf, cf⟩⟩ := m
 have h1 : d.V.length = lv := h.v.1
 have h2 : d.T.length = lt := h.t.1
 have h3 : d.N.length = ln := h.n.1
 have h4 : d.F.length = lf := h.f.1
 unfold fewB
 rw [h1, h2, h3, h4]
 clear h h1 h2 h3 h4
 have hB : Blk (w.alloc (.cells #[.slice av lv cv, .slice at' lt ct, .slice an ln cn, .slice af lf cf] 26)) w.heap.size [.slice av lv cv, .slice at' lt ct, .slice an ln cn, .slice af lf cf] := Blk.new rfl
 have c0 := hB.cell 0 rfl; have c1 := hB.cell 1 rfl; have c2 := hB.cell 2 rfl; have c3 := hB.cell 3 rfl
 clear hB
 unfold ML.val SL.v
 go_enter Tryz.func105, Tryz.ntmps105
 go_wp2_with fail
 all_goals
  go_ret
  refine ⟨?_, (Gr.refl w).alloc _⟩
  simp at *
  first
   | omega
   | (rw [Bool.eq_iff_iff]; simp; omega)
theorem info_c : (Tryz.prog.info? 65).map (fun i => i.size) = some 3 := by kernel_rfl
theorem size_c (w : World) : (Go.sizeOf 65).run Tryz.prog w = .ok 3 w := by
 have := info_c
 cases h : Tryz.prog.info? 65 with
 | none => rw [h] at this; cases this
 | some i => rw [h] at this; simp at this; simp [Go.sizeOf, typeInfo, program, Sem.run, h, this]
theorem agg_c (w : World) : (isAgg 65).run Tryz.prog w = .ok true w := by
 unfold isAgg; rw [Sem.run_bind, run_underlying Tryz.underlying65]; rfl
theorem ix_c (w : World) (t0 t1 t2 t3 t4 t5 t6 t7 t8 : Int) (i : Nat) (hi : i < 3) : (Instr.index 66 (.agg #[.int .i64 t0, .int .i64 t1, .int .i64 t2, .int .i64 t3, .int .i64 t4, .int .i64 t5, .int .i64 t6, .int .i64 t7, .int .i64 t8]) (.int .i64 i)).run Tryz.prog w = .ok (.agg #[.int .i64 ([t0, t1, t2, t3, t4, t5, t6, t7, t8].getD (3 * i) 0), .int .i64 ([t0, t1, t2, t3, t4, t5, t6, t7, t8].getD (3 * i + 1) 0), .int .i64 ([t0, t1, t2, t3, t4, t5, t6, t7, t8].getD (3 * i + 2) 0)]) w := by
 unfold Instr.index
 have h1 : (asIntOf (.int .i64 (i : Int))).run Tryz.prog w = .ok (.i64, (i : Int)) w := rfl
 have hb : (0 : Int) ≤ (i : Int) ∧ (i : Int) < 3 := by omega
 simp only [Sem.run_bind, h1, Result.andThen_ok, run_underlying Tryz.underlying66]
 simp only [Int.toNat_natCast]
 rw [if_pos (by exact hb)]
 simp only [Sem.run_bind, size_c, Result.andThen_ok]
 unfold Go.part
 simp only [Sem.run_bind, agg_c, Result.andThen_ok, if_true, size_c, Sem.run_pure]
 have hk4 : i = 0 ∨ i = 1 ∨ i = 2 := by omega
 rcases hk4 with rfl | rfl | rfl <;> rfl
theorem info_p : (Tryz.prog.info? 63).map (fun i => i.size) = some 3 := by kernel_rfl
theorem size_p (w : World) : (Go.sizeOf 63).run Tryz.prog w = .ok 3 w := by
 have := info_p
 cases h : Tryz.prog.info? 63 with
 | none => rw [h] at this; cases this
 | some i => rw [h] at this; simp at this; simp [Go.sizeOf, typeInfo, program, Sem.run, h, this]
theorem agg_p (w : World) : (isAgg 63).run Tryz.prog w = .ok true w := by
 unfold isAgg; rw [Sem.run_bind, run_underlying Tryz.underlying63]; rfl
theorem ix_p (w : World) (t0 t1 t2 t3 t4 t5 t6 t7 t8 : Int) (i : Nat) (hi : i < 3) : (Instr.index 126 (.agg #[.int .i64 t0, .int .i64 t1, .int .i64 t2, .int .i64 t3, .int .i64 t4, .int .i64 t5, .int .i64 t6, .int .i64 t7, .int .i64 t8]) (.int .i64 i)).run Tryz.prog w = .ok (.agg #[.int .i64 ([t0, t1, t2, t3, t4, t5, t6, t7, t8].getD (3 * i) 0), .int .i64 ([t0, t1, t2, t3, t4, t5, t6, t7, t8].getD (3 * i + 1) 0), .int .i64 ([t0, t1, t2, t3, t4, t5, t6, t7, t8].getD (3 * i + 2) 0)]) w := by
 unfold Instr.index
 have h1 : (asIntOf (.int .i64 (i : Int))).run Tryz.prog w = .ok (.i64, (i : Int)) w := rfl
 have hb : (0 : Int) ≤ (i : Int) ∧ (i : Int) < 3 := by omega
 simp only [Sem.run_bind, h1, Result.andThen_ok, run_underlying Tryz.underlying126]
 simp only [Int.toNat_natCast]
 rw [if_pos (by exact hb)]
 simp only [Sem.run_bind, size_p, Result.andThen_ok]
 unfold Go.part
 simp only [Sem.run_bind, agg_p, Result.andThen_ok, if_true, size_p, Sem.run_pure]
 have hk4 : i = 0 ∨ i = 1 ∨ i = 2 := by omega
 rcases hk4 with rfl | rfl | rfl <;> rfl
end Mt
end Go.Proofs.YtlfoglklibhbnaaGreat
namespace Go.Proofs.YtlfoglklibhbnaaGreat
open Go.RowKit
namespace Mt
theorem rows9_at {w : World} {a : Option Addr} {len i : Nat} {zs : List (List Int)} (h : Oi.IsRows 9 w a len zs) (hi : i < len) : ∃ b off t0 t1 t2 t3 t4 t5 t6 t7 t8, a = some ⟨b, off, none⟩ ∧ b < w.heap.size ∧ zs.getD i [] = [t0, t1, t2, t3, t4, t5, t6, t7, t8] ∧ (I t0 ∧ I t1 ∧ I t2 ∧ I t3 ∧ I t4 ∧ I t5 ∧ I t6 ∧ I t7 ∧ I t8) ∧
    w.cell? ⟨b, off + i * 9, none⟩ = some (.int .i64 t0) ∧ w.cell? ⟨b, off + i * 9 + 1, none⟩ = some (.int .i64 t1) ∧ w.cell? ⟨b, off + i * 9 + 2, none⟩ = some (.int .i64 t2) ∧ w.cell? ⟨b, off + i * 9 + 3, none⟩ = some (.int .i64 t3) ∧ w.cell? ⟨b, off + i * 9 + 4, none⟩ = some (.int .i64 t4) ∧ w.cell? ⟨b, off + i * 9 + 5, none⟩ = some (.int .i64 t5) ∧ w.cell? ⟨b, off + i * 9 + 6, none⟩ = some (.int .i64 t6) ∧ w.cell? ⟨b, off + i * 9 + 7, none⟩ = some (.int .i64 t7) ∧ w.cell? ⟨b, off + i * 9 + 8, none⟩ = some (.int .i64 t8) := by
  obtain ⟨h1, h2, h3, h4⟩ := h
  obtain ⟨b, off, e, hc⟩ := h4 (by omega)
  have hm := h3 (zs.getD i []) (by rw [List.getD_eq_getElem?_getD, List.getElem?_eq_getElem (by omega)]; exact List.getElem_mem _)
  have c0 := hc i 0 hi (by omega); have c1 := hc i 1 hi (by omega); have c2 := hc i 2 hi (by omega); have c3 := hc i 3 hi (by omega); have c4 := hc i 4 hi (by omega); have c5 := hc i 5 hi (by omega); have c6 := hc i 6 hi (by omega); have c7 := hc i 7 hi (by omega); have c8 := hc i 8 hi (by omega)
  generalize zs.getD i [] = z at hm c0 c1 c2 c3 c4 c5 c6 c7 c8
  obtain ⟨x0, l0, rfl, e0⟩ := Sx.cut1 hm.1
  obtain ⟨x1, l1, rfl, e1⟩ := Sx.cut1 e0
  obtain ⟨x2, l2, rfl, e2⟩ := Sx.cut1 e1
  obtain ⟨x3, l3, rfl, e3⟩ := Sx.cut1 e2
  obtain ⟨x4, l4, rfl, e4⟩ := Sx.cut1 e3
  obtain ⟨x5, l5, rfl, e5⟩ := Sx.cut1 e4
  obtain ⟨x6, l6, rfl, e6⟩ := Sx.cut1 e5
  obtain ⟨x7, l7, rfl, e7⟩ := Sx.cut1 e6
  obtain ⟨x8, l8, rfl, e8⟩ := Sx.cut1 e7
  obtain rfl := Sx.cut0 e8
  have hI := hm.2
  exact ⟨b, off, x0, x1, x2, x3, x4, x5, x6, x7, x8, e, lt_of_cell c0, rfl, ⟨hI _ (by simp), hI _ (by simp), hI _ (by simp), hI _ (by simp), hI _ (by simp), hI _ (by simp), hI _ (by simp), hI _ (by simp), hI _ (by simp)⟩, c0, c1, c2, c3, c4, c5, c6, c7, c8⟩
theorem all_at {zs : List (List Int)} {p : List Int → Bool} {k : Nat} (hk : k < zs.length) (h : p (zs.getD k []) = false) : zs.all p = false := by
  rw [Bool.eq_false_iff]; intro hh; rw [List.all_eq_true] at hh
  have := hh (zs.getD k []) (by rw [List.getD_eq_getElem?_getD, List.getElem?_eq_getElem hk]; exact List.getElem_mem _)
  rw [h] at this; cases this
theorem all_of {zs : List (List Int)} {p : List Int → Bool} (h : ∀ j, j < zs.length → p (zs.getD j []) = true) : zs.all p = true := by
  rw [List.all_eq_true]
  intro z hz
  obtain ⟨j, hj⟩ := List.getElem?_of_mem hz
  have hjl : j < zs.length := (List.getElem?_eq_some_iff.1 hj).1
  have := h j hjl
  rw [List.getD_eq_getElem?_getD, hj] at this
  exact this
theorem faceB_no {d : MD} {f : List Int} {i : Nat} (hi : i < 3) (h : cornB d f i = false) : faceB d f = false := by
  unfold faceB
  match i, hi with
  | 0, _ => rw [h]; rfl
  | 1, _ => rw [h]; simp
  | 2, _ => rw [h]; simp
theorem faceB_yes {d : MD} {f : List Int} (h : ∀ j, j < 3 → cornB d f j = true) : faceB d f = true := by
  unfold faceB
  rw [h 0 (by omega), h 1 (by omega), h 2 (by omega)]; rfl
theorem among_ex (n many : Int) (nn : Bool) (w : World) :
    Calls Tryz.prog 107 #[.int .i64 n, .int .i64 many, .bool nn] w fun e w' => ∃ b, e = .returned (.bool b) ∧ b = amB n many nn ∧ w = w' :=
  (among_any n many nn w).mono fun _ _ h => ⟨_, h.1, rfl, h.2⟩
set_option maxHeartbeats 16000000 in
set_option maxRecDepth 100000 in
theorem is_any (m : ML) (d : MD) (w : World) (h : IsM w m d) :
    Calls Tryz.prog 80 #[m.val] w fun e w' => e = .returned (.bool (meshB d)) ∧ Gr w w' := by
  obtain ⟨⟨av, lv, cv⟩, ⟨at', lt, ct⟩, ⟨an, ln, cn⟩, ⟨af, lf, cf⟩⟩ := m
  have h1 : d.V.length = lv := h.v.1
  have h2 : d.T.length = lt := h.t.1
  have h3 : d.N.length = ln := h.n.1
  have h4 : d.F.length = lf := h.f.1
  have hbf : lf ≤ 9223372036854775807 := h.f.2.1
  have HM := Lib.hid h
  have hB : Bx (w.alloc (.cells #[.slice av lv cv, .slice at' lt ct, .slice an ln cn, .slice af lf cf] 26)) w.heap.size 26 [.slice av lv cv, .slice at' lt ct, .slice an ln cn, .slice af lf cf] := Bx.new (vs := [.slice av lv cv, .slice at' lt ct, .slice an ln cn, .slice af lf cf]) rfl
  have HB0 := Lib.hid hB
  have HG0 := Lib.hid ((Gr.refl w).alloc (.cells #[.slice av lv cv, .slice at' lt ct, .slice an ln cn, .slice af lf cf] 26))
  have c0 := hB.blk.cell 0 rfl; have c1 := hB.blk.cell 1 rfl; have c2 := hB.blk.cell 2 rfl; have c3 := hB.blk.cell 3 rfl
  have H1 := Lib.hid h1; have H2 := Lib.hid h2; have H3 := Lib.hid h3; have H4 := Lib.hid h4
  clear hB h h1 h2 h3 h4
  have hmb : meshB d = (fewB d && (d.V.all nrs && (d.T.all nrs && (d.N.all nrs && d.F.all (faceB d))))) := rfl
  have HMB := Lib.hid hmb
  clear hmb
  unfold ML.val SL.v
  go_enter Tryz.func80, Tryz.ntmps80
  go_wp2_with fail
  refine (few_any ⟨⟨av, lv, cv⟩, ⟨at', lt, ct⟩, ⟨an, ln, cn⟩, ⟨af, lf, cf⟩⟩ d _ (HM.out.later HG0.out)).mono ?_
  rintro e w1 ⟨rfl, hg1⟩
  have HB1 := Lib.hid (HB0.out.gr hg1); have HG1 := Lib.hid (HG0.out.trans hg1)
  clear hg1 c0 c1 c2 c3
  have c0 := HB1.out.blk.cell 0 rfl; have c1 := HB1.out.blk.cell 1 rfl; have c2 := HB1.out.blk.cell 2 rfl; have c3 := HB1.out.blk.cell 3 rfl; have lb := HB1.out.lt
  cases hf : fewB d
  · go_wp2_with fail
    go_ret
    exact ⟨by rw [HMB.out, hf]; rfl, HG1.out⟩
  go_wp2_with fail
  refine (is3_rows av lv cv d.V _ (HM.out.later HG1.out).v).mono ?_
  rintro e w2 ⟨rfl, hg2⟩
  have HB2 := Lib.hid (HB1.out.gr hg2); have HG2 := Lib.hid (HG1.out.trans hg2)
  clear hg2 c0 c1 c2 c3 lb
  have c0 := HB2.out.blk.cell 0 rfl; have c1 := HB2.out.blk.cell 1 rfl; have c2 := HB2.out.blk.cell 2 rfl; have c3 := HB2.out.blk.cell 3 rfl; have lb := HB2.out.lt
  cases hv : d.V.all nrs
  · go_wp2_with fail
    go_ret
    exact ⟨by rw [HMB.out, hf, hv]; rfl, HG2.out⟩
  go_wp2_with fail
  refine (is2_rows at' lt ct d.T _ (HM.out.later HG2.out).t).mono ?_
  rintro e w3 ⟨rfl, hg3⟩
  have HB3 := Lib.hid (HB2.out.gr hg3); have HG3 := Lib.hid (HG2.out.trans hg3)
  clear hg3 c0 c1 c2 c3 lb
  have c0 := HB3.out.blk.cell 0 rfl; have c1 := HB3.out.blk.cell 1 rfl; have c2 := HB3.out.blk.cell 2 rfl; have c3 := HB3.out.blk.cell 3 rfl; have lb := HB3.out.lt
  cases ht : d.T.all nrs
  · go_wp2_with fail
    go_ret
    exact ⟨by rw [HMB.out, hf, hv, ht]; rfl, HG3.out⟩
  go_wp2_with fail
  refine (is3_rows an ln cn d.N _ (HM.out.later HG3.out).n).mono ?_
  rintro e w4 ⟨rfl, hg4⟩
  have HB4 := Lib.hid (HB3.out.gr hg4); have HG4 := Lib.hid (HG3.out.trans hg4)
  clear hg4 c0 c1 c2 c3 lb
  have c0 := HB4.out.blk.cell 0 rfl; have c1 := HB4.out.blk.cell 1 rfl; have c2 := HB4.out.blk.cell 2 rfl; have c3 := HB4.out.blk.cell 3 rfl; have lb := HB4.out.lt
  cases hn : d.N.all nrs
  · go_wp2_with fail
    go_ret
    exact ⟨by rw [HMB.out, hf, hv, ht, hn]; rfl, HG4.out⟩
  have HE := Lib.hid (show meshB d = d.F.all (faceB d) by rw [HMB.out, hf, hv, ht, hn]; rfl)
  clear hf hv ht hn HMB
  go_wp2_with fail
  go_loopw [31] (fun v31 wr => ∃ k : Nat, k ≤ lf ∧ v31 = .int .i64 k ∧ (∀ j, j < k → faceB d (d.F.getD j []) = true) ∧ Gr w4 wr) (fun v31 _ => lf - (intOf v31).toNat)
  case atStart => exact ⟨0, Nat.zero_le _, rfl, fun j h => absurd h (by omega), Gr.refl _⟩
  case round =>
    clear c0 c1 c2 c3 lb
    obtain ⟨k, hk, rfl, hall, hg⟩ := hrel
    have HA := Lib.hid hall; have HK := Lib.hid hg
    clear hall hg
    by_cases hlt : k < lf
    · obtain ⟨b, off, t0, t1, t2, t3, t4, t5, t6, t7, t8, rfl, hbl, ez, hI, c0, c1, c2, c3, c4, c5, c6, c7, c8⟩ := rows9_at (HM.out.later (HG4.out.trans HK.out)).f hlt
      have EZ := Lib.hid ez
      have hk0 : (0 : Int) ≤ (k : Int) := by omega
      clear ez hI
      go_wp2_with fail
      obtain ⟨V, hV⟩ : ∃ V, wr.alloc (.cells #[.int .i64 t0, .int .i64 t1, .int .i64 t2, .int .i64 t3, .int .i64 t4, .int .i64 t5, .int .i64 t6, .int .i64 t7, .int .i64 t8] 66) = V := ⟨_, rfl⟩
      have hF : Bx V wr.heap.size 66 [.int .i64 t0, .int .i64 t1, .int .i64 t2, .int .i64 t3, .int .i64 t4, .int .i64 t5, .int .i64 t6, .int .i64 t7, .int .i64 t8] := by rw [← hV]; exact Bx.new (vs := [.int .i64 t0, .int .i64 t1, .int .i64 t2, .int .i64 t3, .int .i64 t4, .int .i64 t5, .int .i64 t6, .int .i64 t7, .int .i64 t8]) rfl
      have hgV : Gr w4 V := by rw [← hV]; exact HK.out.alloc _
      rw [hV]
      obtain ⟨bF, hbF⟩ : ∃ bF, wr.heap.size = bF := ⟨_, rfl⟩
      rw [hbF] at hF ⊢
      have HF := Lib.hid hF; have HV := Lib.hid hgV
      have HBV := Lib.hid (HB4.out.gr hgV)
      clear hV hF hgV hbF c0 c1 c2 c3 c4 c5 c6 c7 c8
      go_loopw [36] (fun v36 wx => ∃ i : Nat, i ≤ 3 ∧ v36 = .int .i64 i ∧ (∀ j, j < i → cornB d [t0, t1, t2, t3, t4, t5, t6, t7, t8] j = true) ∧ Gr V wx) (fun v36 _ => 3 - (intOf v36).toNat)
      case atStart => exact ⟨0, Nat.zero_le _, rfl, fun j h => absurd h (by omega), Gr.refl _⟩
      case round =>
        obtain ⟨i, hi, rfl, hall, hg⟩ := hrel
        have HC := Lib.hid hall; have HX := Lib.hid hg
        clear hall hg
        by_cases hlti : i < 3
        · have hB5 := HBV.out.gr HX.out
          have hF5 := HF.out.gr HX.out
          have c0 := hB5.blk.cell 0 rfl; have c1 := hB5.blk.cell 1 rfl; have c2 := hB5.blk.cell 2 rfl; have lb := hB5.lt
          have f0 := hF5.blk.cell 0 rfl; have f1 := hF5.blk.cell 1 rfl; have f2 := hF5.blk.cell 2 rfl; have lf0 := hF5.lt
          have HB5 := Lib.hid hB5; have HF5 := Lib.hid hF5
          clear hB5 hF5
          have hi3 : i = 0 ∨ i = 1 ∨ i = 2 := by omega
          rcases hi3 with rfl | rfl | rfl
          · have hix := fun w => ix_c w t0 t1 t2 t3 t4 t5 t6 t7 t8 0 (by omega)
            simp only [Nat.mul_zero, Nat.reduceMul, Nat.reduceAdd, Nat.zero_add, List.getD_cons_zero, List.getD_cons_succ, Int.natCast_zero, Int.natCast_one, Int.ofNat_zero, Int.cast_ofNat_Int] at hix
            go_wp2_with fail
            refine (among_ex _ _ _ _).mono ?_
            rintro e w6 ⟨b1, rfl, hb1, rfl⟩
            have HB1 := Lib.hid hb1
            clear hb1
            cases b1
            · go_wp2_with fail
              go_ret
              exact ⟨by rw [HE.out]; exact (congrArg (fun b => Ending.returned (Value.bool b)) (all_at (p := faceB d) (k := k) (by rw [H4.out]; exact hlt) (by rw [EZ.out]; exact faceB_no (i := 0) (by omega) (by simp only [cornB, Nat.mul_zero, Nat.zero_add, Nat.reduceMul, Nat.reduceAdd, H1.out, List.getD_cons_zero, List.getD_cons_succ]; rw [show amB t0 lv false = false from HB1.out.symm]; rfl)))).symm, (HG4.out.trans HV.out).trans ((HX.out.alloc _))⟩
            go_wp2_with fail
            refine (among_ex _ _ _ _).mono ?_
            rintro e w6 ⟨b2, rfl, hb2, rfl⟩
            have HB2 := Lib.hid hb2
            clear hb2
            cases b2
            · go_wp2_with fail
              go_ret
              exact ⟨by rw [HE.out]; exact (congrArg (fun b => Ending.returned (Value.bool b)) (all_at (p := faceB d) (k := k) (by rw [H4.out]; exact hlt) (by rw [EZ.out]; exact faceB_no (i := 0) (by omega) (by simp only [cornB, Nat.mul_zero, Nat.zero_add, Nat.reduceMul, Nat.reduceAdd, H1.out, H2.out, List.getD_cons_zero, List.getD_cons_succ]; rw [show amB t1 lt true = false from HB2.out.symm]; simp)))).symm, (HG4.out.trans HV.out).trans ((HX.out.alloc _))⟩
            go_wp2_with fail
            refine (among_ex _ _ _ _).mono ?_
            rintro e w6 ⟨b3, rfl, hb3, rfl⟩
            have HB3 := Lib.hid hb3
            clear hb3
            cases b3
            · go_wp2_with fail
              go_ret
              exact ⟨by rw [HE.out]; exact (congrArg (fun b => Ending.returned (Value.bool b)) (all_at (p := faceB d) (k := k) (by rw [H4.out]; exact hlt) (by rw [EZ.out]; exact faceB_no (i := 0) (by omega) (by simp only [cornB, Nat.mul_zero, Nat.zero_add, Nat.reduceMul, Nat.reduceAdd, H1.out, H2.out, H3.out, List.getD_cons_zero, List.getD_cons_succ]; rw [show amB t2 ln true = false from HB3.out.symm]; simp)))).symm, (HG4.out.trans HV.out).trans ((HX.out.alloc _))⟩
            go_wp2_with fail
            go_roundw
            case rel =>
              refine ⟨1, by omega, by go_num, fun j hj => ?_, HX.out.alloc _⟩
              by_cases ej : j = 0
              · subst ej
                simp only [cornB, Nat.mul_zero, Nat.zero_add, Nat.reduceMul, Nat.reduceAdd, H1.out, H2.out, H3.out, List.getD_cons_zero, List.getD_cons_succ]
                rw [show amB t0 lv false = true from HB1.out.symm, show amB t1 lt true = true from HB2.out.symm, show amB t2 ln true = true from HB3.out.symm]
                simp
              · exact HC.out j (by omega)
            case measure => simp [intOf]
          · have hix := fun w => ix_c w t0 t1 t2 t3 t4 t5 t6 t7 t8 1 (by omega)
            simp only [Nat.mul_zero, Nat.reduceMul, Nat.reduceAdd, Nat.zero_add, List.getD_cons_zero, List.getD_cons_succ, Int.natCast_zero, Int.natCast_one, Int.ofNat_zero, Int.cast_ofNat_Int] at hix
            go_wp2_with fail
            refine (among_ex _ _ _ _).mono ?_
            rintro e w6 ⟨b1, rfl, hb1, rfl⟩
            have HB1 := Lib.hid hb1
            clear hb1
            cases b1
            · go_wp2_with fail
              go_ret
              exact ⟨by rw [HE.out]; exact (congrArg (fun b => Ending.returned (Value.bool b)) (all_at (p := faceB d) (k := k) (by rw [H4.out]; exact hlt) (by rw [EZ.out]; exact faceB_no (i := 1) (by omega) (by simp only [cornB, Nat.mul_zero, Nat.zero_add, Nat.reduceMul, Nat.reduceAdd, H1.out, List.getD_cons_zero, List.getD_cons_succ]; rw [show amB t3 lv false = false from HB1.out.symm]; rfl)))).symm, (HG4.out.trans HV.out).trans ((HX.out.alloc _))⟩
            go_wp2_with fail
            refine (among_ex _ _ _ _).mono ?_
            rintro e w6 ⟨b2, rfl, hb2, rfl⟩
            have HB2 := Lib.hid hb2
            clear hb2
            cases b2
            · go_wp2_with fail
              go_ret
              exact ⟨by rw [HE.out]; exact (congrArg (fun b => Ending.returned (Value.bool b)) (all_at (p := faceB d) (k := k) (by rw [H4.out]; exact hlt) (by rw [EZ.out]; exact faceB_no (i := 1) (by omega) (by simp only [cornB, Nat.mul_zero, Nat.zero_add, Nat.reduceMul, Nat.reduceAdd, H1.out, H2.out, List.getD_cons_zero, List.getD_cons_succ]; rw [show amB t4 lt true = false from HB2.out.symm]; simp)))).symm, (HG4.out.trans HV.out).trans ((HX.out.alloc _))⟩
            go_wp2_with fail
            refine (among_ex _ _ _ _).mono ?_
            rintro e w6 ⟨b3, rfl, hb3, rfl⟩
            have HB3 := Lib.hid hb3
            clear hb3
            cases b3
            · go_wp2_with fail
              go_ret
              exact ⟨by rw [HE.out]; exact (congrArg (fun b => Ending.returned (Value.bool b)) (all_at (p := faceB d) (k := k) (by rw [H4.out]; exact hlt) (by rw [EZ.out]; exact faceB_no (i := 1) (by omega) (by simp only [cornB, Nat.mul_zero, Nat.zero_add, Nat.reduceMul, Nat.reduceAdd, H1.out, H2.out, H3.out, List.getD_cons_zero, List.getD_cons_succ]; rw [show amB t5 ln true = false from HB3.out.symm]; simp)))).symm, (HG4.out.trans HV.out).trans ((HX.out.alloc _))⟩
            generalize hp : decide (t4 < 0) = p
            generalize hp1 : decide (t1 < 0) = p1
            generalize hq : decide (t5 < 0) = q
            generalize hq2 : decide (t2 < 0) = q2
            have HP := Lib.hid hp; have HP1 := Lib.hid hp1; have HQ := Lib.hid hq; have HQ2 := Lib.hid hq2
            cases p <;> cases p1 <;> cases q <;> cases q2
            all_goals go_wp2_with fail
            all_goals first
              | (go_ret
                 exact ⟨by rw [HE.out]; exact (congrArg (fun b => Ending.returned (Value.bool b)) (all_at (p := faceB d) (k := k) (by rw [H4.out]; exact hlt) (by rw [EZ.out]; exact faceB_no (i := 1) (by omega) (by simp only [cornB, Nat.mul_zero, Nat.zero_add, Nat.reduceMul, Nat.reduceAdd, List.getD_cons_zero, List.getD_cons_succ]; rw [HP.out, HP1.out, HQ.out, HQ2.out]; simp)))).symm, (HG4.out.trans HV.out).trans ((HX.out.alloc _))⟩)
              | (go_roundw
                 case rel =>
                   refine ⟨2, by omega, by go_num, fun j hj => ?_, HX.out.alloc _⟩
                   by_cases ej : j = 1
                   · subst ej
                     simp only [cornB, Nat.mul_zero, Nat.zero_add, Nat.reduceMul, Nat.reduceAdd, H1.out, H2.out, H3.out, List.getD_cons_zero, List.getD_cons_succ]
                     rw [show amB t3 lv false = true from HB1.out.symm, show amB t4 lt true = true from HB2.out.symm, show amB t5 ln true = true from HB3.out.symm]
                     rw [HP.out, HP1.out, HQ.out, HQ2.out]; simp
                   · exact HC.out j (by omega)
                 case measure => simp [intOf])
          · have hix := fun w => ix_c w t0 t1 t2 t3 t4 t5 t6 t7 t8 2 (by omega)
            simp only [Nat.mul_zero, Nat.reduceMul, Nat.reduceAdd, Nat.zero_add, List.getD_cons_zero, List.getD_cons_succ, Int.natCast_zero, Int.natCast_one, Int.ofNat_zero, Int.cast_ofNat_Int] at hix
            go_wp2_with fail
            refine (among_ex _ _ _ _).mono ?_
            rintro e w6 ⟨b1, rfl, hb1, rfl⟩
            have HB1 := Lib.hid hb1
            clear hb1
            cases b1
            · go_wp2_with fail
              go_ret
              exact ⟨by rw [HE.out]; exact (congrArg (fun b => Ending.returned (Value.bool b)) (all_at (p := faceB d) (k := k) (by rw [H4.out]; exact hlt) (by rw [EZ.out]; exact faceB_no (i := 2) (by omega) (by simp only [cornB, Nat.mul_zero, Nat.zero_add, Nat.reduceMul, Nat.reduceAdd, H1.out, List.getD_cons_zero, List.getD_cons_succ]; rw [show amB t6 lv false = false from HB1.out.symm]; rfl)))).symm, (HG4.out.trans HV.out).trans ((HX.out.alloc _))⟩
            go_wp2_with fail
            refine (among_ex _ _ _ _).mono ?_
            rintro e w6 ⟨b2, rfl, hb2, rfl⟩
            have HB2 := Lib.hid hb2
            clear hb2
            cases b2
            · go_wp2_with fail
              go_ret
              exact ⟨by rw [HE.out]; exact (congrArg (fun b => Ending.returned (Value.bool b)) (all_at (p := faceB d) (k := k) (by rw [H4.out]; exact hlt) (by rw [EZ.out]; exact faceB_no (i := 2) (by omega) (by simp only [cornB, Nat.mul_zero, Nat.zero_add, Nat.reduceMul, Nat.reduceAdd, H1.out, H2.out, List.getD_cons_zero, List.getD_cons_succ]; rw [show amB t7 lt true = false from HB2.out.symm]; simp)))).symm, (HG4.out.trans HV.out).trans ((HX.out.alloc _))⟩
            go_wp2_with fail
            refine (among_ex _ _ _ _).mono ?_
            rintro e w6 ⟨b3, rfl, hb3, rfl⟩
            have HB3 := Lib.hid hb3
            clear hb3
            cases b3
            · go_wp2_with fail
              go_ret
              exact ⟨by rw [HE.out]; exact (congrArg (fun b => Ending.returned (Value.bool b)) (all_at (p := faceB d) (k := k) (by rw [H4.out]; exact hlt) (by rw [EZ.out]; exact faceB_no (i := 2) (by omega) (by simp only [cornB, Nat.mul_zero, Nat.zero_add, Nat.reduceMul, Nat.reduceAdd, H1.out, H2.out, H3.out, List.getD_cons_zero, List.getD_cons_succ]; rw [show amB t8 ln true = false from HB3.out.symm]; simp)))).symm, (HG4.out.trans HV.out).trans ((HX.out.alloc _))⟩
            generalize hp : decide (t7 < 0) = p
            generalize hp1 : decide (t1 < 0) = p1
            generalize hq : decide (t8 < 0) = q
            generalize hq2 : decide (t2 < 0) = q2
            have HP := Lib.hid hp; have HP1 := Lib.hid hp1; have HQ := Lib.hid hq; have HQ2 := Lib.hid hq2
            cases p <;> cases p1 <;> cases q <;> cases q2
            all_goals go_wp2_with fail
            all_goals first
              | (go_ret
                 exact ⟨by rw [HE.out]; exact (congrArg (fun b => Ending.returned (Value.bool b)) (all_at (p := faceB d) (k := k) (by rw [H4.out]; exact hlt) (by rw [EZ.out]; exact faceB_no (i := 2) (by omega) (by simp only [cornB, Nat.mul_zero, Nat.zero_add, Nat.reduceMul, Nat.reduceAdd, List.getD_cons_zero, List.getD_cons_succ]; rw [HP.out, HP1.out, HQ.out, HQ2.out]; simp)))).symm, (HG4.out.trans HV.out).trans ((HX.out.alloc _))⟩)
              | (go_roundw
                 case rel =>
                   refine ⟨3, by omega, by go_num, fun j hj => ?_, HX.out.alloc _⟩
                   by_cases ej : j = 2
                   · subst ej
                     simp only [cornB, Nat.mul_zero, Nat.zero_add, Nat.reduceMul, Nat.reduceAdd, H1.out, H2.out, H3.out, List.getD_cons_zero, List.getD_cons_succ]
                     rw [show amB t6 lv false = true from HB1.out.symm, show amB t7 lt true = true from HB2.out.symm, show amB t8 ln true = true from HB3.out.symm]
                     rw [HP.out, HP1.out, HQ.out, HQ2.out]; simp
                   · exact HC.out j (by omega)
                 case measure => simp [intOf])
        · have hi3 : i = 3 := by omega
          subst hi3
          go_wp2_with fail
          go_roundw
          case rel =>
            refine ⟨k + 1, by omega, by go_num, fun j hj => ?_, HV.out.trans HX.out⟩
            by_cases e : j = k
            · rw [e, EZ.out]; exact faceB_yes HC.out
            · exact HA.out j (by omega)
          case measure => simp [intOf]; omega
    · have hkl : k = lf := by omega
      go_wp2_with fail
      go_ret
      exact ⟨by rw [HE.out]; exact (congrArg (fun b => Ending.returned (Value.bool b)) (all_of (p := faceB d) (fun j hj => HA.out j (by rw [H4.out] at hj; omega)))).symm, HG4.out.trans HK.out⟩
end Mt
end Go.Proofs.YtlfoglklibhbnaaGreat
namespace Go.Proofs.YtlfoglklibhbnaaGreat
open Go.RowKit
namespace Mt
def agOf (z : List Int) : Value := .agg (z.map (Value.int .i64)).toArray
theorem row_at {w : World} {a : Option Addr} {len i : Nat} {zs : List Int} (h : IsRow .i64 w a len zs) (hi : i < len) : ∃ b off, a = some ⟨b, off, none⟩ ∧ b < w.heap.size ∧ w.cell? ⟨b, off + i, none⟩ = some (.int .i64 (zs.getD i 0)) ∧ I (zs.getD i 0) := by
 obtain ⟨h1, h2, h3, h4⟩ := h
 obtain ⟨b, off, e, hc⟩ := h4 (by omega)
 exact ⟨b, off, e, lt_of_cell (hc i hi), hc i hi, I_of_wf (h3 _ (by rw [List.getD_eq_getElem?_getD, List.getElem?_eq_getElem (by omega)]; exact List.getElem_mem _))⟩
theorem rows2_op {w : World} {a : Option Addr} {len i : Nat} {zs : List (List Int)} (h : Oi.IsRows 2 w a len zs) (hi : i < len) : ∃ b off x0 x1, a = some ⟨b, off, none⟩ ∧ b < w.heap.size ∧ zs.getD i [] = [x0, x1] ∧ (I x0 ∧ I x1) ∧ w.cell? ⟨b, off + i * 2, none⟩ = some (.int .i64 x0) ∧ w.cell? ⟨b, off + i * 2 + 1, none⟩ = some (.int .i64 x1) := by
 obtain ⟨h1, h2, h3, h4⟩ := h
 obtain ⟨b, off, e, hc⟩ := h4 (by omega)
 have hm := h3 (zs.getD i []) (by rw [List.getD_eq_getElem?_getD, List.getElem?_eq_getElem (by omega)]; exact List.getElem_mem _)
 have c0 := hc i 0 hi (by omega)
 have c1 := hc i 1 hi (by omega)
 generalize zs.getD i [] = z at hm c0 c1
 obtain ⟨x0, l0, rfl, e0⟩ := Sx.cut1 hm.1
 obtain ⟨x1, l1, rfl, e1⟩ := Sx.cut1 e0
 obtain rfl := Sx.cut0 e1
 have hI := hm.2
 exact ⟨b, off, x0, x1, e, lt_of_cell c0, rfl, ⟨hI _ (by simp), hI _ (by simp)⟩, c0, c1⟩
theorem rows3_op {w : World} {a : Option Addr} {len i : Nat} {zs : List (List Int)} (h : Oi.IsRows 3 w a len zs) (hi : i < len) : ∃ b off x0 x1 x2, a = some ⟨b, off, none⟩ ∧ b < w.heap.size ∧ zs.getD i [] = [x0, x1, x2] ∧ (I x0 ∧ I x1 ∧ I x2) ∧ w.cell? ⟨b, off + i * 3, none⟩ = some (.int .i64 x0) ∧ w.cell? ⟨b, off + i * 3 + 1, none⟩ = some (.int .i64 x1) ∧ w.cell? ⟨b, off + i * 3 + 2, none⟩ = some (.int .i64 x2) := by
 obtain ⟨h1, h2, h3, h4⟩ := h
 obtain ⟨b, off, e, hc⟩ := h4 (by omega)
 have hm := h3 (zs.getD i []) (by rw [List.getD_eq_getElem?_getD, List.getElem?_eq_getElem (by omega)]; exact List.getElem_mem _)
 have c0 := hc i 0 hi (by omega)
 have c1 := hc i 1 hi (by omega)
 have c2 := hc i 2 hi (by omega)
 generalize zs.getD i [] = z at hm c0 c1 c2
 obtain ⟨x0, l0, rfl, e0⟩ := Sx.cut1 hm.1
 obtain ⟨x1, l1, rfl, e1⟩ := Sx.cut1 e0
 obtain ⟨x2, l2, rfl, e2⟩ := Sx.cut1 e1
 obtain rfl := Sx.cut0 e2
 have hI := hm.2
 exact ⟨b, off, x0, x1, x2, e, lt_of_cell c0, rfl, ⟨hI _ (by simp), hI _ (by simp), hI _ (by simp)⟩, c0, c1, c2⟩
theorem rows4_op {w : World} {a : Option Addr} {len i : Nat} {zs : List (List Int)} (h : Oi.IsRows 4 w a len zs) (hi : i < len) : ∃ b off x0 x1 x2 x3, a = some ⟨b, off, none⟩ ∧ b < w.heap.size ∧ zs.getD i [] = [x0, x1, x2, x3] ∧ (I x0 ∧ I x1 ∧ I x2 ∧ I x3) ∧ w.cell? ⟨b, off + i * 4, none⟩ = some (.int .i64 x0) ∧ w.cell? ⟨b, off + i * 4 + 1, none⟩ = some (.int .i64 x1) ∧ w.cell? ⟨b, off + i * 4 + 2, none⟩ = some (.int .i64 x2) ∧ w.cell? ⟨b, off + i * 4 + 3, none⟩ = some (.int .i64 x3) := by
 obtain ⟨h1, h2, h3, h4⟩ := h
 obtain ⟨b, off, e, hc⟩ := h4 (by omega)
 have hm := h3 (zs.getD i []) (by rw [List.getD_eq_getElem?_getD, List.getElem?_eq_getElem (by omega)]; exact List.getElem_mem _)
 have c0 := hc i 0 hi (by omega)
 have c1 := hc i 1 hi (by omega)
 have c2 := hc i 2 hi (by omega)
 have c3 := hc i 3 hi (by omega)
 generalize zs.getD i [] = z at hm c0 c1 c2 c3
 obtain ⟨x0, l0, rfl, e0⟩ := Sx.cut1 hm.1
 obtain ⟨x1, l1, rfl, e1⟩ := Sx.cut1 e0
 obtain ⟨x2, l2, rfl, e2⟩ := Sx.cut1 e1
 obtain ⟨x3, l3, rfl, e3⟩ := Sx.cut1 e2
 obtain rfl := Sx.cut0 e3
 have hI := hm.2
 exact ⟨b, off, x0, x1, x2, x3, e, lt_of_cell c0, rfl, ⟨hI _ (by simp), hI _ (by simp), hI _ (by simp), hI _ (by simp)⟩, c0, c1, c2, c3⟩
theorem rows6_op {w : World} {a : Option Addr} {len i : Nat} {zs : List (List Int)} (h : Oi.IsRows 6 w a len zs) (hi : i < len) : ∃ b off x0 x1 x2 x3 x4 x5, a = some ⟨b, off, none⟩ ∧ b < w.heap.size ∧ zs.getD i [] = [x0, x1, x2, x3, x4, x5] ∧ (I x0 ∧ I x1 ∧ I x2 ∧ I x3 ∧ I x4 ∧ I x5) ∧ w.cell? ⟨b, off + i * 6, none⟩ = some (.int .i64 x0) ∧ w.cell? ⟨b, off + i * 6 + 1, none⟩ = some (.int .i64 x1) ∧ w.cell? ⟨b, off + i * 6 + 2, none⟩ = some (.int .i64 x2) ∧ w.cell? ⟨b, off + i * 6 + 3, none⟩ = some (.int .i64 x3) ∧ w.cell? ⟨b, off + i * 6 + 4, none⟩ = some (.int .i64 x4) ∧ w.cell? ⟨b, off + i * 6 + 5, none⟩ = some (.int .i64 x5) := by
 obtain ⟨h1, h2, h3, h4⟩ := h
 obtain ⟨b, off, e, hc⟩ := h4 (by omega)
 have hm := h3 (zs.getD i []) (by rw [List.getD_eq_getElem?_getD, List.getElem?_eq_getElem (by omega)]; exact List.getElem_mem _)
 have c0 := hc i 0 hi (by omega)
 have c1 := hc i 1 hi (by omega)
 have c2 := hc i 2 hi (by omega)
 have c3 := hc i 3 hi (by omega)
 have c4 := hc i 4 hi (by omega)
 have c5 := hc i 5 hi (by omega)
 generalize zs.getD i [] = z at hm c0 c1 c2 c3 c4 c5
 obtain ⟨x0, l0, rfl, e0⟩ := Sx.cut1 hm.1
 obtain ⟨x1, l1, rfl, e1⟩ := Sx.cut1 e0
 obtain ⟨x2, l2, rfl, e2⟩ := Sx.cut1 e1
 obtain ⟨x3, l3, rfl, e3⟩ := Sx.cut1 e2
 obtain ⟨x4, l4, rfl, e4⟩ := Sx.cut1 e3
 obtain ⟨x5, l5, rfl, e5⟩ := Sx.cut1 e4
 obtain rfl := Sx.cut0 e5
 have hI := hm.2
 exact ⟨b, off, x0, x1, x2, x3, x4, x5, e, lt_of_cell c0, rfl, ⟨hI _ (by simp), hI _ (by simp), hI _ (by simp), hI _ (by simp), hI _ (by simp), hI _ (by simp)⟩, c0, c1, c2, c3, c4, c5⟩
set_option maxHeartbeats 4000000 in
set_option maxRecDepth 100000 in
theorem idx_far (R : List Int → Bool → Prop) (a : Option Addr) (len cap : Nat) (zs : List (List Int)) (w : World) (hr : Oi.IsRows 3 w a len zs) (hl : len ≤ 1000000) (hp : ∀ j, j < len → ∀ w1, Gr w w1 → Calls Tryz.prog 82 #[agOf (zs.getD j [])] w1 fun e w2 => ∃ b, e = .returned (.bool b) ∧ R (zs.getD j []) b ∧ Gr w1 w2) :
  Calls Tryz.prog 108 #[.slice a len cap, .func (.func 82) #[] #[]] w fun e w' => ∃ r : Int, e = .returned (.int .i64 r) ∧ ((r = -1 ∧ ∀ j, j < len → R (zs.getD j []) false) ∨ ∃ k : Nat, k < len ∧ r = k ∧ R (zs.getD k []) true ∧ ∀ j, j < k → R (zs.getD j []) false) ∧ Gr w w' := by
 have HR := Lib.hid hr; have HP := Lib.hid hp
 have hlen := hr.1
 clear hr hp
 go_enter Tryz.func108, Tryz.ntmps108
 go_wp2_with fail
 go_loopw [8] (fun i wr => ∃ k : Nat, k ≤ len ∧ i = .int .i64 k ∧ (∀ j, j < k → R (zs.getD j []) false) ∧ Gr w wr) (fun i _ => len - (intOf i).toNat)
 case atStart => exact ⟨0, Nat.zero_le _, rfl, fun j h => absurd h (by omega), Gr.refl _⟩
 case round =>
  obtain ⟨k, hk, rfl, hall, hg⟩ := hrel
  by_cases hlt : k < len
  ·have HG := Lib.hid hg; have HA := Lib.hid hall
   have hcall := fun w1 (g1 : Gr w w1) => HP.out k hlt w1 g1
   clear hall hg
   obtain ⟨b, off, x0, x1, x2, rfl, hbl, ez, hI, d0, d1, d2⟩ := rows3_op (HR.out.later HG.out) hlt
   rw [ez] at hcall
   have EZ := Lib.hid ez
   clear ez hI
   have HCALL := Lib.hid hcall
   clear hcall
   have hk1 : (0 : Int) ≤ (k : Int) := by omega
   go_wp2_with fail
   refine (HCALL.out _ HG.out).mono ?_
   rintro e w1 ⟨bb, rfl, hb, hg1⟩
   have HG1 := Lib.hid (HG.out.trans hg1)
   have HB := Lib.hid hb
   clear hg1 hb
   cases bb
   ·go_wp2_with fail
    go_roundw
    case rel =>
     refine ⟨k + 1, by omega, by go_num, fun j hj => ?_, HG1.out⟩
     by_cases e : j = k
     ·subst e; have hb := HB.out; exact (by rw [EZ.out]; exact hb)
     ·exact HA.out j (by omega)
    case measure => simp [intOf]; omega
   ·go_wp2_with fail
    go_ret
    exact ⟨(k : Int), rfl, .inr ⟨k, hlt, rfl, (by have hb := HB.out; exact (by rw [EZ.out]; exact hb)), HA.out⟩, HG1.out⟩
  ·have HG := Lib.hid hg; have HA := Lib.hid hall
   clear hall hg
   go_wp2_with fail
   go_ret
   exact ⟨-1, rfl, .inl ⟨rfl, fun j hj => HA.out j (by omega)⟩, HG.out⟩
set_option maxHeartbeats 4000000 in
set_option maxRecDepth 100000 in
theorem con_far (R : List Int → Bool → Prop) (a : Option Addr) (len cap : Nat) (zs : List (List Int)) (w : World) (hr : Oi.IsRows 3 w a len zs) (hl : len ≤ 1000000) (hp : ∀ j, j < len → ∀ w1, Gr w w1 → Calls Tryz.prog 82 #[agOf (zs.getD j [])] w1 fun e w2 => ∃ b, e = .returned (.bool b) ∧ R (zs.getD j []) b ∧ Gr w1 w2) :
  Calls Tryz.prog 81 #[.slice a len cap, .func (.func 82) #[] #[]] w fun e w' => ∃ b, e = .returned (.bool b) ∧ ((b = false ∧ ∀ j, j < len → R (zs.getD j []) false) ∨ (b = true ∧ ∃ k, k < len ∧ R (zs.getD k []) true ∧ ∀ j, j < k → R (zs.getD j []) false)) ∧ Gr w w' := by
 have hx := idx_far R a len cap zs w hr hl hp
 have HX := Lib.hid hx
 clear hx hr hp
 go_enter Tryz.func81, Tryz.ntmps81
 go_wp2_with fail
 refine (HX.out).mono ?_
 rintro e w1 ⟨r, rfl, hr, hg1⟩
 have HG1 := Lib.hid hg1; have HRR := Lib.hid hr
 clear hg1 HX hr
 go_wp2_with fail
 go_ret
 refine ⟨_, rfl, ?_, HG1.out⟩
 rcases HRR.out with ⟨h1, h2⟩ | ⟨k, h1, h2, h3, h4⟩
 ·exact .inl ⟨by subst h1; rfl, h2⟩
 ·exact .inr ⟨by subst h2; simp, k, h1, h3, h4⟩
set_option maxHeartbeats 4000000 in
set_option maxRecDepth 100000 in
theorem idx_podd (R : List Int → Bool → Prop) (a : Option Addr) (len cap : Nat) (zs : List (List Int)) (w : World) (hr : Oi.IsRows 2 w a len zs) (hl : len ≤ 1000000) (hp : ∀ j, j < len → ∀ w1, Gr w w1 → Calls Tryz.prog 76 #[agOf (zs.getD j [])] w1 fun e w2 => ∃ b, e = .returned (.bool b) ∧ R (zs.getD j []) b ∧ Gr w1 w2) :
  Calls Tryz.prog 61 #[.slice a len cap, .func (.func 76) #[] #[]] w fun e w' => ∃ r : Int, e = .returned (.int .i64 r) ∧ ((r = -1 ∧ ∀ j, j < len → R (zs.getD j []) false) ∨ ∃ k : Nat, k < len ∧ r = k ∧ R (zs.getD k []) true ∧ ∀ j, j < k → R (zs.getD j []) false) ∧ Gr w w' := by
 have HR := Lib.hid hr; have HP := Lib.hid hp
 have hlen := hr.1
 clear hr hp
 go_enter Tryz.func61, Tryz.ntmps61
 go_wp2_with fail
 go_loopw [8] (fun i wr => ∃ k : Nat, k ≤ len ∧ i = .int .i64 k ∧ (∀ j, j < k → R (zs.getD j []) false) ∧ Gr w wr) (fun i _ => len - (intOf i).toNat)
 case atStart => exact ⟨0, Nat.zero_le _, rfl, fun j h => absurd h (by omega), Gr.refl _⟩
 case round =>
  obtain ⟨k, hk, rfl, hall, hg⟩ := hrel
  by_cases hlt : k < len
  ·have HG := Lib.hid hg; have HA := Lib.hid hall
   have hcall := fun w1 (g1 : Gr w w1) => HP.out k hlt w1 g1
   clear hall hg
   obtain ⟨b, off, x0, x1, rfl, hbl, ez, hI, d0, d1⟩ := rows2_op (HR.out.later HG.out) hlt
   rw [ez] at hcall
   have EZ := Lib.hid ez
   clear ez hI
   have HCALL := Lib.hid hcall
   clear hcall
   have hk1 : (0 : Int) ≤ (k : Int) := by omega
   go_wp2_with fail
   refine (HCALL.out _ HG.out).mono ?_
   rintro e w1 ⟨bb, rfl, hb, hg1⟩
   have HG1 := Lib.hid (HG.out.trans hg1)
   have HB := Lib.hid hb
   clear hg1 hb
   cases bb
   ·go_wp2_with fail
    go_roundw
    case rel =>
     refine ⟨k + 1, by omega, by go_num, fun j hj => ?_, HG1.out⟩
     by_cases e : j = k
     ·subst e; have hb := HB.out; exact (by rw [EZ.out]; exact hb)
     ·exact HA.out j (by omega)
    case measure => simp [intOf]; omega
   ·go_wp2_with fail
    go_ret
    exact ⟨(k : Int), rfl, .inr ⟨k, hlt, rfl, (by have hb := HB.out; exact (by rw [EZ.out]; exact hb)), HA.out⟩, HG1.out⟩
  ·have HG := Lib.hid hg; have HA := Lib.hid hall
   clear hall hg
   go_wp2_with fail
   go_ret
   exact ⟨-1, rfl, .inl ⟨rfl, fun j hj => HA.out j (by omega)⟩, HG.out⟩
set_option maxHeartbeats 4000000 in
set_option maxRecDepth 100000 in
theorem con_podd (R : List Int → Bool → Prop) (a : Option Addr) (len cap : Nat) (zs : List (List Int)) (w : World) (hr : Oi.IsRows 2 w a len zs) (hl : len ≤ 1000000) (hp : ∀ j, j < len → ∀ w1, Gr w w1 → Calls Tryz.prog 76 #[agOf (zs.getD j [])] w1 fun e w2 => ∃ b, e = .returned (.bool b) ∧ R (zs.getD j []) b ∧ Gr w1 w2) :
  Calls Tryz.prog 31 #[.slice a len cap, .func (.func 76) #[] #[]] w fun e w' => ∃ b, e = .returned (.bool b) ∧ ((b = false ∧ ∀ j, j < len → R (zs.getD j []) false) ∨ (b = true ∧ ∃ k, k < len ∧ R (zs.getD k []) true ∧ ∀ j, j < k → R (zs.getD j []) false)) ∧ Gr w w' := by
 have hx := idx_podd R a len cap zs w hr hl hp
 have HX := Lib.hid hx
 clear hx hr hp
 go_enter Tryz.func31, Tryz.ntmps31
 go_wp2_with fail
 refine (HX.out).mono ?_
 rintro e w1 ⟨r, rfl, hr, hg1⟩
 have HG1 := Lib.hid hg1; have HRR := Lib.hid hr
 clear hg1 HX hr
 go_wp2_with fail
 go_ret
 refine ⟨_, rfl, ?_, HG1.out⟩
 rcases HRR.out with ⟨h1, h2⟩ | ⟨k, h1, h2, h3, h4⟩
 ·exact .inl ⟨by subst h1; rfl, h2⟩
 ·exact .inr ⟨by subst h2; simp, k, h1, h3, h4⟩
set_option maxHeartbeats 4000000 in
set_option maxRecDepth 100000 in
theorem idx_apt (R : List Int → Bool → Prop) (c0' : Value) (a : Option Addr) (len cap : Nat) (zs : List (List Int)) (w : World) (hr : Oi.IsRows 4 w a len zs) (hl : len ≤ 1000000) (hp : ∀ j, j < len → ∀ w1, Gr w w1 → Calls Tryz.prog 90 #[agOf (zs.getD j []), c0'] w1 fun e w2 => ∃ b, e = .returned (.bool b) ∧ R (zs.getD j []) b ∧ Gr w1 w2) :
  Calls Tryz.prog 113 #[.slice a len cap, .func (.func 90) #[] #[c0']] w fun e w' => ∃ r : Int, e = .returned (.int .i64 r) ∧ ((r = -1 ∧ ∀ j, j < len → R (zs.getD j []) false) ∨ ∃ k : Nat, k < len ∧ r = k ∧ R (zs.getD k []) true ∧ ∀ j, j < k → R (zs.getD j []) false) ∧ Gr w w' := by
 have HR := Lib.hid hr; have HP := Lib.hid hp
 have hlen := hr.1
 clear hr hp
 go_enter Tryz.func113, Tryz.ntmps113
 go_wp2_with fail
 go_loopw [8] (fun i wr => ∃ k : Nat, k ≤ len ∧ i = .int .i64 k ∧ (∀ j, j < k → R (zs.getD j []) false) ∧ Gr w wr) (fun i _ => len - (intOf i).toNat)
 case atStart => exact ⟨0, Nat.zero_le _, rfl, fun j h => absurd h (by omega), Gr.refl _⟩
 case round =>
  obtain ⟨k, hk, rfl, hall, hg⟩ := hrel
  by_cases hlt : k < len
  ·have HG := Lib.hid hg; have HA := Lib.hid hall
   have hcall := fun w1 (g1 : Gr w w1) => HP.out k hlt w1 g1
   clear hall hg
   obtain ⟨b, off, x0, x1, x2, x3, rfl, hbl, ez, hI, d0, d1, d2, d3⟩ := rows4_op (HR.out.later HG.out) hlt
   rw [ez] at hcall
   have EZ := Lib.hid ez
   clear ez hI
   have HCALL := Lib.hid hcall
   clear hcall
   have hk1 : (0 : Int) ≤ (k : Int) := by omega
   go_wp2_with fail
   refine (HCALL.out _ HG.out).mono ?_
   rintro e w1 ⟨bb, rfl, hb, hg1⟩
   have HG1 := Lib.hid (HG.out.trans hg1)
   have HB := Lib.hid hb
   clear hg1 hb
   cases bb
   ·go_wp2_with fail
    go_roundw
    case rel =>
     refine ⟨k + 1, by omega, by go_num, fun j hj => ?_, HG1.out⟩
     by_cases e : j = k
     ·subst e; have hb := HB.out; exact (by rw [EZ.out]; exact hb)
     ·exact HA.out j (by omega)
    case measure => simp [intOf]; omega
   ·go_wp2_with fail
    go_ret
    exact ⟨(k : Int), rfl, .inr ⟨k, hlt, rfl, (by have hb := HB.out; exact (by rw [EZ.out]; exact hb)), HA.out⟩, HG1.out⟩
  ·have HG := Lib.hid hg; have HA := Lib.hid hall
   clear hall hg
   go_wp2_with fail
   go_ret
   exact ⟨-1, rfl, .inl ⟨rfl, fun j hj => HA.out j (by omega)⟩, HG.out⟩
set_option maxHeartbeats 4000000 in
set_option maxRecDepth 100000 in
theorem con_apt (R : List Int → Bool → Prop) (c0' : Value) (a : Option Addr) (len cap : Nat) (zs : List (List Int)) (w : World) (hr : Oi.IsRows 4 w a len zs) (hl : len ≤ 1000000) (hp : ∀ j, j < len → ∀ w1, Gr w w1 → Calls Tryz.prog 90 #[agOf (zs.getD j []), c0'] w1 fun e w2 => ∃ b, e = .returned (.bool b) ∧ R (zs.getD j []) b ∧ Gr w1 w2) :
  Calls Tryz.prog 89 #[.slice a len cap, .func (.func 90) #[] #[c0']] w fun e w' => ∃ b, e = .returned (.bool b) ∧ ((b = false ∧ ∀ j, j < len → R (zs.getD j []) false) ∨ (b = true ∧ ∃ k, k < len ∧ R (zs.getD k []) true ∧ ∀ j, j < k → R (zs.getD j []) false)) ∧ Gr w w' := by
 have hx := idx_apt R c0' a len cap zs w hr hl hp
 have HX := Lib.hid hx
 clear hx hr hp
 go_enter Tryz.func89, Tryz.ntmps89
 go_wp2_with fail
 refine (HX.out).mono ?_
 rintro e w1 ⟨r, rfl, hr, hg1⟩
 have HG1 := Lib.hid hg1; have HRR := Lib.hid hr
 clear hg1 HX hr
 go_wp2_with fail
 go_ret
 refine ⟨_, rfl, ?_, HG1.out⟩
 rcases HRR.out with ⟨h1, h2⟩ | ⟨k, h1, h2, h3, h4⟩
 ·exact .inl ⟨by subst h1; rfl, h2⟩
 ·exact .inr ⟨by subst h2; simp, k, h1, h3, h4⟩
set_option maxHeartbeats 4000000 in
set_option maxRecDepth 100000 in
theorem idx_fodd (R : List Int → Bool → Prop) (a : Option Addr) (len cap : Nat) (zs : List (List Int)) (w : World) (hr : Oi.IsRows 6 w a len zs) (hl : len ≤ 1000000) (hp : ∀ j, j < len → ∀ w1, Gr w w1 → Calls Tryz.prog 92 #[agOf (zs.getD j [])] w1 fun e w2 => ∃ b, e = .returned (.bool b) ∧ R (zs.getD j []) b ∧ Gr w1 w2) :
  Calls Tryz.prog 116 #[.slice a len cap, .func (.func 92) #[] #[]] w fun e w' => ∃ r : Int, e = .returned (.int .i64 r) ∧ ((r = -1 ∧ ∀ j, j < len → R (zs.getD j []) false) ∨ ∃ k : Nat, k < len ∧ r = k ∧ R (zs.getD k []) true ∧ ∀ j, j < k → R (zs.getD j []) false) ∧ Gr w w' := by
 have HR := Lib.hid hr; have HP := Lib.hid hp
 have hlen := hr.1
 clear hr hp
 go_enter Tryz.func116, Tryz.ntmps116
 go_wp2_with fail
 go_loopw [8] (fun i wr => ∃ k : Nat, k ≤ len ∧ i = .int .i64 k ∧ (∀ j, j < k → R (zs.getD j []) false) ∧ Gr w wr) (fun i _ => len - (intOf i).toNat)
 case atStart => exact ⟨0, Nat.zero_le _, rfl, fun j h => absurd h (by omega), Gr.refl _⟩
 case round =>
  obtain ⟨k, hk, rfl, hall, hg⟩ := hrel
  by_cases hlt : k < len
  ·have HG := Lib.hid hg; have HA := Lib.hid hall
   have hcall := fun w1 (g1 : Gr w w1) => HP.out k hlt w1 g1
   clear hall hg
   obtain ⟨b, off, x0, x1, x2, x3, x4, x5, rfl, hbl, ez, hI, d0, d1, d2, d3, d4, d5⟩ := rows6_op (HR.out.later HG.out) hlt
   rw [ez] at hcall
   have EZ := Lib.hid ez
   clear ez hI
   have HCALL := Lib.hid hcall
   clear hcall
   have hk1 : (0 : Int) ≤ (k : Int) := by omega
   go_wp2_with fail
   refine (HCALL.out _ HG.out).mono ?_
   rintro e w1 ⟨bb, rfl, hb, hg1⟩
   have HG1 := Lib.hid (HG.out.trans hg1)
   have HB := Lib.hid hb
   clear hg1 hb
   cases bb
   ·go_wp2_with fail
    go_roundw
    case rel =>
     refine ⟨k + 1, by omega, by go_num, fun j hj => ?_, HG1.out⟩
     by_cases e : j = k
     ·subst e; have hb := HB.out; exact (by rw [EZ.out]; exact hb)
     ·exact HA.out j (by omega)
    case measure => simp [intOf]; omega
   ·go_wp2_with fail
    go_ret
    exact ⟨(k : Int), rfl, .inr ⟨k, hlt, rfl, (by have hb := HB.out; exact (by rw [EZ.out]; exact hb)), HA.out⟩, HG1.out⟩
  ·have HG := Lib.hid hg; have HA := Lib.hid hall
   clear hall hg
   go_wp2_with fail
   go_ret
   exact ⟨-1, rfl, .inl ⟨rfl, fun j hj => HA.out j (by omega)⟩, HG.out⟩
set_option maxHeartbeats 4000000 in
set_option maxRecDepth 100000 in
theorem con_fodd (R : List Int → Bool → Prop) (a : Option Addr) (len cap : Nat) (zs : List (List Int)) (w : World) (hr : Oi.IsRows 6 w a len zs) (hl : len ≤ 1000000) (hp : ∀ j, j < len → ∀ w1, Gr w w1 → Calls Tryz.prog 92 #[agOf (zs.getD j [])] w1 fun e w2 => ∃ b, e = .returned (.bool b) ∧ R (zs.getD j []) b ∧ Gr w1 w2) :
  Calls Tryz.prog 93 #[.slice a len cap, .func (.func 92) #[] #[]] w fun e w' => ∃ b, e = .returned (.bool b) ∧ ((b = false ∧ ∀ j, j < len → R (zs.getD j []) false) ∨ (b = true ∧ ∃ k, k < len ∧ R (zs.getD k []) true ∧ ∀ j, j < k → R (zs.getD j []) false)) ∧ Gr w w' := by
 have hx := idx_fodd R a len cap zs w hr hl hp
 have HX := Lib.hid hx
 clear hx hr hp
 go_enter Tryz.func93, Tryz.ntmps93
 go_wp2_with fail
 refine (HX.out).mono ?_
 rintro e w1 ⟨r, rfl, hr, hg1⟩
 have HG1 := Lib.hid hg1; have HRR := Lib.hid hr
 clear hg1 HX hr
 go_wp2_with fail
 go_ret
 refine ⟨_, rfl, ?_, HG1.out⟩
 rcases HRR.out with ⟨h1, h2⟩ | ⟨k, h1, h2, h3, h4⟩
 ·exact .inl ⟨by subst h1; rfl, h2⟩
 ·exact .inr ⟨by subst h2; simp, k, h1, h3, h4⟩
end Mt
end Go.Proofs.YtlfoglklibhbnaaGreat
namespace Go.Proofs.YtlfoglklibhbnaaGreat
open Go.RowKit
namespace Mt
set_option maxHeartbeats 4000000 in
set_option maxRecDepth 100000 in
theorem idx_ov (R : Int → Bool → Prop) (c0' c1' : Value) (a : Option Addr) (len cap : Nat) (zs : List Int) (w : World) (hr : IsRow .i64 w a len zs) (hl : len ≤ 1000000) (hp : ∀ j, j < len → ∀ w1, Gr w w1 → Calls Tryz.prog 66 #[.int .i64 (zs.getD j 0), c0', c1'] w1 fun e w2 => ∃ b, e = .returned (.bool b) ∧ R (zs.getD j 0) b ∧ Gr w1 w2) :
  Calls Tryz.prog 35 #[.slice a len cap, .func (.func 66) #[] #[c0', c1']] w fun e w' => ∃ r : Int, e = .returned (.int .i64 r) ∧ ((r = -1 ∧ ∀ j, j < len → R (zs.getD j 0) false) ∨ ∃ k : Nat, k < len ∧ r = k ∧ R (zs.getD k 0) true ∧ ∀ j, j < k → R (zs.getD j 0) false) ∧ Gr w w' := by
 have HR := Lib.hid hr; have HP := Lib.hid hp
 have hlen := hr.1
 clear hr hp
 go_enter Tryz.func35, Tryz.ntmps35
 go_wp2_with fail
 go_loopw [8] (fun i wr => ∃ k : Nat, k ≤ len ∧ i = .int .i64 k ∧ (∀ j, j < k → R (zs.getD j 0) false) ∧ Gr w wr) (fun i _ => len - (intOf i).toNat)
 case atStart => exact ⟨0, Nat.zero_le _, rfl, fun j h => absurd h (by omega), Gr.refl _⟩
 case round =>
  obtain ⟨k, hk, rfl, hall, hg⟩ := hrel
  by_cases hlt : k < len
  ·have HG := Lib.hid hg; have HA := Lib.hid hall
   have hcall := fun w1 (g1 : Gr w w1) => HP.out k hlt w1 g1
   clear hall hg
   obtain ⟨b, off, rfl, hbl, d0, hI⟩ := row_at (HR.out.later HG.out) hlt
   clear hI
   obtain ⟨z, hz⟩ : ∃ z, zs.getD k 0 = z := ⟨_, rfl⟩
   rw [hz] at hcall d0
   have EZ := Lib.hid hz
   clear hz
   have HCALL := Lib.hid hcall
   clear hcall
   have hk1 : (0 : Int) ≤ (k : Int) := by omega
   go_wp2_with fail
   refine (HCALL.out _ HG.out).mono ?_
   rintro e w1 ⟨bb, rfl, hb, hg1⟩
   have HG1 := Lib.hid (HG.out.trans hg1)
   have HB := Lib.hid hb
   clear hg1 hb
   cases bb
   ·go_wp2_with fail
    go_roundw
    case rel =>
     refine ⟨k + 1, by omega, by go_num, fun j hj => ?_, HG1.out⟩
     by_cases e : j = k
     ·subst e; have hb := HB.out; exact (by rw [EZ.out]; exact hb)
     ·exact HA.out j (by omega)
    case measure => simp [intOf]; omega
   ·go_wp2_with fail
    go_ret
    exact ⟨(k : Int), rfl, .inr ⟨k, hlt, rfl, (by have hb := HB.out; exact (by rw [EZ.out]; exact hb)), HA.out⟩, HG1.out⟩
  ·have HG := Lib.hid hg; have HA := Lib.hid hall
   clear hall hg
   go_wp2_with fail
   go_ret
   exact ⟨-1, rfl, .inl ⟨rfl, fun j hj => HA.out j (by omega)⟩, HG.out⟩
set_option maxHeartbeats 4000000 in
set_option maxRecDepth 100000 in
theorem con_ov (R : Int → Bool → Prop) (c0' c1' : Value) (a : Option Addr) (len cap : Nat) (zs : List Int) (w : World) (hr : IsRow .i64 w a len zs) (hl : len ≤ 1000000) (hp : ∀ j, j < len → ∀ w1, Gr w w1 → Calls Tryz.prog 66 #[.int .i64 (zs.getD j 0), c0', c1'] w1 fun e w2 => ∃ b, e = .returned (.bool b) ∧ R (zs.getD j 0) b ∧ Gr w1 w2) :
  Calls Tryz.prog 68 #[.slice a len cap, .func (.func 66) #[] #[c0', c1']] w fun e w' => ∃ b, e = .returned (.bool b) ∧ ((b = false ∧ ∀ j, j < len → R (zs.getD j 0) false) ∨ (b = true ∧ ∃ k, k < len ∧ R (zs.getD k 0) true ∧ ∀ j, j < k → R (zs.getD j 0) false)) ∧ Gr w w' := by
 have hx := idx_ov R c0' c1' a len cap zs w hr hl hp
 have HX := Lib.hid hx
 clear hx hr hp
 go_enter Tryz.func68, Tryz.ntmps68
 go_wp2_with fail
 refine (HX.out).mono ?_
 rintro e w1 ⟨r, rfl, hr, hg1⟩
 have HG1 := Lib.hid hg1; have HRR := Lib.hid hr
 clear hg1 HX hr
 go_wp2_with fail
 go_ret
 refine ⟨_, rfl, ?_, HG1.out⟩
 rcases HRR.out with ⟨h1, h2⟩ | ⟨k, h1, h2, h3, h4⟩
 ·exact .inl ⟨by subst h1; rfl, h2⟩
 ·exact .inr ⟨by subst h2; simp, k, h1, h3, h4⟩
set_option maxHeartbeats 4000000 in
set_option maxRecDepth 100000 in
theorem idx_nb (R : Int → Bool → Prop) (c0' : Value) (a : Option Addr) (len cap : Nat) (zs : List Int) (w : World) (hr : IsRow .i64 w a len zs) (hl : len ≤ 1000000) (hp : ∀ j, j < len → ∀ w1, Gr w w1 → Calls Tryz.prog 70 #[.int .i64 (zs.getD j 0), c0'] w1 fun e w2 => ∃ b, e = .returned (.bool b) ∧ R (zs.getD j 0) b ∧ Gr w1 w2) :
  Calls Tryz.prog 35 #[.slice a len cap, .func (.func 70) #[] #[c0']] w fun e w' => ∃ r : Int, e = .returned (.int .i64 r) ∧ ((r = -1 ∧ ∀ j, j < len → R (zs.getD j 0) false) ∨ ∃ k : Nat, k < len ∧ r = k ∧ R (zs.getD k 0) true ∧ ∀ j, j < k → R (zs.getD j 0) false) ∧ Gr w w' := by
 have HR := Lib.hid hr; have HP := Lib.hid hp
 have hlen := hr.1
 clear hr hp
 go_enter Tryz.func35, Tryz.ntmps35
 go_wp2_with fail
 go_loopw [8] (fun i wr => ∃ k : Nat, k ≤ len ∧ i = .int .i64 k ∧ (∀ j, j < k → R (zs.getD j 0) false) ∧ Gr w wr) (fun i _ => len - (intOf i).toNat)
 case atStart => exact ⟨0, Nat.zero_le _, rfl, fun j h => absurd h (by omega), Gr.refl _⟩
 case round =>
  obtain ⟨k, hk, rfl, hall, hg⟩ := hrel
  by_cases hlt : k < len
  ·have HG := Lib.hid hg; have HA := Lib.hid hall
   have hcall := fun w1 (g1 : Gr w w1) => HP.out k hlt w1 g1
   clear hall hg
   obtain ⟨b, off, rfl, hbl, d0, hI⟩ := row_at (HR.out.later HG.out) hlt
   clear hI
   obtain ⟨z, hz⟩ : ∃ z, zs.getD k 0 = z := ⟨_, rfl⟩
   rw [hz] at hcall d0
   have EZ := Lib.hid hz
   clear hz
   have HCALL := Lib.hid hcall
   clear hcall
   have hk1 : (0 : Int) ≤ (k : Int) := by omega
   go_wp2_with fail
   refine (HCALL.out _ HG.out).mono ?_
   rintro e w1 ⟨bb, rfl, hb, hg1⟩
   have HG1 := Lib.hid (HG.out.trans hg1)
   have HB := Lib.hid hb
   clear hg1 hb
   cases bb
   ·go_wp2_with fail
    go_roundw
    case rel =>
     refine ⟨k + 1, by omega, by go_num, fun j hj => ?_, HG1.out⟩
     by_cases e : j = k
     ·subst e; have hb := HB.out; exact (by rw [EZ.out]; exact hb)
     ·exact HA.out j (by omega)
    case measure => simp [intOf]; omega
   ·go_wp2_with fail
    go_ret
    exact ⟨(k : Int), rfl, .inr ⟨k, hlt, rfl, (by have hb := HB.out; exact (by rw [EZ.out]; exact hb)), HA.out⟩, HG1.out⟩
  ·have HG := Lib.hid hg; have HA := Lib.hid hall
   clear hall hg
   go_wp2_with fail
   go_ret
   exact ⟨-1, rfl, .inl ⟨rfl, fun j hj => HA.out j (by omega)⟩, HG.out⟩
set_option maxHeartbeats 4000000 in
set_option maxRecDepth 100000 in
theorem con_nb (R : Int → Bool → Prop) (c0' : Value) (a : Option Addr) (len cap : Nat) (zs : List Int) (w : World) (hr : IsRow .i64 w a len zs) (hl : len ≤ 1000000) (hp : ∀ j, j < len → ∀ w1, Gr w w1 → Calls Tryz.prog 70 #[.int .i64 (zs.getD j 0), c0'] w1 fun e w2 => ∃ b, e = .returned (.bool b) ∧ R (zs.getD j 0) b ∧ Gr w1 w2) :
  Calls Tryz.prog 68 #[.slice a len cap, .func (.func 70) #[] #[c0']] w fun e w' => ∃ b, e = .returned (.bool b) ∧ ((b = false ∧ ∀ j, j < len → R (zs.getD j 0) false) ∨ (b = true ∧ ∃ k, k < len ∧ R (zs.getD k 0) true ∧ ∀ j, j < k → R (zs.getD j 0) false)) ∧ Gr w w' := by
 have hx := idx_nb R c0' a len cap zs w hr hl hp
 have HX := Lib.hid hx
 clear hx hr hp
 go_enter Tryz.func68, Tryz.ntmps68
 go_wp2_with fail
 refine (HX.out).mono ?_
 rintro e w1 ⟨r, rfl, hr, hg1⟩
 have HG1 := Lib.hid hg1; have HRR := Lib.hid hr
 clear hg1 HX hr
 go_wp2_with fail
 go_ret
 refine ⟨_, rfl, ?_, HG1.out⟩
 rcases HRR.out with ⟨h1, h2⟩ | ⟨k, h1, h2, h3, h4⟩
 ·exact .inl ⟨by subst h1; rfl, h2⟩
 ·exact .inr ⟨by subst h2; simp, k, h1, h3, h4⟩
set_option maxHeartbeats 4000000 in
set_option maxRecDepth 100000 in
theorem idx_fit (R : Int → Bool → Prop) (p0 : Value) (a : Option Addr) (len cap : Nat) (zs : List Int) (w : World) (hr : IsRow .i64 w a len zs) (hl : len ≤ 1000000) (hp : ∀ j, j < len → ∀ w1, Gr w w1 → Calls Tryz.prog 36 #[p0, .int .i64 (zs.getD j 0)] w1 fun e w2 => ∃ b, e = .returned (.bool b) ∧ R (zs.getD j 0) b ∧ Gr w1 w2) :
  Calls Tryz.prog 35 #[.slice a len cap, .func (.func 36) #[p0] #[]] w fun e w' => ∃ r : Int, e = .returned (.int .i64 r) ∧ ((r = -1 ∧ ∀ j, j < len → R (zs.getD j 0) false) ∨ ∃ k : Nat, k < len ∧ r = k ∧ R (zs.getD k 0) true ∧ ∀ j, j < k → R (zs.getD j 0) false) ∧ Gr w w' := by
 have HR := Lib.hid hr; have HP := Lib.hid hp
 have hlen := hr.1
 clear hr hp
 go_enter Tryz.func35, Tryz.ntmps35
 go_wp2_with fail
 go_loopw [8] (fun i wr => ∃ k : Nat, k ≤ len ∧ i = .int .i64 k ∧ (∀ j, j < k → R (zs.getD j 0) false) ∧ Gr w wr) (fun i _ => len - (intOf i).toNat)
 case atStart => exact ⟨0, Nat.zero_le _, rfl, fun j h => absurd h (by omega), Gr.refl _⟩
 case round =>
  obtain ⟨k, hk, rfl, hall, hg⟩ := hrel
  by_cases hlt : k < len
  ·have HG := Lib.hid hg; have HA := Lib.hid hall
   have hcall := fun w1 (g1 : Gr w w1) => HP.out k hlt w1 g1
   clear hall hg
   obtain ⟨b, off, rfl, hbl, d0, hI⟩ := row_at (HR.out.later HG.out) hlt
   clear hI
   obtain ⟨z, hz⟩ : ∃ z, zs.getD k 0 = z := ⟨_, rfl⟩
   rw [hz] at hcall d0
   have EZ := Lib.hid hz
   clear hz
   have HCALL := Lib.hid hcall
   clear hcall
   have hk1 : (0 : Int) ≤ (k : Int) := by omega
   go_wp2_with fail
   refine (HCALL.out _ HG.out).mono ?_
   rintro e w1 ⟨bb, rfl, hb, hg1⟩
   have HG1 := Lib.hid (HG.out.trans hg1)
   have HB := Lib.hid hb
   clear hg1 hb
   cases bb
   ·go_wp2_with fail
    go_roundw
    case rel =>
     refine ⟨k + 1, by omega, by go_num, fun j hj => ?_, HG1.out⟩
     by_cases e : j = k
     ·subst e; have hb := HB.out; exact (by rw [EZ.out]; exact hb)
     ·exact HA.out j (by omega)
    case measure => simp [intOf]; omega
   ·go_wp2_with fail
    go_ret
    exact ⟨(k : Int), rfl, .inr ⟨k, hlt, rfl, (by have hb := HB.out; exact (by rw [EZ.out]; exact hb)), HA.out⟩, HG1.out⟩
  ·have HG := Lib.hid hg; have HA := Lib.hid hall
   clear hall hg
   go_wp2_with fail
   go_ret
   exact ⟨-1, rfl, .inl ⟨rfl, fun j hj => HA.out j (by omega)⟩, HG.out⟩
end Mt
end Go.Proofs.YtlfoglklibhbnaaGreat
