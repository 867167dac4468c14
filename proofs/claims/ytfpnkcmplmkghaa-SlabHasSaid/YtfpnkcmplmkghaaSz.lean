/- The box of a row of points: package slab's Of. -/
import Derived.Test.YtfpnkcmplmkghaaSy
import Derived.Deep.RegionHeld3
import Derived.Deep.DeepCutAuto
import Derived.Deep.CutBlock
import Derived.Deep.DrawnRows
set_option linter.unusedVariables false
set_option linter.unusedSimpArgs false
namespace Go.Proofs.Ytfpnkcmplmkghaa
open Go.RowKit
namespace Sz
open Sy
attribute [local go_sem ↓] Go.wp_at_zero Go.wp_at_succ
def mnk (zs : List (List Int)) (j k : Nat) : Int := (zs.take k).foldl (fun m z => min m (z.getD j 0)) ((zs.getD 0 []).getD j 0)
def mxk (zs : List (List Int)) (j k : Nat) : Int := (zs.take k).foldl (fun m z => max m (z.getD j 0)) ((zs.getD 0 []).getD j 0)
theorem mnk_succ (zs : List (List Int)) (j k : Nat) (h : k < zs.length) : mnk zs j (k + 1) = min (mnk zs j k) ((zs.getD k []).getD j 0) := by
  unfold mnk
  rw [List.take_succ_eq_append_getElem h, List.foldl_append]
  simp [List.getD, List.getElem?_eq_getElem h]
theorem mxk_succ (zs : List (List Int)) (j k : Nat) (h : k < zs.length) : mxk zs j (k + 1) = max (mxk zs j k) ((zs.getD k []).getD j 0) := by
  unfold mxk
  rw [List.take_succ_eq_append_getElem h, List.foldl_append]
  simp [List.getD, List.getElem?_eq_getElem h]
theorem mnk_zero (zs : List (List Int)) (j : Nat) : mnk zs j 0 = (zs.getD 0 []).getD j 0 := rfl
theorem mxk_zero (zs : List (List Int)) (j : Nat) : mxk zs j 0 = (zs.getD 0 []).getD j 0 := rfl
theorem mnk_one (zs : List (List Int)) (j : Nat) (h : 0 < zs.length) : mnk zs j 1 = (zs.getD 0 []).getD j 0 := by rw [mnk_succ zs j 0 h, mnk_zero]; omega
theorem mxk_one (zs : List (List Int)) (j : Nat) (h : 0 < zs.length) : mxk zs j 1 = (zs.getD 0 []).getD j 0 := by rw [mxk_succ zs j 0 h, mxk_zero]; omega
/-- What both answer: the box's numbers, and the error. -/
def oe (zs : List (List Int)) : Int := if zs.length = 0 then 1 else if smallL zs then 0 else 5
def ob (zs : List (List Int)) : List Int := if oe zs = 0 then [mnk zs 0 zs.length, mnk zs 1 zs.length, mnk zs 2 zs.length, mxk zs 0 zs.length, mxk zs 1 zs.length, mxk zs 2 zs.length] else [0, 0, 0, 0, 0, 0]
def obV (zs : List (List Int)) : Value := .agg ((ob zs).map (Value.int .i64)).toArray
theorem parts_any (x y z : Int) (w : World) :
    Calls Try.prog 99 #[.agg #[.int .i64 x, .int .i64 y, .int .i64 z]] w fun e w' => e = .returned (.agg #[.int .i64 x, .int .i64 y, .int .i64 z]) ∧
      (w.alloc (.cells #[.int .i64 x, .int .i64 y, .int .i64 z] 29)).alloc (.cells #[.int .i64 x, .int .i64 y, .int .i64 z] 93) = w' := by
  go_enter Try.func99, Try.ntmps99
  go_wp2
  exact bodyPost_ret (v := .agg #[.int .i64 x, .int .i64 y, .int .i64 z]) (by simp [results, Try.results99, go_sem]) rfl ⟨rfl, rfl⟩
theorem point_any (x y z : Int) (w : World) :
    Calls Try.prog 100 #[.agg #[.int .i64 x, .int .i64 y, .int .i64 z]] w fun e w' => e = .returned (.agg #[.int .i64 x, .int .i64 y, .int .i64 z]) ∧
      (w.alloc (.cells #[.int .i64 x, .int .i64 y, .int .i64 z] 93)).alloc (.cells #[.int .i64 x, .int .i64 y, .int .i64 z] 29) = w' := by
  go_enter Try.func100, Try.ntmps100
  go_wp2
  exact bodyPost_ret (v := .agg #[.int .i64 x, .int .i64 y, .int .i64 z]) (by simp [results, Try.results100, go_sem]) rfl ⟨rfl, rfl⟩
theorem set6 {w : World} {b : Nat} {v0 v1 v2 v3 v4 v5 : Value} (h : Blk w b [v0, v1, v2, v3, v4, v5]) (u0 u1 u2 u3 u4 u5 : Value) :
    Blk ((((((w.setCell ⟨b, 0, none⟩ u0).setCell ⟨b, 1, none⟩ u1).setCell ⟨b, 2, none⟩ u2).setCell ⟨b, 3, none⟩ u3).setCell ⟨b, 4, none⟩ u4).setCell ⟨b, 5, none⟩ u5) b [u0, u1, u2, u3, u4, u5] :=
  (((((h.set 0 rfl).set 1 rfl).set 2 rfl).set 3 rfl).set 4 rfl).set 5 rfl
theorem gr6 {w0 w : World} {b : Nat} (h : Gr w0 w) (hb : w0.heap.size ≤ b) (u0 u1 u2 u3 u4 u5 : Value) :
    Gr w0 ((((((w.setCell ⟨b, 0, none⟩ u0).setCell ⟨b, 1, none⟩ u1).setCell ⟨b, 2, none⟩ u2).setCell ⟨b, 3, none⟩ u3).setCell ⟨b, 4, none⟩ u4).setCell ⟨b, 5, none⟩ u5) :=
  ((((((h.setCell (p := ⟨b, 0, none⟩) hb _).setCell (p := ⟨b, 1, none⟩) hb _).setCell (p := ⟨b, 2, none⟩) hb _).setCell (p := ⟨b, 3, none⟩) hb _).setCell (p := ⟨b, 4, none⟩) hb _).setCell (p := ⟨b, 5, none⟩) hb _)
theorem cells6 {w : World} {b : Nat} {v0 v1 v2 v3 v4 v5 : Value} (h : Blk w b [v0, v1, v2, v3, v4, v5]) : w.cell? ⟨b, 0, none⟩ = some v0 ∧ w.cell? ⟨b, 1, none⟩ = some v1 ∧ w.cell? ⟨b, 2, none⟩ = some v2 ∧ w.cell? ⟨b, 3, none⟩ = some v3 ∧ w.cell? ⟨b, 4, none⟩ = some v4 ∧ w.cell? ⟨b, 5, none⟩ = some v5 :=
  ⟨h.cell 0 rfl, h.cell 1 rfl, h.cell 2 rfl, h.cell 3 rfl, h.cell 4 rfl, h.cell 5 rfl⟩
theorem frees6 {w : World} {b : Nat} {v0 v1 v2 v3 v4 v5 : Value} (h : Blk w b [v0, v1, v2, v3, v4, v5]) : w.frozen? ⟨b, 0, none⟩ = false ∧ w.frozen? ⟨b, 1, none⟩ = false ∧ w.frozen? ⟨b, 2, none⟩ = false ∧ w.frozen? ⟨b, 3, none⟩ = false ∧ w.frozen? ⟨b, 4, none⟩ = false ∧ w.frozen? ⟨b, 5, none⟩ = false :=
  ⟨h.free 0 rfl, h.free 1 rfl, h.free 2 rfl, h.free 3 rfl, h.free 4 rfl, h.free 5 rfl⟩
def Res6 (w : World) (r : Nat) : Prop := ∃ v0 v1 v2 v3 v4 v5, Blk w r [v0, v1, v2, v3, v4, v5]
theorem SK.gr {w : World} {r p q : Nat} {a b c d e f : Value} {x y : World} (h : (Gr w x ∧ Res6 x r) ∧ x.cell? ⟨p, 0, none⟩ = some a ∧ x.cell? ⟨p, 1, none⟩ = some b ∧ x.cell? ⟨p, 2, none⟩ = some c ∧ x.cell? ⟨q, 0, none⟩ = some d ∧ x.cell? ⟨q, 1, none⟩ = some e ∧ x.cell? ⟨q, 2, none⟩ = some f) (g : Gr x y) :
    (Gr w y ∧ Res6 y r) ∧ y.cell? ⟨p, 0, none⟩ = some a ∧ y.cell? ⟨p, 1, none⟩ = some b ∧ y.cell? ⟨p, 2, none⟩ = some c ∧ y.cell? ⟨q, 0, none⟩ = some d ∧ y.cell? ⟨q, 1, none⟩ = some e ∧ y.cell? ⟨q, 2, none⟩ = some f := by
  obtain ⟨⟨h1, v0, v1, v2, v3, v4, v5, h2⟩, h3, h4, h5, h6, h7, h8⟩ := h
  exact ⟨⟨h1.trans g, v0, v1, v2, v3, v4, v5, h2.gr g⟩, (g.cell (lt_of_cell h3)).trans h3, (g.cell (lt_of_cell h4)).trans h4, (g.cell (lt_of_cell h5)).trans h5, (g.cell (lt_of_cell h6)).trans h6, (g.cell (lt_of_cell h7)).trans h7, (g.cell (lt_of_cell h8)).trans h8⟩
theorem far6 {w : World} {r k i : Nat} {a : Value} (h : w.cell? ⟨k, i, none⟩ = some a) (hk : r ≠ k) (u0 u1 u2 u3 u4 u5 : Value) :
    ((((((w.setCell ⟨r, 0, none⟩ u0).setCell ⟨r, 1, none⟩ u1).setCell ⟨r, 2, none⟩ u2).setCell ⟨r, 3, none⟩ u3).setCell ⟨r, 4, none⟩ u4).setCell ⟨r, 5, none⟩ u5).cell? ⟨k, i, none⟩ = some a := by
  rw [World.cell?_setCell_far _ _ _ _ hk, World.cell?_setCell_far _ _ _ _ hk, World.cell?_setCell_far _ _ _ _ hk, World.cell?_setCell_far _ _ _ _ hk, World.cell?_setCell_far _ _ _ _ hk, World.cell?_setCell_far _ _ _ _ hk, h]
theorem SK.drew {w : World} {r p q : Nat} {a b c d e f : Value} {x : World} (h : (Gr w x ∧ Res6 x r) ∧ x.cell? ⟨p, 0, none⟩ = some a ∧ x.cell? ⟨p, 1, none⟩ = some b ∧ x.cell? ⟨p, 2, none⟩ = some c ∧ x.cell? ⟨q, 0, none⟩ = some d ∧ x.cell? ⟨q, 1, none⟩ = some e ∧ x.cell? ⟨q, 2, none⟩ = some f) : (Gr w x.drew ∧ Res6 x.drew r) ∧ x.drew.cell? ⟨p, 0, none⟩ = some a ∧ x.drew.cell? ⟨p, 1, none⟩ = some b ∧ x.drew.cell? ⟨p, 2, none⟩ = some c ∧ x.drew.cell? ⟨q, 0, none⟩ = some d ∧ x.drew.cell? ⟨q, 1, none⟩ = some e ∧ x.drew.cell? ⟨q, 2, none⟩ = some f := SK.gr h (Gr.refl _).drew
theorem SK.set {w : World} {r p q : Nat} {a b c d e f : Value} {x : World} {u0 u1 u2 u3 u4 u5 : Value} (h : (Gr w x ∧ Res6 x r) ∧ x.cell? ⟨p, 0, none⟩ = some a ∧ x.cell? ⟨p, 1, none⟩ = some b ∧ x.cell? ⟨p, 2, none⟩ = some c ∧ x.cell? ⟨q, 0, none⟩ = some d ∧ x.cell? ⟨q, 1, none⟩ = some e ∧ x.cell? ⟨q, 2, none⟩ = some f) (hr : w.heap.size ≤ r) (hp : r ≠ p) (hq : r ≠ q) :
    (Gr w ((((((x.setCell ⟨r, 0, none⟩ u0).setCell ⟨r, 1, none⟩ u1).setCell ⟨r, 2, none⟩ u2).setCell ⟨r, 3, none⟩ u3).setCell ⟨r, 4, none⟩ u4).setCell ⟨r, 5, none⟩ u5) ∧ Res6 ((((((x.setCell ⟨r, 0, none⟩ u0).setCell ⟨r, 1, none⟩ u1).setCell ⟨r, 2, none⟩ u2).setCell ⟨r, 3, none⟩ u3).setCell ⟨r, 4, none⟩ u4).setCell ⟨r, 5, none⟩ u5) r) ∧ ((((((x.setCell ⟨r, 0, none⟩ u0).setCell ⟨r, 1, none⟩ u1).setCell ⟨r, 2, none⟩ u2).setCell ⟨r, 3, none⟩ u3).setCell ⟨r, 4, none⟩ u4).setCell ⟨r, 5, none⟩ u5).cell? ⟨p, 0, none⟩ = some a ∧ ((((((x.setCell ⟨r, 0, none⟩ u0).setCell ⟨r, 1, none⟩ u1).setCell ⟨r, 2, none⟩ u2).setCell ⟨r, 3, none⟩ u3).setCell ⟨r, 4, none⟩ u4).setCell ⟨r, 5, none⟩ u5).cell? ⟨p, 1, none⟩ = some b ∧ ((((((x.setCell ⟨r, 0, none⟩ u0).setCell ⟨r, 1, none⟩ u1).setCell ⟨r, 2, none⟩ u2).setCell ⟨r, 3, none⟩ u3).setCell ⟨r, 4, none⟩ u4).setCell ⟨r, 5, none⟩ u5).cell? ⟨p, 2, none⟩ = some c ∧ ((((((x.setCell ⟨r, 0, none⟩ u0).setCell ⟨r, 1, none⟩ u1).setCell ⟨r, 2, none⟩ u2).setCell ⟨r, 3, none⟩ u3).setCell ⟨r, 4, none⟩ u4).setCell ⟨r, 5, none⟩ u5).cell? ⟨q, 0, none⟩ = some d ∧ ((((((x.setCell ⟨r, 0, none⟩ u0).setCell ⟨r, 1, none⟩ u1).setCell ⟨r, 2, none⟩ u2).setCell ⟨r, 3, none⟩ u3).setCell ⟨r, 4, none⟩ u4).setCell ⟨r, 5, none⟩ u5).cell? ⟨q, 1, none⟩ = some e ∧ ((((((x.setCell ⟨r, 0, none⟩ u0).setCell ⟨r, 1, none⟩ u1).setCell ⟨r, 2, none⟩ u2).setCell ⟨r, 3, none⟩ u3).setCell ⟨r, 4, none⟩ u4).setCell ⟨r, 5, none⟩ u5).cell? ⟨q, 2, none⟩ = some f := by
  obtain ⟨⟨h1, v0, v1, v2, v3, v4, v5, h2⟩, h3, h4, h5, h6, h7, h8⟩ := h
  exact ⟨⟨gr6 h1 hr _ _ _ _ _ _, _, _, _, _, _, _, set6 h2 _ _ _ _ _ _⟩, far6 h3 hp _ _ _ _ _ _, far6 h4 hp _ _ _ _ _ _, far6 h5 hp _ _ _ _ _ _, far6 h6 hq _ _ _ _ _ _, far6 h7 hq _ _ _ _ _ _, far6 h8 hq _ _ _ _ _ _⟩
theorem point_gr (x y z : Int) (w : World) : Calls Try.prog 100 #[.agg #[.int .i64 x, .int .i64 y, .int .i64 z]] w
      fun e w' => e = .returned (.agg #[.int .i64 x, .int .i64 y, .int .i64 z]) ∧ Gr w w' := (point_any x y z w).mono fun e w' h => ⟨h.1, by rw [← h.2]; exact ((Gr.refl _).alloc _).alloc _⟩
set_option maxHeartbeats 8000000 in
set_option maxRecDepth 100000 in
theorem of_any (a : Option Addr) (len cap : Nat) (zs : List (List Int)) (w : World) (hr : Oi.IsRows 3 w a len zs) :
    Calls Try.prog 52 #[.slice a len cap] w fun e w' => e = .returned (.tuple #[obV zs, .int .i64 (oe zs)]) ∧ Gr w w' := by
  have hm := hr.2.1
  by_cases h0 : len = 0
  · subst h0
    have e1 : oe zs = 1 := by unfold oe; rw [if_pos hr.1]
    have e2 : obV zs = .agg #[.int .i64 0, .int .i64 0, .int .i64 0, .int .i64 0, .int .i64 0, .int .i64 0] := by unfold obV ob; rw [if_neg (by rw [e1]; omega)]; rfl
    rw [e1, e2]
    clear hr e1 e2
    go_enter Try.func52, Try.ntmps52
    go_wp2
    refine bodyPost_ret (v := .tuple #[.agg #[.int .i64 0, .int .i64 0, .int .i64 0, .int .i64 0, .int .i64 0, .int .i64 0], .int .i64 1]) (by simp [results, Try.results52, go_sem]) rfl ⟨rfl, ?_⟩
    exact (Gr.refl _).alloc _
  · have hl0 : ¬ zs.length = 0 := by rw [hr.1]; exact h0
    have hlz := hr.1
    have HR := Lib.hid hr
    clear hr
    cases hs : smallL zs
    · have e1 : oe zs = 5 := by unfold oe; rw [if_neg hl0, if_neg (by rw [hs]; simp)]
      have e2 : obV zs = .agg #[.int .i64 0, .int .i64 0, .int .i64 0, .int .i64 0, .int .i64 0, .int .i64 0] := by unfold obV ob; rw [if_neg (by rw [e1]; omega)]; rfl
      rw [e1, e2]
      have HS := Lib.hid hs
      clear e1 e2 hs hl0 hlz
      go_enter Try.func52, Try.ntmps52
      go_wp2_with fail
      refine (small_any a len cap zs _ (HR.out.later ((Gr.refl _).alloc _))).mono ?_
      rintro e w1 ⟨rfl, g1⟩
      rw [HS.out]
      have hB := (Blk.new (w := w) (T := 69) (vs := [.int .i64 0, .int .i64 0, .int .i64 0, .int .i64 0, .int .i64 0, .int .i64 0]) rfl).gr g1
      have G1 := Lib.hid (((Gr.refl w).alloc (.cells #[.int .i64 0, .int .i64 0, .int .i64 0, .int .i64 0, .int .i64 0, .int .i64 0] 69)).trans g1)
      clear g1
      have HB := Lib.hid hB
      obtain ⟨c0, c1, c2, c3, c4, c5⟩ := cells6 hB
      obtain ⟨f0, f1, f2, f3, f4, f5⟩ := frees6 hB
      have hlt := hB.1
      clear hB
      go_wp2
      obtain ⟨d0, d1, d2, d3, d4, d5⟩ := cells6 (set6 HB.out (.int .i64 0) (.int .i64 0) (.int .i64 0) (.int .i64 0) (.int .i64 0) (.int .i64 0))
      clear c0 c1 c2 c3 c4 c5 f0 f1 f2 f3 f4 f5
      refine bodyPost_ret (v := .tuple #[.agg #[.int .i64 0, .int .i64 0, .int .i64 0, .int .i64 0, .int .i64 0, .int .i64 0], .int .i64 5]) (by simp [results, Try.results52, go_sem, d0, d1, d2, d3, d4, d5]) rfl ⟨rfl, ?_⟩
      exact gr6 G1.out (Nat.le_refl _) _ _ _ _ _ _
    · have e1 : oe zs = 0 := by unfold oe; rw [if_neg hl0, if_pos hs]
      have e2 : obV zs = .agg #[.int .i64 (mnk zs 0 len), .int .i64 (mnk zs 1 len), .int .i64 (mnk zs 2 len), .int .i64 (mxk zs 0 len), .int .i64 (mxk zs 1 len), .int .i64 (mxk zs 2 len)] := by unfold obV ob; rw [if_pos e1, hlz]; rfl
      rw [e1, e2]
      have HS := Lib.hid hs
      have hM := fun j => (fun k (hk : k < len) => mnk_succ zs j k (by omega))
      have hX := fun j => (fun k (hk : k < len) => mxk_succ zs j k (by omega))
      have HM := Lib.hid hM; have HX := Lib.hid hX
      clear e1 e2 hs hl0 hM hX hlz
      go_enter Try.func52, Try.ntmps52
      go_wp2_with fail
      refine (small_any a len cap zs _ (HR.out.later ((Gr.refl _).alloc _))).mono ?_
      rintro e w1 ⟨rfl, g1⟩
      rw [HS.out]
      have HB := Lib.hid ((Blk.new (w := w) (T := 69) (vs := [.int .i64 0, .int .i64 0, .int .i64 0, .int .i64 0, .int .i64 0, .int .i64 0]) rfl).gr g1)
      have hG1 := ((Gr.refl w).alloc (.cells #[.int .i64 0, .int .i64 0, .int .i64 0, .int .i64 0, .int .i64 0, .int .i64 0] 69)).trans g1
      have R1 := Lib.hid (HR.out.later hG1)
      obtain ⟨b, off, x, y, z, rfl, hb, ez, c0, c1, c2, _, _, _⟩ := rows3_at R1.out (i := 0) (by omega)
      simp only [Nat.zero_mul, Nat.add_zero] at c0 c1 c2
      have EZ := Lib.hid ez
      have hl1 : (0 : Int) < (len : Int) := by omega
      have hl2 : 0 < len := by omega
      have G1 := Lib.hid hG1
      clear g1 hG1 ez HR
      go_upto_region 5 with fail
      go_cut [4, 5] (fun s4 s5 wx => ∃ p q : Nat, s4 = .pointer (some ⟨p, 0, none⟩) ∧ s5 = .pointer (some ⟨q, 0, none⟩) ∧ Blk wx p [.int .i64 x, .int .i64 y, .int .i64 z] ∧ Blk wx q [.int .i64 x, .int .i64 y, .int .i64 z] ∧ w1.heap.size ≤ p ∧ w1.heap.size ≤ q ∧ p ≠ q ∧ Gr w1 wx)
      case first =>
        have hmk : ∀ x' : World, Gr w1 x' → (x'.cell? ⟨b, off, none⟩ = some (.int .i64 x) ∧ x'.cell? ⟨b, off + 1, none⟩ = some (.int .i64 y) ∧ x'.cell? ⟨b, off + 2, none⟩ = some (.int .i64 z)) :=
          fun x' h => ⟨(h.cell (p := ⟨b, off, none⟩) hb).trans c0, (h.cell (p := ⟨b, off + 1, none⟩) hb).trans c1, (h.cell (p := ⟨b, off + 2, none⟩) hb).trans c2⟩
        have MK := Lib.hid hmk; clear hmk
        go_region_held3 (fun x' => x'.cell? ⟨b, off, none⟩ = some (.int .i64 x) ∧ x'.cell? ⟨b, off + 1, none⟩ = some (.int .i64 y) ∧ x'.cell? ⟨b, off + 2, none⟩ = some (.int .i64 z))
          ((refine MK.out _ ?_; repeat (first | exact Gr.refl _ | apply Gr.alloc | apply Gr.drew)))
          (first | (go_at_call 99; refine (parts_any _ _ _ _).mono ?_; rintro e w' ⟨rfl, rfl⟩))
        all_goals
          go_wp2_with fail
          go_meet
          refine ⟨_, _, rfl, rfl, ?_, ?_, ?_, ?_, ?_, ?_⟩
          case rel.refine_1 => repeat (first | (refine Blk.new ?_; simp; done) | apply Blk.alloc | apply Blk.drew)
          case rel.refine_2 => repeat (first | (refine Blk.new ?_; simp; done) | apply Blk.alloc | apply Blk.drew)
          case rel.refine_6 => repeat (first | exact Gr.refl _ | apply Gr.alloc | apply Gr.drew)
          all_goals (first | omega | (simp; done) | (simp; omega))
      case rest =>
        obtain ⟨p, q, rfl, rfl, P, Q, hp, hq, hpq, hg2⟩ := hcut
        clear c0 c1 c2
        go_wp2_with fail
        go_loopw [30] (fun v30 wr => ∃ k : Nat, k ≤ len ∧ v30 = .int .i64 k ∧ Blk wr p [.int .i64 (mnk zs 0 k), .int .i64 (mnk zs 1 k), .int .i64 (mnk zs 2 k)] ∧ Blk wr q [.int .i64 (mxk zs 0 k), .int .i64 (mxk zs 1 k), .int .i64 (mxk zs 2 k)] ∧ Gr w1 wr) (fun v30 _ => len - (intOf v30).toNat)
        case atStart =>
          refine ⟨0, Nat.zero_le _, rfl, ?_, ?_, hg2⟩
          · rw [mnk_zero, mnk_zero, mnk_zero, EZ.out]; exact P
          · rw [mxk_zero, mxk_zero, mxk_zero, EZ.out]; exact Q
        case round =>
          clear P Q hg2
          obtain ⟨k, hk, rfl, P, Q, hg⟩ := hrel
          by_cases hlt : k < len
          · obtain ⟨b', off', u, v, t, e2, hb2, ez, c0, c1, c2, _, _, _⟩ := rows3_at (R1.out.later hg) hlt
            obtain ⟨rfl, rfl⟩ : b = b' ∧ off = off' := by injection e2 with e; injection e with e1 e2; exact ⟨e1, e2⟩
            have m0 := HM.out 0 k hlt; have m1 := HM.out 1 k hlt; have m2 := HM.out 2 k hlt
            have x0 := HX.out 0 k hlt; have x1 := HX.out 1 k hlt; have x2 := HX.out 2 k hlt
            rw [ez] at m0 m1 m2 x0 x1 x2
            simp only [List.getD_cons_zero, List.getD_cons_succ] at m0 m1 m2 x0 x1 x2
            generalize mnk zs 0 k = M0 at *
            generalize mnk zs 1 k = M1 at *
            generalize mnk zs 2 k = M2 at *
            generalize mxk zs 0 k = X0 at *
            generalize mxk zs 1 k = X1 at *
            generalize mxk zs 2 k = X2 at *
            have H0 := Lib.hid m0; have H1 := Lib.hid m1; have H2 := Lib.hid m2; have H3 := Lib.hid x0; have H4 := Lib.hid x1; have H5 := Lib.hid x2
            have PP := Lib.hid P; have QQ := Lib.hid Q; have HG := Lib.hid hg
            clear m0 m1 m2 x0 x1 x2 P Q hg e2 ez
            go_wp2_with fail
            refine (parts_any u v t _).mono ?_
            rintro e w3 ⟨rfl, h3⟩
            have hg3 : Gr wr w3 := by rw [← h3]; exact (((Gr.refl _).alloc _).alloc _).alloc _
            have P3 := Lib.hid ((PP.out.gr hg3).alloc (o := .cells #[.int .i64 u, .int .i64 v, .int .i64 t] 93)); have Q3 := Lib.hid ((QQ.out.gr hg3).alloc (o := .cells #[.int .i64 u, .int .i64 v, .int .i64 t] 93)); have G3 := Lib.hid ((HG.out.trans hg3).alloc (.cells #[.int .i64 u, .int .i64 v, .int .i64 t] 93))
            have N3 := Lib.hid (Blk.new (w := w3) (T := 93) (vs := [.int .i64 u, .int .i64 v, .int .i64 t]) rfl)
            have hpw : p ≠ w3.heap.size := by have := PP.out.1; have := hg3.size; omega
            have hqw : q ≠ w3.heap.size := by have := QQ.out.1; have := hg3.size; omega
            clear h3 hg3 PP QQ HG c0 c1 c2
            generalize hnb : w3.heap.size = n at *
            go_wp2_with fail
            go_loopw [36] (fun v36 wy => ∃ j : Nat, j ≤ 3 ∧ v36 = .int .i64 j ∧ Blk wy n [.int .i64 u, .int .i64 v, .int .i64 t] ∧
              Blk wy p [.int .i64 (if 0 < j then min M0 u else M0), .int .i64 (if 1 < j then min M1 v else M1), .int .i64 (if 2 < j then min M2 t else M2)] ∧
              Blk wy q [.int .i64 (if 0 < j then max X0 u else X0), .int .i64 (if 1 < j then max X1 v else X1), .int .i64 (if 2 < j then max X2 t else X2)] ∧ Gr w1 wy) (fun v36 _ => 3 - (intOf v36).toNat)
            case atStart => exact ⟨0, by omega, rfl, N3.out, by simpa using P3.out, by simpa using Q3.out, G3.out⟩
            case round =>
              clear N3 P3 Q3 G3
              obtain ⟨j, hj, rfl, N, P, Q, hg⟩ := hrel
              have hjj : j = 0 ∨ j = 1 ∨ j = 2 ∨ j = 3 := by omega
              rcases hjj with rfl | rfl | rfl | rfl
              · simp at P Q
                obtain ⟨_, p0, p1, p2⟩ := P.three
                obtain ⟨pf0, pf1, pf2⟩ := P.frees
                obtain ⟨_, q0, q1, q2⟩ := Q.three
                obtain ⟨qf0, qf1, qf2⟩ := Q.frees
                obtain ⟨_, n0, n1, n2⟩ := N.three
                have hmn : (if u < M0 then u else M0) = min M0 u := by split <;> omega
                have hmx : (if X0 < u then u else X0) = max X0 u := by split <;> omega
                go_wp2_with fail
                go_region
                have P' := (((P.set 0 (v := .int .i64 (min M0 u)) rfl).set_other (p := ⟨q, 0, none⟩) (Ne.symm hpq) (.int .i64 (max X0 u)))).drew
                have Q' := (((Q.set_other (p := ⟨p, 0, none⟩) hpq (.int .i64 (min M0 u))).set 0 (v := .int .i64 (max X0 u)) rfl)).drew
                have N' := (((N.set_other (p := ⟨p, 0, none⟩) hpw (.int .i64 (min M0 u))).set_other (p := ⟨q, 0, none⟩) hqw (.int .i64 (max X0 u)))).drew
                have G' := ((hg.setCell (p := ⟨p, 0, none⟩) hp (.int .i64 (min M0 u))).setCell (p := ⟨q, 0, none⟩) hq (.int .i64 (max X0 u))).drew
                have PP := Lib.hid P'; have QQ := Lib.hid Q'; have NN := Lib.hid N'; have GG := Lib.hid G'
                clear P Q N hg p0 p1 p2 pf0 pf1 pf2 q0 q1 q2 qf0 qf1 qf2 n0 n1 n2 hmn hmx P' Q' N' G'
                go_wp2
                go_roundw
                case rel => exact ⟨1, by omega, rfl, NN.out, by simpa using PP.out, by simpa using QQ.out, GG.out⟩
                case measure => simp [intOf]
              · simp at P Q
                obtain ⟨_, p0, p1, p2⟩ := P.three
                obtain ⟨pf0, pf1, pf2⟩ := P.frees
                obtain ⟨_, q0, q1, q2⟩ := Q.three
                obtain ⟨qf0, qf1, qf2⟩ := Q.frees
                obtain ⟨_, n0, n1, n2⟩ := N.three
                have hmn : (if v < M1 then v else M1) = min M1 v := by split <;> omega
                have hmx : (if X1 < v then v else X1) = max X1 v := by split <;> omega
                go_wp2_with fail
                go_region
                have P' := (((P.set 1 (v := .int .i64 (min M1 v)) rfl).set_other (p := ⟨q, 1, none⟩) (Ne.symm hpq) (.int .i64 (max X1 v)))).drew
                have Q' := (((Q.set_other (p := ⟨p, 1, none⟩) hpq (.int .i64 (min M1 v))).set 1 (v := .int .i64 (max X1 v)) rfl)).drew
                have N' := (((N.set_other (p := ⟨p, 1, none⟩) hpw (.int .i64 (min M1 v))).set_other (p := ⟨q, 1, none⟩) hqw (.int .i64 (max X1 v)))).drew
                have G' := ((hg.setCell (p := ⟨p, 1, none⟩) hp (.int .i64 (min M1 v))).setCell (p := ⟨q, 1, none⟩) hq (.int .i64 (max X1 v))).drew
                have PP := Lib.hid P'; have QQ := Lib.hid Q'; have NN := Lib.hid N'; have GG := Lib.hid G'
                clear P Q N hg p0 p1 p2 pf0 pf1 pf2 q0 q1 q2 qf0 qf1 qf2 n0 n1 n2 hmn hmx P' Q' N' G'
                go_wp2
                go_roundw
                case rel => exact ⟨2, by omega, rfl, NN.out, by simpa using PP.out, by simpa using QQ.out, GG.out⟩
                case measure => simp [intOf]
              · simp at P Q
                obtain ⟨_, p0, p1, p2⟩ := P.three
                obtain ⟨pf0, pf1, pf2⟩ := P.frees
                obtain ⟨_, q0, q1, q2⟩ := Q.three
                obtain ⟨qf0, qf1, qf2⟩ := Q.frees
                obtain ⟨_, n0, n1, n2⟩ := N.three
                have hmn : (if t < M2 then t else M2) = min M2 t := by split <;> omega
                have hmx : (if X2 < t then t else X2) = max X2 t := by split <;> omega
                go_wp2_with fail
                go_region
                have P' := (((P.set 2 (v := .int .i64 (min M2 t)) rfl).set_other (p := ⟨q, 2, none⟩) (Ne.symm hpq) (.int .i64 (max X2 t)))).drew
                have Q' := (((Q.set_other (p := ⟨p, 2, none⟩) hpq (.int .i64 (min M2 t))).set 2 (v := .int .i64 (max X2 t)) rfl)).drew
                have N' := (((N.set_other (p := ⟨p, 2, none⟩) hpw (.int .i64 (min M2 t))).set_other (p := ⟨q, 2, none⟩) hqw (.int .i64 (max X2 t)))).drew
                have G' := ((hg.setCell (p := ⟨p, 2, none⟩) hp (.int .i64 (min M2 t))).setCell (p := ⟨q, 2, none⟩) hq (.int .i64 (max X2 t))).drew
                have PP := Lib.hid P'; have QQ := Lib.hid Q'; have NN := Lib.hid N'; have GG := Lib.hid G'
                clear P Q N hg p0 p1 p2 pf0 pf1 pf2 q0 q1 q2 qf0 qf1 qf2 n0 n1 n2 hmn hmx P' Q' N' G'
                go_wp2
                go_roundw
                case rel => exact ⟨3, by omega, rfl, NN.out, by simpa using PP.out, by simpa using QQ.out, GG.out⟩
                case measure => simp [intOf]
              · simp at P Q
                have PP := Lib.hid P; have QQ := Lib.hid Q; have GG := Lib.hid hg
                clear P Q N hg
                go_wp2
                go_roundw
                case rel => exact ⟨k + 1, by omega, by go_num, by rw [H0.out, H1.out, H2.out]; exact PP.out, by rw [H3.out, H4.out, H5.out]; exact QQ.out, GG.out⟩
                case measure => simp [intOf]; omega
          · have hkl : k = len := by omega
            subst hkl
            have hB := HB.out.gr (hg)
            have HB2 := Lib.hid hB; have HG2 := Lib.hid (G1.out.trans hg)
            have hpr : w.heap.size ≠ p := by have := HB.out.1; omega
            have hqr : w.heap.size ≠ q := by have := HB.out.1; omega
            generalize hE0 : mnk zs 0 k = M0 at *
            generalize hE1 : mnk zs 1 k = M1 at *
            generalize hE2 : mnk zs 2 k = M2 at *
            generalize hE3 : mxk zs 0 k = X0 at *
            generalize hE4 : mxk zs 1 k = X1 at *
            generalize hE5 : mxk zs 2 k = X2 at *
            have E0 := Lib.hid hE0; have E1 := Lib.hid hE1; have E2 := Lib.hid hE2; have E3 := Lib.hid hE3; have E4 := Lib.hid hE4; have E5 := Lib.hid hE5
            clear hE0 hE1 hE2 hE3 hE4 hE5
            obtain ⟨pl, p0, p1, p2⟩ := P.three
            obtain ⟨ql, q0, q1, q2⟩ := Q.three
            have hS0 : (Gr w wr ∧ Res6 wr w.heap.size) ∧ wr.cell? ⟨p, 0, none⟩ = some (.int .i64 M0) ∧ wr.cell? ⟨p, 1, none⟩ = some (.int .i64 M1) ∧ wr.cell? ⟨p, 2, none⟩ = some (.int .i64 M2) ∧ wr.cell? ⟨q, 0, none⟩ = some (.int .i64 X0) ∧ wr.cell? ⟨q, 1, none⟩ = some (.int .i64 X1) ∧ wr.cell? ⟨q, 2, none⟩ = some (.int .i64 X2) :=
              ⟨⟨HG2.out, _, _, _, _, _, _, hB⟩, p0, p1, p2, q0, q1, q2⟩
            clear P Q hB hg p0 p1 p2 q0 q1 q2
            go_wp2_with fail
            go_region_held3 (fun x' => (Gr w x' ∧ Res6 x' w.heap.size) ∧ x'.cell? ⟨p, 0, none⟩ = some (.int .i64 M0) ∧ x'.cell? ⟨p, 1, none⟩ = some (.int .i64 M1) ∧ x'.cell? ⟨p, 2, none⟩ = some (.int .i64 M2) ∧ x'.cell? ⟨q, 0, none⟩ = some (.int .i64 X0) ∧ x'.cell? ⟨q, 1, none⟩ = some (.int .i64 X1) ∧ x'.cell? ⟨q, 2, none⟩ = some (.int .i64 X2))
              (first | with_reducible exact SK.drew hS0 | with_reducible exact SK.set (by with_reducible assumption) (Nat.le_refl _) hpr hqr | with_reducible exact SK.gr (by with_reducible assumption) hg)
              (first | (go_at_call 100; refine (point_gr _ _ _ _).mono ?_; rintro e x' ⟨rfl, hg⟩; obtain ⟨⟨hgw, v0, v1, v2, v3, v4, v5, hB⟩, -⟩ := SK.gr (by with_reducible assumption) hg; obtain ⟨b0, b1, b2, b3, b4, b5⟩ := cells6 hB; obtain ⟨f0, f1, f2, f3, f4, f5⟩ := frees6 hB; have hbl := hB.1))
            have D := set6 hB (.int .i64 M0) (.int .i64 M1) (.int .i64 M2) (.int .i64 X0) (.int .i64 X1) (.int .i64 X2)
            obtain ⟨d0, d1, d2, d3, d4, d5⟩ := cells6 D
            have HGW := Lib.hid (gr6 hgw (Nat.le_refl _) (.int .i64 M0) (.int .i64 M1) (.int .i64 M2) (.int .i64 X0) (.int .i64 X1) (.int .i64 X2))
            clear D b0 b1 b2 b3 b4 b5 f0 f1 f2 f3 f4 f5 hB hgw
            go_wp2
            refine bodyPost_ret (v := .tuple #[.agg #[.int .i64 M0, .int .i64 M1, .int .i64 M2, .int .i64 X0, .int .i64 X1, .int .i64 X2], .int .i64 0]) (by simp [results, Try.results52, go_sem, d0, d1, d2, d3, d4, d5]) rfl ⟨by rw [E0.out, E1.out, E2.out, E3.out, E4.out, E5.out], ?_⟩
            exact HGW.out
end Sz
end Go.Proofs.Ytfpnkcmplmkghaa
