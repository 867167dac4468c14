/- The walk of VecDoes. -/
import Derived.Test.YtjnnonhapjdjoaaVi
import Derived.Test.YtjnnonhapjdjoaaVr
import Derived.Test.YtjnnonhapjdjoaaVs
import Derived.Test.YtjnnonhapjdjoaaCn
import Derived.Deep.RegionHeld3
import Derived.Deep.DrawnRows
set_option linter.unusedVariables false
namespace Go.Proofs.Ytjnnonhapjdjoaa
open Go.RowKit
open Vc

attribute [local go_sem ↓] Go.wp_at_zero Go.wp_at_succ

set_option maxRecDepth 100000 in
set_option maxHeartbeats 8000000 in
theorem does_tf (w : World) (a1 a2 a3 : Int) (ia1 : I a1) (ia2 : I a2) (ia3 : I a3) (b1 b2 b3 : Int) (ib1 : I b1) (ib2 : I b2) (ib3 : I b3) (c1 c2 : Int) (ic1 : I c1) (ic2 : I c2) (d1 d2 : Int) (id1 : I d1) (id2 : I d2) (k : Int) (ik : I k) (hc : nr2 ⟨c1, c2⟩ = true) (ha : nr3 ⟨a1, a2, a3⟩ = false) :
    Calls Try.prog 7 #[.agg #[.int .i64 a1, .int .i64 a2, .int .i64 a3], .agg #[.int .i64 b1, .int .i64 b2, .int .i64 b3], .agg #[.int .i64 c1, .int .i64 c2], .agg #[.int .i64 d1, .int .i64 d2], .int .i64 k] w fun e w' => e = .returned (.bool true) ∧ Gr w w' := by
  have HA := Lib.hid (And.intro ia1 (And.intro ia2 ia3)); clear ia1 ia2 ia3
  have HB := Lib.hid (And.intro ib1 (And.intro ib2 ib3)); clear ib1 ib2 ib3
  have HC := Lib.hid (And.intro ic1 ic2); clear ic1 ic2
  have HD := Lib.hid (And.intro id1 id2); clear id1 id2
  clear ik
  have NC := Lib.hid hc; have NA := Lib.hid ha; clear hc ha
  obtain ⟨yd, hyd⟩ : ∃ y, nr2 ⟨d1, d2⟩ = y := ⟨_, rfl⟩
  obtain ⟨yb, hyb⟩ : ∃ y, nr3 ⟨b1, b2, b3⟩ = y := ⟨_, rfl⟩
  have ND := Lib.hid hyd; have NB := Lib.hid hyb; clear hyd hyb
  have CD : Hid ((nr2 ⟨c1, c2⟩ && nr2 ⟨d1, d2⟩) = yd) := by show _ = _; rw [NC.out, ND.out]; rfl
  have AB : Hid ((nr3 ⟨a1, a2, a3⟩ && nr3 ⟨b1, b2, b3⟩) = false) := by show _ = _; rw [NA.out, NB.out]; rfl
  obtain ⟨x1, hx1⟩ : ∃ x, dt ⟨a1, a2, a3⟩ ⟨b1, b2, b3⟩ = x := ⟨_, rfl⟩
  have HX1 := Lib.hid hx1; clear hx1
  obtain ⟨x2, hx2⟩ : ∃ x, cr2 ⟨c1, c2⟩ ⟨d1, d2⟩ = x := ⟨_, rfl⟩
  have HX2 := Lib.hid hx2; clear hx2
  obtain ⟨x3, hx3⟩ : ∃ x, ne3 ⟨a1, a2, a3⟩ ⟨b1, b2, b3⟩ = x := ⟨_, rfl⟩
  have HX3 := Lib.hid hx3; clear hx3
  obtain ⟨x4, hx4⟩ : ∃ x, ne2 ⟨c1, c2⟩ ⟨d1, d2⟩ = x := ⟨_, rfl⟩
  have HX4 := Lib.hid hx4; clear hx4
  obtain ⟨x5, hx5⟩ : ∃ x, dre k = x := ⟨_, rfl⟩
  have HX5 := Lib.hid hx5; clear hx5
  obtain ⟨x6, hx6⟩ : ∃ x, axn a1 a2 a3 = x := ⟨_, rfl⟩
  have HX6 := Lib.hid hx6; clear hx6
  obtain ⟨x7, hx7⟩ : ∃ x, ls ⟨a1, a2, a3⟩ ⟨b1, b2, b3⟩ = x := ⟨_, rfl⟩
  have HX7 := Lib.hid hx7; clear hx7
  obtain ⟨⟨u1, u2, u3⟩, hu⟩ : ∃ x, cr ⟨a1, a2, a3⟩ ⟨b1, b2, b3⟩ = x := ⟨_, rfl⟩
  have HUU := Lib.hid hu; clear hu
  obtain ⟨⟨p1, p2⟩, hp⟩ : ∃ x, drv a1 a2 a3 k = x := ⟨_, rfl⟩
  have HPP := Lib.hid hp; clear hp
  obtain ⟨⟨s1, s2⟩, hs⟩ : ∃ x, sb2 ⟨c1, c2⟩ ⟨d1, d2⟩ = x := ⟨_, rfl⟩
  have HSS := Lib.hid hs; clear hs
  obtain ⟨⟨t1, t2, t3⟩, ht⟩ : ∃ x, sb ⟨a1, a2, a3⟩ ⟨b1, b2, b3⟩ = x := ⟨_, rfl⟩
  have HTT := Lib.hid ht; clear ht
  go_enter Try.func7, Try.ntmps7
  go_wp2_with fail
  refine (dot_any _ _ _ _ _ _ HA.out HB.out _).mono ?_; rintro e w1 ⟨rfl, hg1⟩
  rw [HX1.out, HX3.out]
  have A1 := Blk.gr (b := w.heap.size) (vs := [.int .i64 a1, .int .i64 a2, .int .i64 a3]) (by repeat (first | assumption | (refine Blk.new ?_; simp; done) | apply Blk.alloc | apply Blk.drew | apply Blk.dn)) hg1
  have B1 := Blk.gr (b := w.heap.size + 1) (vs := [.int .i64 b1, .int .i64 b2, .int .i64 b3]) (by repeat (first | assumption | (refine Blk.new ?_; simp; done) | apply Blk.alloc | apply Blk.drew | apply Blk.dn)) hg1
  have C1 := Blk.gr (b := w.heap.size + 1 + 1) (vs := [.int .i64 c1, .int .i64 c2]) (by repeat (first | assumption | (refine Blk.new ?_; simp; done) | apply Blk.alloc | apply Blk.drew | apply Blk.dn)) hg1
  have D1 := Blk.gr (b := w.heap.size + 1 + 1 + 1) (vs := [.int .i64 d1, .int .i64 d2]) (by repeat (first | assumption | (refine Blk.new ?_; simp; done) | apply Blk.alloc | apply Blk.drew | apply Blk.dn)) hg1
  have gg1 : Gr w w1 := by repeat (first | exact Gr.refl _ | assumption | refine Gr.trans ?_ (by assumption) | apply Gr.alloc | apply Gr.drew | apply Gr.dn)
  clear hg1
  obtain ⟨al1, ac10, ac11, ac12⟩ := A1.three
  obtain ⟨bl1, bc10, bc11, bc12⟩ := B1.three
  obtain ⟨cl1, cc10, cc11⟩ := C1.two
  obtain ⟨dl1, dc10, dc11⟩ := D1.two
  go_wp2_with fail
  refine (rdot_any _ _ _ _ _ _ _).mono ?_; rintro e w2 ⟨rfl, hg2⟩
  rw [HX1.out, HX3.out]
  have A2 := Blk.gr (b := w.heap.size) (vs := [.int .i64 a1, .int .i64 a2, .int .i64 a3]) (by repeat (first | assumption | (refine Blk.new ?_; simp; done) | apply Blk.alloc | apply Blk.drew | apply Blk.dn)) hg2
  have B2 := Blk.gr (b := w.heap.size + 1) (vs := [.int .i64 b1, .int .i64 b2, .int .i64 b3]) (by repeat (first | assumption | (refine Blk.new ?_; simp; done) | apply Blk.alloc | apply Blk.drew | apply Blk.dn)) hg2
  have C2 := Blk.gr (b := w.heap.size + 1 + 1) (vs := [.int .i64 c1, .int .i64 c2]) (by repeat (first | assumption | (refine Blk.new ?_; simp; done) | apply Blk.alloc | apply Blk.drew | apply Blk.dn)) hg2
  have D2 := Blk.gr (b := w.heap.size + 1 + 1 + 1) (vs := [.int .i64 d1, .int .i64 d2]) (by repeat (first | assumption | (refine Blk.new ?_; simp; done) | apply Blk.alloc | apply Blk.drew | apply Blk.dn)) hg2
  have gg2 : Gr w w2 := by repeat (first | exact Gr.refl _ | assumption | refine Gr.trans ?_ (by assumption) | apply Gr.alloc | apply Gr.drew | apply Gr.dn)
  clear hg2 al1 ac10 ac11 ac12 bl1 bc10 bc11 bc12 cl1 cc10 cc11 dl1 dc10 dc11 A1 B1 C1 D1 gg1
  obtain ⟨al2, ac20, ac21, ac22⟩ := A2.three
  obtain ⟨bl2, bc20, bc21, bc22⟩ := B2.three
  obtain ⟨cl2, cc20, cc21⟩ := C2.two
  obtain ⟨dl2, dc20, dc21⟩ := D2.two
  go_wp2_with fail
  refine (cross2_any _ _ _ _ HC.out HD.out _).mono ?_; rintro e w3 ⟨rfl, hg3⟩
  rw [HX2.out, HX4.out]
  have A3 := Blk.gr (b := w.heap.size) (vs := [.int .i64 a1, .int .i64 a2, .int .i64 a3]) (by repeat (first | assumption | (refine Blk.new ?_; simp; done) | apply Blk.alloc | apply Blk.drew | apply Blk.dn)) hg3
  have B3 := Blk.gr (b := w.heap.size + 1) (vs := [.int .i64 b1, .int .i64 b2, .int .i64 b3]) (by repeat (first | assumption | (refine Blk.new ?_; simp; done) | apply Blk.alloc | apply Blk.drew | apply Blk.dn)) hg3
  have C3 := Blk.gr (b := w.heap.size + 1 + 1) (vs := [.int .i64 c1, .int .i64 c2]) (by repeat (first | assumption | (refine Blk.new ?_; simp; done) | apply Blk.alloc | apply Blk.drew | apply Blk.dn)) hg3
  have D3 := Blk.gr (b := w.heap.size + 1 + 1 + 1) (vs := [.int .i64 d1, .int .i64 d2]) (by repeat (first | assumption | (refine Blk.new ?_; simp; done) | apply Blk.alloc | apply Blk.drew | apply Blk.dn)) hg3
  have gg3 : Gr w w3 := by repeat (first | exact Gr.refl _ | assumption | refine Gr.trans ?_ (by assumption) | apply Gr.alloc | apply Gr.drew | apply Gr.dn)
  clear hg3 al2 ac20 ac21 ac22 bl2 bc20 bc21 bc22 cl2 cc20 cc21 dl2 dc20 dc21 A2 B2 C2 D2 gg2
  obtain ⟨al3, ac30, ac31, ac32⟩ := A3.three
  obtain ⟨bl3, bc30, bc31, bc32⟩ := B3.three
  obtain ⟨cl3, cc30, cc31⟩ := C3.two
  obtain ⟨dl3, dc30, dc31⟩ := D3.two
  go_wp2_with fail
  refine (rcross2_any _ _ _ _ _).mono ?_; rintro e w4 ⟨rfl, hg4⟩
  rw [HX2.out, HX4.out]
  have A4 := Blk.gr (b := w.heap.size) (vs := [.int .i64 a1, .int .i64 a2, .int .i64 a3]) (by repeat (first | assumption | (refine Blk.new ?_; simp; done) | apply Blk.alloc | apply Blk.drew | apply Blk.dn)) hg4
  have B4 := Blk.gr (b := w.heap.size + 1) (vs := [.int .i64 b1, .int .i64 b2, .int .i64 b3]) (by repeat (first | assumption | (refine Blk.new ?_; simp; done) | apply Blk.alloc | apply Blk.drew | apply Blk.dn)) hg4
  have C4 := Blk.gr (b := w.heap.size + 1 + 1) (vs := [.int .i64 c1, .int .i64 c2]) (by repeat (first | assumption | (refine Blk.new ?_; simp; done) | apply Blk.alloc | apply Blk.drew | apply Blk.dn)) hg4
  have D4 := Blk.gr (b := w.heap.size + 1 + 1 + 1) (vs := [.int .i64 d1, .int .i64 d2]) (by repeat (first | assumption | (refine Blk.new ?_; simp; done) | apply Blk.alloc | apply Blk.drew | apply Blk.dn)) hg4
  have gg4 : Gr w w4 := by repeat (first | exact Gr.refl _ | assumption | refine Gr.trans ?_ (by assumption) | apply Gr.alloc | apply Gr.drew | apply Gr.dn)
  clear hg4 al3 ac30 ac31 ac32 bl3 bc30 bc31 bc32 cl3 cc30 cc31 dl3 dc30 dc31 A3 B3 C3 D3 gg3
  obtain ⟨al4, ac40, ac41, ac42⟩ := A4.three
  obtain ⟨bl4, bc40, bc41, bc42⟩ := B4.three
  obtain ⟨cl4, cc40, cc41⟩ := C4.two
  obtain ⟨dl4, dc40, dc41⟩ := D4.two
  go_wp2_with fail
  refine (cross3_any _ _ _ _ _ _ HA.out HB.out _).mono ?_; rintro e w5 ⟨rfl, hg5⟩
  rw [HUU.out, HX3.out]; dsimp only
  have A5 := Blk.gr (b := w.heap.size) (vs := [.int .i64 a1, .int .i64 a2, .int .i64 a3]) (by repeat (first | assumption | (refine Blk.new ?_; simp; done) | apply Blk.alloc | apply Blk.drew | apply Blk.dn)) hg5
  have B5 := Blk.gr (b := w.heap.size + 1) (vs := [.int .i64 b1, .int .i64 b2, .int .i64 b3]) (by repeat (first | assumption | (refine Blk.new ?_; simp; done) | apply Blk.alloc | apply Blk.drew | apply Blk.dn)) hg5
  have C5 := Blk.gr (b := w.heap.size + 1 + 1) (vs := [.int .i64 c1, .int .i64 c2]) (by repeat (first | assumption | (refine Blk.new ?_; simp; done) | apply Blk.alloc | apply Blk.drew | apply Blk.dn)) hg5
  have D5 := Blk.gr (b := w.heap.size + 1 + 1 + 1) (vs := [.int .i64 d1, .int .i64 d2]) (by repeat (first | assumption | (refine Blk.new ?_; simp; done) | apply Blk.alloc | apply Blk.drew | apply Blk.dn)) hg5
  have gg5 : Gr w w5 := by repeat (first | exact Gr.refl _ | assumption | refine Gr.trans ?_ (by assumption) | apply Gr.alloc | apply Gr.drew | apply Gr.dn)
  clear hg5 al4 ac40 ac41 ac42 bl4 bc40 bc41 bc42 cl4 cc40 cc41 dl4 dc40 dc41 A4 B4 C4 D4 gg4
  obtain ⟨al5, ac50, ac51, ac52⟩ := A5.three
  obtain ⟨bl5, bc50, bc51, bc52⟩ := B5.three
  obtain ⟨cl5, cc50, cc51⟩ := C5.two
  obtain ⟨dl5, dc50, dc51⟩ := D5.two
  go_wp2_with fail
  refine (rcross3_any _ _ _ _ _ _ _).mono ?_; rintro e w6 ⟨rfl, hg6⟩
  rw [HUU.out, HX3.out]; dsimp only
  have A6 := Blk.gr (b := w.heap.size) (vs := [.int .i64 a1, .int .i64 a2, .int .i64 a3]) (by repeat (first | assumption | (refine Blk.new ?_; simp; done) | apply Blk.alloc | apply Blk.drew | apply Blk.dn)) hg6
  have B6 := Blk.gr (b := w.heap.size + 1) (vs := [.int .i64 b1, .int .i64 b2, .int .i64 b3]) (by repeat (first | assumption | (refine Blk.new ?_; simp; done) | apply Blk.alloc | apply Blk.drew | apply Blk.dn)) hg6
  have C6 := Blk.gr (b := w.heap.size + 1 + 1) (vs := [.int .i64 c1, .int .i64 c2]) (by repeat (first | assumption | (refine Blk.new ?_; simp; done) | apply Blk.alloc | apply Blk.drew | apply Blk.dn)) hg6
  have D6 := Blk.gr (b := w.heap.size + 1 + 1 + 1) (vs := [.int .i64 d1, .int .i64 d2]) (by repeat (first | assumption | (refine Blk.new ?_; simp; done) | apply Blk.alloc | apply Blk.drew | apply Blk.dn)) hg6
  have U6 := Blk.gr (b := w5.heap.size) (vs := [.int .i64 u1, .int .i64 u2, .int .i64 u3]) (by repeat (first | assumption | (refine Blk.new ?_; simp; done) | apply Blk.alloc | apply Blk.drew | apply Blk.dn)) hg6
  have gg6 : Gr w w6 := by repeat (first | exact Gr.refl _ | assumption | refine Gr.trans ?_ (by assumption) | apply Gr.alloc | apply Gr.drew | apply Gr.dn)
  clear hg6 al5 ac50 ac51 ac52 bl5 bc50 bc51 bc52 cl5 cc50 cc51 dl5 dc50 dc51 A5 B5 C5 D5 gg5
  obtain ⟨al6, ac60, ac61, ac62⟩ := A6.three
  obtain ⟨bl6, bc60, bc61, bc62⟩ := B6.three
  obtain ⟨cl6, cc60, cc61⟩ := C6.two
  obtain ⟨dl6, dc60, dc61⟩ := D6.two
  obtain ⟨ul6, uc60, uc61, uc62⟩ := U6.three
  go_wp2_with fail
  refine (drop_any _ _ _ _ _).mono ?_; rintro e w7 ⟨rfl, hg7⟩
  rw [HPP.out, HX5.out]; dsimp only
  have A7 := Blk.gr (b := w.heap.size) (vs := [.int .i64 a1, .int .i64 a2, .int .i64 a3]) (by repeat (first | assumption | (refine Blk.new ?_; simp; done) | apply Blk.alloc | apply Blk.drew | apply Blk.dn)) hg7
  have B7 := Blk.gr (b := w.heap.size + 1) (vs := [.int .i64 b1, .int .i64 b2, .int .i64 b3]) (by repeat (first | assumption | (refine Blk.new ?_; simp; done) | apply Blk.alloc | apply Blk.drew | apply Blk.dn)) hg7
  have C7 := Blk.gr (b := w.heap.size + 1 + 1) (vs := [.int .i64 c1, .int .i64 c2]) (by repeat (first | assumption | (refine Blk.new ?_; simp; done) | apply Blk.alloc | apply Blk.drew | apply Blk.dn)) hg7
  have D7 := Blk.gr (b := w.heap.size + 1 + 1 + 1) (vs := [.int .i64 d1, .int .i64 d2]) (by repeat (first | assumption | (refine Blk.new ?_; simp; done) | apply Blk.alloc | apply Blk.drew | apply Blk.dn)) hg7
  have U7 := Blk.gr (b := w5.heap.size) (vs := [.int .i64 u1, .int .i64 u2, .int .i64 u3]) (by repeat (first | assumption | (refine Blk.new ?_; simp; done) | apply Blk.alloc | apply Blk.drew | apply Blk.dn)) hg7
  have V7 := Blk.gr (b := w6.heap.size) (vs := [.int .i64 u1, .int .i64 u2, .int .i64 u3]) (by repeat (first | assumption | (refine Blk.new ?_; simp; done) | apply Blk.alloc | apply Blk.drew | apply Blk.dn)) hg7
  have gg7 : Gr w w7 := by repeat (first | exact Gr.refl _ | assumption | refine Gr.trans ?_ (by assumption) | apply Gr.alloc | apply Gr.drew | apply Gr.dn)
  clear hg7 al6 ac60 ac61 ac62 bl6 bc60 bc61 bc62 cl6 cc60 cc61 dl6 dc60 dc61 ul6 uc60 uc61 uc62 A6 B6 C6 D6 U6 gg6
  obtain ⟨al7, ac70, ac71, ac72⟩ := A7.three
  obtain ⟨bl7, bc70, bc71, bc72⟩ := B7.three
  obtain ⟨cl7, cc70, cc71⟩ := C7.two
  obtain ⟨dl7, dc70, dc71⟩ := D7.two
  obtain ⟨ul7, uc70, uc71, uc72⟩ := U7.three
  obtain ⟨vl7, vc70, vc71, vc72⟩ := V7.three
  go_wp2_with fail
  refine (rdrop_any _ _ _ _ _).mono ?_; rintro e w8 ⟨rfl, hg8⟩
  rw [HPP.out, HX5.out]; dsimp only
  have A8 := Blk.gr (b := w.heap.size) (vs := [.int .i64 a1, .int .i64 a2, .int .i64 a3]) (by repeat (first | assumption | (refine Blk.new ?_; simp; done) | apply Blk.alloc | apply Blk.drew | apply Blk.dn)) hg8
  have B8 := Blk.gr (b := w.heap.size + 1) (vs := [.int .i64 b1, .int .i64 b2, .int .i64 b3]) (by repeat (first | assumption | (refine Blk.new ?_; simp; done) | apply Blk.alloc | apply Blk.drew | apply Blk.dn)) hg8
  have C8 := Blk.gr (b := w.heap.size + 1 + 1) (vs := [.int .i64 c1, .int .i64 c2]) (by repeat (first | assumption | (refine Blk.new ?_; simp; done) | apply Blk.alloc | apply Blk.drew | apply Blk.dn)) hg8
  have D8 := Blk.gr (b := w.heap.size + 1 + 1 + 1) (vs := [.int .i64 d1, .int .i64 d2]) (by repeat (first | assumption | (refine Blk.new ?_; simp; done) | apply Blk.alloc | apply Blk.drew | apply Blk.dn)) hg8
  have U8 := Blk.gr (b := w5.heap.size) (vs := [.int .i64 u1, .int .i64 u2, .int .i64 u3]) (by repeat (first | assumption | (refine Blk.new ?_; simp; done) | apply Blk.alloc | apply Blk.drew | apply Blk.dn)) hg8
  have V8 := Blk.gr (b := w6.heap.size) (vs := [.int .i64 u1, .int .i64 u2, .int .i64 u3]) (by repeat (first | assumption | (refine Blk.new ?_; simp; done) | apply Blk.alloc | apply Blk.drew | apply Blk.dn)) hg8
  have P8 := Blk.gr (b := w7.heap.size) (vs := [.int .i64 p1, .int .i64 p2]) (by repeat (first | assumption | (refine Blk.new ?_; simp; done) | apply Blk.alloc | apply Blk.drew | apply Blk.dn)) hg8
  have gg8 : Gr w w8 := by repeat (first | exact Gr.refl _ | assumption | refine Gr.trans ?_ (by assumption) | apply Gr.alloc | apply Gr.drew | apply Gr.dn)
  clear hg8 al7 ac70 ac71 ac72 bl7 bc70 bc71 bc72 cl7 cc70 cc71 dl7 dc70 dc71 ul7 uc70 uc71 uc72 vl7 vc70 vc71 vc72 A7 B7 C7 D7 U7 V7 gg7
  obtain ⟨al8, ac80, ac81, ac82⟩ := A8.three
  obtain ⟨bl8, bc80, bc81, bc82⟩ := B8.three
  obtain ⟨cl8, cc80, cc81⟩ := C8.two
  obtain ⟨dl8, dc80, dc81⟩ := D8.two
  obtain ⟨ul8, uc80, uc81, uc82⟩ := U8.three
  obtain ⟨vl8, vc80, vc81, vc82⟩ := V8.three
  obtain ⟨pl8, pc80, pc81⟩ := P8.two
  go_wp2_with fail
  have gq : Gr w8 _ := (Gr.refl w8).alloc (.cells #[.int .i64 p1, .int .i64 p2] 32)
  have AQ := Blk.gr (w := w8) A8 gq
  have BQ := Blk.gr (w := w8) B8 gq
  have CQ := Blk.gr (w := w8) C8 gq
  have DQ := Blk.gr (w := w8) D8 gq
  generalize hwq : w8.alloc (.cells #[.int .i64 p1, .int .i64 p2] 32) = wq at *
  have gwq : Gr w wq := gg8.trans gq
  clear hwq gq gg8 al8 ac80 ac81 ac82 bl8 bc80 bc81 bc82 cl8 cc80 cc81 dl8 dc80 dc81 ul8 uc80 uc81 uc82 vl8 vc80 vc81 vc82 pl8 pc80 pc81 A8 B8 C8 D8 U8 V8 P8
  go_cut [28] from 29 to 146 (fun s28 wx => s28 = .bool true ∧ Gr wq wx)
  case first =>
    have aq0 := AQ.gw 0 rfl
    have aq1 := AQ.gw 1 rfl
    have aq2 := AQ.gw 2 rfl
    have bq0 := BQ.gw 0 rfl
    have bq1 := BQ.gw 1 rfl
    have bq2 := BQ.gw 2 rfl
    have cq0 := CQ.gw 0 rfl
    have cq1 := CQ.gw 1 rfl
    have dq0 := DQ.gw 0 rfl
    have dq1 := DQ.gw 1 rfl
    refine wp_region_gr (W := wq) (by kernel_rfl) (by kernel_rfl) (Gr.refl _) ?_
    repeat (go_big_quiet_step (fail))
    go_big_quiet_want; go_big_quiet_op
    go_big_quiet_call (exact Calls.cw ((sub2_any _ _ _ _ HC.out HD.out _).mono fun e w' h => by rw [HSS.out] at h; exact h))
    repeat (go_big_quiet_step (fail))
    go_big_quiet_want; go_big_quiet_op
    go_big_quiet_call (exact Calls.cw ((rsub2_any _ _ _ _ _).mono fun e w' h => by rw [HSS.out] at h; exact h))
    repeat (go_big_quiet_step (fail))
    go_big_quiet_want; go_big_quiet_op
    go_big_quiet_call (exact Calls.cw ((sub3_any _ _ _ _ _ _ HA.out HB.out _).mono fun e w' h => by rw [HTT.out] at h; exact h))
    repeat (go_big_quiet_step (fail))
    go_big_quiet_want; go_big_quiet_op
    go_big_quiet_call (exact Calls.cw ((rsub3_any _ _ _ _ _ _ _).mono fun e w' h => by rw [HTT.out] at h; exact h))
    repeat (go_big_quiet_step (fail))
    go_big_quiet_want; go_big_quiet_op
    go_big_quiet_call (exact Calls.cw ((axis_any _ _ _ HA.out.1 HA.out.2.1 HA.out.2.2 _).mono fun e w' h => by rw [HX6.out] at h; exact h))
    repeat (go_big_quiet_step (fail))
    go_big_quiet_want; go_big_quiet_op
    go_big_quiet_call (exact Calls.cw ((raxis_any _ _ _ HA.out.1 HA.out.2.1 HA.out.2.2 _).mono fun e w' h => by rw [HX6.out] at h; exact h))
    repeat (go_big_quiet_step (fail))
    go_big_quiet_want; go_big_quiet_op
    go_big_quiet_call (exact Calls.cw ((less3_any _ _ _ _ _ _ _).mono fun e w' h => by rw [HX7.out] at h; exact h))
    repeat (go_big_quiet_step (fail))
    go_big_quiet_want; go_big_quiet_op
    go_big_quiet_call (exact Calls.cw ((rless3_any _ _ _ _ _ _ _).mono fun e w' h => by rw [HX7.out] at h; exact h))
    repeat (go_big_quiet_step (fail))
    refine wpQuiet_nil ?_
    rintro _ ⟨x, rfl⟩
    go_wp2_with fail
    go_meet
    exact ⟨rfl, x.gr⟩
  case rest =>
    obtain ⟨rfl, gx⟩ := hcut
    have AX := AQ.gr gx
    have BX := BQ.gr gx
    have CX := CQ.gr gx
    have DX := DQ.gr gx
    have ggx := gwq.trans gx
    clear AQ BQ CQ DQ gwq gx
    go_wp2_with fail
    
    obtain ⟨ax0, ax1, ax2, ax3⟩ := AX.three
    obtain ⟨bx0, bx1, bx2, bx3⟩ := BX.three
    obtain ⟨cx0, cx1, cx2⟩ := CX.two
    obtain ⟨dx0, dx1, dx2⟩ := DX.two
    go_cut [10] from 147 to 179 (fun s10 wy => s10 = .bool true ∧ Gr w wy)
    case first =>
      refine wp_region_held_drew (S := fun w' => w'.cell? ⟨w.heap.size, 0, none⟩ = some (.int .i64 a1) ∧ w'.cell? ⟨w.heap.size, 1, none⟩ = some (.int .i64 a2) ∧ w'.cell? ⟨w.heap.size, 2, none⟩ = some (.int .i64 a3) ∧ w'.cell? ⟨w.heap.size + 1, 0, none⟩ = some (.int .i64 b1) ∧ w'.cell? ⟨w.heap.size + 1, 1, none⟩ = some (.int .i64 b2) ∧ w'.cell? ⟨w.heap.size + 1, 2, none⟩ = some (.int .i64 b3) ∧ w'.cell? ⟨w.heap.size + 1 + 1, 0, none⟩ = some (.int .i64 c1) ∧ w'.cell? ⟨w.heap.size + 1 + 1, 1, none⟩ = some (.int .i64 c2) ∧ w'.cell? ⟨w.heap.size + 1 + 1 + 1, 0, none⟩ = some (.int .i64 d1) ∧ w'.cell? ⟨w.heap.size + 1 + 1 + 1, 1, none⟩ = some (.int .i64 d2)) (by kernel_rfl) ?_ (fun hH => ?_)
      · (try dsimp only); refine keep10 ?_ ?_ ?_ ?_ <;> (repeat (first | with_reducible assumption | with_reducible apply Blk.drew | with_reducible apply Blk.alloc | (with_reducible refine Blk.gr ?_ (by with_reducible assumption))))
      refine wpAnyH_ready (rs := [0]) (by kernel_rfl) (by simp) ?_
      refine AllReadyH.cons rfl (fun K hK => ?_) AllReadyH.nil
      go_simp
      go_at_call 14; refine (crossed_any _).mono ?_; rintro e w' ⟨rfl, hgc⟩
      go_wp2_with fail
      refine hK.out _ _ ?_ (fun hN => ?_)
      · (try dsimp only); refine keep10 ?_ ?_ ?_ ?_ <;> (repeat (first | with_reducible assumption | with_reducible apply Blk.drew | with_reducible apply Blk.alloc | (with_reducible refine Blk.gr ?_ (by with_reducible assumption))))
      clear hK K hH
      have hH := hN; clear hN
      try simp only [Act.put, List.setIfInBounds_toArray, List.set_cons_zero, List.set_cons_succ, List.getElem_toArray, List.getElem_cons_succ, List.getElem_cons_zero]
      refine' wpAnyH_take (i := 1) (v := _) rfl (by kernel_rfl) (by kernel_rfl) (by kernel_rfl) (fun _ _ _ h => h) (Or.inl ⟨by rfl, ?thy⟩) (by assumption) ?_
      case thy => (intro w hSw; (try dsimp only at hSw); go_simp; try with_reducible rfl)
      try simp only [Act.put, List.setIfInBounds_toArray, List.set_cons_zero, List.set_cons_succ, List.getElem_toArray, List.getElem_cons_succ, List.getElem_cons_zero]
      refine' wpAnyH_take (i := 2) (v := _) rfl (by kernel_rfl) (by kernel_rfl) (by kernel_rfl) (fun _ _ _ h => h) (Or.inl ⟨by rfl, ?thy⟩) (by assumption) ?_
      case thy => (intro w hSw; (try dsimp only at hSw); go_simp; try with_reducible rfl)
      try simp only [Act.put, List.setIfInBounds_toArray, List.set_cons_zero, List.set_cons_succ, List.getElem_toArray, List.getElem_cons_succ, List.getElem_cons_zero]
      refine' wpAnyH_take (i := 3) (v := _) rfl (by kernel_rfl) (by kernel_rfl) (by kernel_rfl) (fun _ _ _ h => h) (Or.inl ⟨by rfl, ?thy⟩) (by assumption) ?_
      case thy => (intro w hSw; (try dsimp only at hSw); go_simp; try with_reducible rfl)
      try simp only [Act.put, List.setIfInBounds_toArray, List.set_cons_zero, List.set_cons_succ, List.getElem_toArray, List.getElem_cons_succ, List.getElem_cons_zero]
      refine' wpAnyH_take (i := 4) (v := _) rfl (by kernel_rfl) (by kernel_rfl) (by kernel_rfl) (fun _ _ _ h => h) (Or.inl ⟨by rfl, ?thy⟩) (by assumption) ?_
      case thy => (intro w hSw; (try dsimp only at hSw); go_simp; try with_reducible rfl)
      try simp only [Act.put, List.setIfInBounds_toArray, List.set_cons_zero, List.set_cons_succ, List.getElem_toArray, List.getElem_cons_succ, List.getElem_cons_zero]
      refine' wpAnyH_take (i := 5) (v := _) rfl (by kernel_rfl) (by kernel_rfl) (by kernel_rfl) (fun _ _ _ h => h) (Or.inl ⟨by rfl, ?thy⟩) (by assumption) ?_
      case thy => (intro w hSw; (try dsimp only at hSw); go_simp; try with_reducible rfl)
      try simp only [Act.put, List.setIfInBounds_toArray, List.set_cons_zero, List.set_cons_succ, List.getElem_toArray, List.getElem_cons_succ, List.getElem_cons_zero]
      refine' wpAnyH_take (i := 6) (v := _) rfl (by kernel_rfl) (by kernel_rfl) (by kernel_rfl) (fun _ _ _ h => h) (Or.inl ⟨by rfl, ?thy⟩) (by assumption) ?_
      case thy => (intro w hSw; (try dsimp only at hSw); go_simp; try with_reducible rfl)
      try simp only [Act.put, List.setIfInBounds_toArray, List.set_cons_zero, List.set_cons_succ, List.getElem_toArray, List.getElem_cons_succ, List.getElem_cons_zero]
      refine' wpAnyH_take (i := 7) (v := _) rfl (by kernel_rfl) (by kernel_rfl) (by kernel_rfl) (fun _ _ _ h => h) (Or.inl ⟨by rfl, ?thy⟩) (by assumption) ?_
      case thy => (intro w hSw; (try dsimp only at hSw); go_simp; try with_reducible rfl)
      try simp only [Act.put, List.setIfInBounds_toArray, List.set_cons_zero, List.set_cons_succ, List.getElem_toArray, List.getElem_cons_succ, List.getElem_cons_zero]
      refine' wpAnyH_take (i := 8) (v := _) rfl (by kernel_rfl) (by kernel_rfl) (by kernel_rfl) (fun _ _ _ h => h) (Or.inl ⟨by rfl, ?thy⟩) (by assumption) ?_
      case thy => (intro w hSw; (try dsimp only at hSw); go_simp; try with_reducible rfl)
      try simp only [Act.put, List.setIfInBounds_toArray, List.set_cons_zero, List.set_cons_succ, List.getElem_toArray, List.getElem_cons_succ, List.getElem_cons_zero]
      refine' wpAnyH_take (i := 9) (v := _) rfl (by kernel_rfl) (by kernel_rfl) (by kernel_rfl) (fun _ _ _ h => h) (Or.inl ⟨by rfl, ?thy⟩) (by assumption) ?_
      case thy => (intro w hSw; (try dsimp only at hSw); go_simp; try with_reducible rfl)
      try simp only [Act.put, List.setIfInBounds_toArray, List.set_cons_zero, List.set_cons_succ, List.getElem_toArray, List.getElem_cons_succ, List.getElem_cons_zero]
      refine' wpAnyH_take (i := 12) (v := _) rfl (by kernel_rfl) (by kernel_rfl) (by kernel_rfl) (fun _ _ _ h => h) (Or.inl ⟨by rfl, ?thy⟩) (by assumption) ?_
      case thy => (intro w hSw; (try dsimp only at hSw); go_simp; try with_reducible rfl)
      try simp only [Act.put, List.setIfInBounds_toArray, List.set_cons_zero, List.set_cons_succ, List.getElem_toArray, List.getElem_cons_succ, List.getElem_cons_zero]
      refine wpAnyH_ready (rs := [10]) (by kernel_rfl) (by simp) ?_
      refine AllReadyH.cons rfl (fun K hK => ?_) AllReadyH.nil
      go_simp
      refine hK.out _ _ ?_ (fun hN => ?_)
      · (try dsimp only); refine keep10 ?_ ?_ ?_ ?_ <;> (repeat (first | with_reducible assumption | with_reducible apply Blk.drew | with_reducible apply Blk.alloc | (with_reducible refine Blk.gr ?_ (by with_reducible assumption))))
      clear hK K hH
      have hH := hN; clear hN
      try simp only [Act.put, List.setIfInBounds_toArray, List.set_cons_zero, List.set_cons_succ, List.getElem_toArray, List.getElem_cons_succ, List.getElem_cons_zero]
      refine wpAnyH_ready (rs := [11]) (by kernel_rfl) (by simp) ?_
      refine AllReadyH.cons rfl (fun K hK => ?_) AllReadyH.nil
      go_simp
      go_at_call 31; refine (is2_two _ _ _ _ _ CD.out HC.out HD.out _ _ _ (by repeat (first | (refine Blk.new ?_; simp; done) | apply Blk.alloc | apply Blk.drew))).mono ?_; rintro e w' ⟨rfl, hg2⟩
      go_wp2_with fail
      refine hK.out _ _ ?_ (fun hN => ?_)
      · (try dsimp only); refine keep10 ?_ ?_ ?_ ?_ <;> (repeat (first | with_reducible assumption | with_reducible apply Blk.drew | with_reducible apply Blk.alloc | (with_reducible refine Blk.gr ?_ (by with_reducible assumption))))
      clear hK K hH
      have hH := hN; clear hN
      try simp only [Act.put, List.setIfInBounds_toArray, List.set_cons_zero, List.set_cons_succ, List.getElem_toArray, List.getElem_cons_succ, List.getElem_cons_zero]
      refine wpAnyH_ready (rs := [13]) (by kernel_rfl) (by simp) ?_
      refine AllReadyH.cons rfl (fun K hK => ?_) AllReadyH.nil
      go_simp
      go_at_call 32; refine (ris2_any _ _ _).mono ?_; rintro e w' ⟨rfl, rfl⟩; rw [NC.out]
      go_wp2_with fail
      refine hK.out _ _ ?_ (fun hN => ?_)
      · (try dsimp only); refine keep10 ?_ ?_ ?_ ?_ <;> (repeat (first | with_reducible assumption | with_reducible apply Blk.drew | with_reducible apply Blk.alloc | (with_reducible refine Blk.gr ?_ (by with_reducible assumption))))
      clear hK K hH
      have hH := hN; clear hN
      try simp only [Act.put, List.setIfInBounds_toArray, List.set_cons_zero, List.set_cons_succ, List.getElem_toArray, List.getElem_cons_succ, List.getElem_cons_zero]
      refine' wpAnyH_take (i := 14) (v := _) rfl (by kernel_rfl) (by kernel_rfl) (by kernel_rfl) (fun _ _ _ h => h) (Or.inl ⟨by rfl, ?thy⟩) (by assumption) ?_
      case thy => (intro w hSw; (try dsimp only at hSw); go_simp; try with_reducible rfl)
      try simp only [Act.put, List.setIfInBounds_toArray, List.set_cons_zero, List.set_cons_succ, List.getElem_toArray, List.getElem_cons_succ, List.getElem_cons_zero]
      refine' wpAnyH_take (i := 15) (v := _) rfl (by kernel_rfl) (by kernel_rfl) (by kernel_rfl) (fun _ _ _ h => h) (Or.inl ⟨by rfl, ?thy⟩) (by assumption) ?_
      case thy => (intro w hSw; (try dsimp only at hSw); go_simp; try with_reducible rfl)
      try simp only [Act.put, List.setIfInBounds_toArray, List.set_cons_zero, List.set_cons_succ, List.getElem_toArray, List.getElem_cons_succ, List.getElem_cons_zero]
      refine wpAnyH_ready (rs := [16]) (by kernel_rfl) (by simp) ?_
      refine AllReadyH.cons rfl (fun K hK => ?_) AllReadyH.nil
      go_simp
      go_at_call 32; refine (ris2_any _ _ _).mono ?_; rintro e w' ⟨rfl, rfl⟩; rw [ND.out]
      go_wp2_with fail
      refine hK.out _ _ ?_ (fun hN => ?_)
      · (try dsimp only); refine keep10 ?_ ?_ ?_ ?_ <;> (repeat (first | with_reducible assumption | with_reducible apply Blk.drew | with_reducible apply Blk.alloc | (with_reducible refine Blk.gr ?_ (by with_reducible assumption))))
      clear hK K hH
      have hH := hN; clear hN
      try simp only [Act.put, List.setIfInBounds_toArray, List.set_cons_zero, List.set_cons_succ, List.getElem_toArray, List.getElem_cons_succ, List.getElem_cons_zero]
      refine' wpAnyH_take (i := 17) (v := _) rfl (by kernel_rfl) (by kernel_rfl) (by kernel_rfl) (fun _ _ _ h => h) (Or.inl ⟨by rfl, ?thy⟩) (by assumption) ?_
      case thy => (intro w hSw; (try dsimp only at hSw); go_simp; try with_reducible rfl)
      try simp only [Act.put, List.setIfInBounds_toArray, List.set_cons_zero, List.set_cons_succ, List.getElem_toArray, List.getElem_cons_succ, List.getElem_cons_zero]
      refine' wpAnyH_take (i := 18) (v := _) rfl (by kernel_rfl) (by kernel_rfl) (by kernel_rfl) (fun _ _ _ h => h) (Or.inl ⟨by rfl, ?thy⟩) (by assumption) ?_
      case thy => (intro w hSw; (try dsimp only at hSw); go_simp; try with_reducible rfl)
      try simp only [Act.put, List.setIfInBounds_toArray, List.set_cons_zero, List.set_cons_succ, List.getElem_toArray, List.getElem_cons_succ, List.getElem_cons_zero]
      refine' wpAnyH_take (i := 19) (v := _) rfl (by kernel_rfl) (by kernel_rfl) (by kernel_rfl) (fun _ _ _ h => h) (Or.inl ⟨by rfl, ?thy⟩) (by assumption) ?_
      case thy => (intro w hSw; (try dsimp only at hSw); go_simp; try with_reducible rfl)
      try simp only [Act.put, List.setIfInBounds_toArray, List.set_cons_zero, List.set_cons_succ, List.getElem_toArray, List.getElem_cons_succ, List.getElem_cons_zero]
      refine' wpAnyH_take (i := 20) (v := _) rfl (by kernel_rfl) (by kernel_rfl) (by kernel_rfl) (fun _ _ _ h => h) (Or.inl ⟨by rfl, ?thy⟩) (by assumption) ?_
      case thy => (intro w hSw; (try dsimp only at hSw); go_simp; try with_reducible rfl)
      try simp only [Act.put, List.setIfInBounds_toArray, List.set_cons_zero, List.set_cons_succ, List.getElem_toArray, List.getElem_cons_succ, List.getElem_cons_zero]
      refine' wpAnyH_take (i := 21) (v := _) rfl (by kernel_rfl) (by kernel_rfl) (by kernel_rfl) (fun _ _ _ h => h) (Or.inl ⟨by rfl, ?thy⟩) (by assumption) ?_
      case thy => (intro w hSw; (try dsimp only at hSw); go_simp; try with_reducible rfl)
      try simp only [Act.put, List.setIfInBounds_toArray, List.set_cons_zero, List.set_cons_succ, List.getElem_toArray, List.getElem_cons_succ, List.getElem_cons_zero]
      refine' wpAnyH_take (i := 22) (v := _) rfl (by kernel_rfl) (by kernel_rfl) (by kernel_rfl) (fun _ _ _ h => h) (Or.inl ⟨by rfl, ?thy⟩) (by assumption) ?_
      case thy => (intro w hSw; (try dsimp only at hSw); go_simp; try with_reducible rfl)
      try simp only [Act.put, List.setIfInBounds_toArray, List.set_cons_zero, List.set_cons_succ, List.getElem_toArray, List.getElem_cons_succ, List.getElem_cons_zero]
      refine' wpAnyH_take (i := 25) (v := _) rfl (by kernel_rfl) (by kernel_rfl) (by kernel_rfl) (fun _ _ _ h => h) (Or.inl ⟨by rfl, ?thy⟩) (by assumption) ?_
      case thy => (intro w hSw; (try dsimp only at hSw); go_simp; try with_reducible rfl)
      try simp only [Act.put, List.setIfInBounds_toArray, List.set_cons_zero, List.set_cons_succ, List.getElem_toArray, List.getElem_cons_succ, List.getElem_cons_zero]
      refine wpAnyH_ready (rs := [23]) (by kernel_rfl) (by simp) ?_
      refine AllReadyH.cons rfl (fun K hK => ?_) AllReadyH.nil
      go_simp
      refine hK.out _ _ ?_ (fun hN => ?_)
      · (try dsimp only); refine keep10 ?_ ?_ ?_ ?_ <;> (repeat (first | with_reducible assumption | with_reducible apply Blk.drew | with_reducible apply Blk.alloc | (with_reducible refine Blk.gr ?_ (by with_reducible assumption))))
      clear hK K hH
      have hH := hN; clear hN
      try simp only [Act.put, List.setIfInBounds_toArray, List.set_cons_zero, List.set_cons_succ, List.getElem_toArray, List.getElem_cons_succ, List.getElem_cons_zero]
      refine wpAnyH_ready (rs := [24]) (by kernel_rfl) (by simp) ?_
      refine AllReadyH.cons rfl (fun K hK => ?_) AllReadyH.nil
      go_simp
      go_at_call 15; refine (is3_two _ _ _ _ _ _ _ AB.out HA.out HB.out _ _ _ (by repeat (first | (refine Blk.new ?_; simp; done) | apply Blk.alloc | apply Blk.drew))).mono ?_; rintro e w' ⟨rfl, hg3⟩
      go_wp2_with fail
      refine hK.out _ _ ?_ (fun hN => ?_)
      · (try dsimp only); refine keep10 ?_ ?_ ?_ ?_ <;> (repeat (first | with_reducible assumption | with_reducible apply Blk.drew | with_reducible apply Blk.alloc | (with_reducible refine Blk.gr ?_ (by with_reducible assumption))))
      clear hK K hH
      have hH := hN; clear hN
      try simp only [Act.put, List.setIfInBounds_toArray, List.set_cons_zero, List.set_cons_succ, List.getElem_toArray, List.getElem_cons_succ, List.getElem_cons_zero]
      refine wpAnyH_ready (rs := [26]) (by kernel_rfl) (by simp) ?_
      refine AllReadyH.cons rfl (fun K hK => ?_) AllReadyH.nil
      go_simp
      go_at_call 33; refine (ris3_any _ _ _ _).mono ?_; rintro e w' ⟨rfl, rfl⟩; rw [NA.out]
      go_wp2_with fail
      refine hK.out _ _ ?_ (fun hN => ?_)
      · (try dsimp only); refine keep10 ?_ ?_ ?_ ?_ <;> (repeat (first | with_reducible assumption | with_reducible apply Blk.drew | with_reducible apply Blk.alloc | (with_reducible refine Blk.gr ?_ (by with_reducible assumption))))
      clear hK K hH
      have hH := hN; clear hN
      try simp only [Act.put, List.setIfInBounds_toArray, List.set_cons_zero, List.set_cons_succ, List.getElem_toArray, List.getElem_cons_succ, List.getElem_cons_zero]
      refine' wpAnyH_take (i := 27) (v := _) rfl (by kernel_rfl) (by kernel_rfl) (by kernel_rfl) (fun _ _ _ h => h) (Or.inl ⟨by rfl, ?thy⟩) (by assumption) ?_
      case thy => (intro w hSw; (try dsimp only at hSw); go_simp; try with_reducible rfl)
      try simp only [Act.put, List.setIfInBounds_toArray, List.set_cons_zero, List.set_cons_succ, List.getElem_toArray, List.getElem_cons_succ, List.getElem_cons_zero]
      refine wpAnyH_take (i := 28) (v := undef) rfl (by kernel_rfl) (by kernel_rfl) (by kernel_rfl) (fun _ _ _ h => h) (Or.inr ⟨by rfl, rfl⟩) (by assumption) ?_
      try simp only [Act.put, List.setIfInBounds_toArray, List.set_cons_zero, List.set_cons_succ, List.getElem_toArray, List.getElem_cons_succ, List.getElem_cons_zero]
      refine wpAnyH_take (i := 29) (v := undef) rfl (by kernel_rfl) (by kernel_rfl) (by kernel_rfl) (fun _ _ _ h => h) (Or.inr ⟨by rfl, rfl⟩) (by assumption) ?_
      try simp only [Act.put, List.setIfInBounds_toArray, List.set_cons_zero, List.set_cons_succ, List.getElem_toArray, List.getElem_cons_succ, List.getElem_cons_zero]
      refine' wpAnyH_take (i := 30) (v := _) rfl (by kernel_rfl) (by kernel_rfl) (by kernel_rfl) (fun _ _ _ h => h) (Or.inl ⟨by rfl, ?thy⟩) (by assumption) ?_
      case thy => (intro w hSw; (try dsimp only at hSw); go_simp; try with_reducible rfl)
      try simp only [Act.put, List.setIfInBounds_toArray, List.set_cons_zero, List.set_cons_succ, List.getElem_toArray, List.getElem_cons_succ, List.getElem_cons_zero]
      refine' wpAnyH_take (i := 31) (v := _) rfl (by kernel_rfl) (by kernel_rfl) (by kernel_rfl) (fun _ _ _ h => h) (Or.inl ⟨by rfl, ?thy⟩) (by assumption) ?_
      case thy => (intro w hSw; (try dsimp only at hSw); go_simp; try with_reducible rfl)
      try simp only [Act.put, List.setIfInBounds_toArray, List.set_cons_zero, List.set_cons_succ, List.getElem_toArray, List.getElem_cons_succ, List.getElem_cons_zero]
      refine' wpAnyH_take (i := 32) (v := _) rfl (by kernel_rfl) (by kernel_rfl) (by kernel_rfl) (fun _ _ _ h => h) (Or.inl ⟨by rfl, ?thy⟩) (by assumption) ?_
      case thy => (intro w hSw; (try dsimp only at hSw); go_simp; try with_reducible rfl)
      try simp only [Act.put, List.setIfInBounds_toArray, List.set_cons_zero, List.set_cons_succ, List.getElem_toArray, List.getElem_cons_succ, List.getElem_cons_zero]
      refine' wpAnyH_take (i := 33) (v := _) rfl (by kernel_rfl) (by kernel_rfl) (by kernel_rfl) (fun _ _ _ h => h) (Or.inl ⟨by rfl, ?thy⟩) (by assumption) ?_
      case thy => (intro w hSw; (try dsimp only at hSw); go_simp; try with_reducible rfl)
      try simp only [Act.put, List.setIfInBounds_toArray, List.set_cons_zero, List.set_cons_succ, List.getElem_toArray, List.getElem_cons_succ, List.getElem_cons_zero]
      refine wpAnyH_done (by kernel_rfl) ?_ _
      all_goals go_wp2_with fail
      all_goals go_meet
      all_goals (refine ⟨rfl, ?_⟩)
      all_goals (repeat (first | exact Gr.refl _ | assumption | refine Gr.trans ?_ (by assumption) | apply Gr.alloc | apply Gr.drew | apply Gr.dn))
    case rest =>
      obtain ⟨rfl, gz⟩ := hcut
      go_wp2_with fail
      go_ret
      exact ⟨rfl, gz⟩

end Go.Proofs.Ytjnnonhapjdjoaa
