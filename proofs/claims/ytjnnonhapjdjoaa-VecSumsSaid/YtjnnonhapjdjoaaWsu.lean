/- The walk of VecSums. -/
import Derived.Test.YtjnnonhapjdjoaaVi
import Derived.Test.YtjnnonhapjdjoaaVp
set_option linter.unusedVariables false
namespace Go.Proofs.Ytjnnonhapjdjoaa
open Go.RowKit
open Vc

set_option maxRecDepth 100000 in
set_option maxHeartbeats 2000000 in
theorem walk_VecSums (w : World) (a1 a2 a3 : Int) (ia1 : I a1) (ia2 : I a2) (ia3 : I a3) (b1 b2 b3 : Int) (ib1 : I b1) (ib2 : I b2) (ib3 : I b3) (c1 c2 c3 : Int) (ic1 : I c1) (ic2 : I c2) (ic3 : I c3) :
    Calls Try.prog 5 #[.agg #[.int .i64 a1, .int .i64 a2, .int .i64 a3], .agg #[.int .i64 b1, .int .i64 b2, .int .i64 b3], .agg #[.int .i64 c1, .int .i64 c2, .int .i64 c3]] w fun e w' => e = .returned (.bool true) ∧ Gr w w' := by
  have HA := Lib.hid (And.intro ia1 (And.intro ia2 ia3)); clear ia1 ia2 ia3
  have HB := Lib.hid (And.intro ib1 (And.intro ib2 ib3)); clear ib1 ib2 ib3
  have HC := Lib.hid (And.intro ic1 (And.intro ic2 ic3)); clear ic1 ic2 ic3
  obtain ⟨⟨d1, d2, d3⟩, hd⟩ : ∃ d, sb ⟨b1, b2, b3⟩ ⟨c1, c2, c3⟩ = d := ⟨_, rfl⟩
  have hdI := sb_I ⟨b1, b2, b3⟩ ⟨c1, c2, c3⟩
  rw [hd] at hdI; dsimp only at hdI
  obtain ⟨x, hx⟩ : ∃ x, dt ⟨a1, a2, a3⟩ ⟨b1, b2, b3⟩ = x := ⟨_, rfl⟩
  obtain ⟨y, hy⟩ : ∃ x, dt ⟨a1, a2, a3⟩ ⟨c1, c2, c3⟩ = x := ⟨_, rfl⟩
  obtain ⟨z, hz⟩ : ∃ x, dt ⟨a1, a2, a3⟩ ⟨d1, d2, d3⟩ = x := ⟨_, rfl⟩
  have hs : dt ⟨b1, b2, b3⟩ ⟨a1, a2, a3⟩ = x := by rw [dt_comm]; exact hx
  obtain ⟨x1, x2⟩ : -3298534883328 ≤ x ∧ x ≤ 3298534883328 := by rw [← hx]; exact dt_bd _ _
  obtain ⟨y1, y2⟩ : -3298534883328 ≤ y ∧ y ≤ 3298534883328 := by rw [← hy]; exact dt_bd _ _
  have hsub : nn ⟨a1, a2, a3⟩ ⟨b1, b2, b3⟩ = true → nn ⟨a1, a2, a3⟩ ⟨c1, c2, c3⟩ = true → nn ⟨a1, a2, a3⟩ ⟨d1, d2, d3⟩ = true → z = x - y := by
    intro h1 h2 h3
    rw [← hz, ← hx, ← hy, ← hd]
    exact dt_sub h1 h2 (by rw [hd]; exact h3)
  have XE := Lib.hid hx; have YE := Lib.hid hy; have ZE := Lib.hid hz; have SE := Lib.hid hs; have DE := Lib.hid hd; have DI := Lib.hid hdI; have SUB := Lib.hid hsub
  clear hx hy hz hs hd hdI hsub
  have c1' : ∃ t, ne3 ⟨a1, a2, a3⟩ ⟨c1, c2, c3⟩ = t ∧ (t = 0 ∨ t = 5) := ⟨_, rfl, by unfold ne3; split <;> simp⟩
  have c2' : ∃ t, ne3 ⟨a1, a2, a3⟩ ⟨d1, d2, d3⟩ = t ∧ (t = 0 ∨ t = 5) := ⟨_, rfl, by unfold ne3; split <;> simp⟩
  obtain ⟨fac, hac, cac⟩ := c1'
  obtain ⟨fad, had, cad⟩ := c2'
  have FAC := Lib.hid hac; have FAD := Lib.hid had
  by_cases h1 : nn ⟨a1, a2, a3⟩ ⟨b1, b2, b3⟩ = true
  · have FAB := Lib.hid (ne3_yes h1)
    have FBA := Lib.hid ((ne3_comm _ _).trans (ne3_yes h1))
    have H1 := Lib.hid h1; clear h1
    by_cases h2 : nn ⟨a1, a2, a3⟩ ⟨c1, c2, c3⟩ = true
    · have t2 := ne3_yes h2
      rw [hac] at t2; subst t2
      by_cases h3 : nn ⟨a1, a2, a3⟩ ⟨d1, d2, d3⟩ = true
      · have t3 := ne3_yes h3
        rw [had] at t3; subst t3
        have hzz := SUB.out H1.out h2 h3
        subst hzz
        clear h2 h3 hac had cac cad
        go_enter Try.func5, Try.ntmps5
        go_wp2_with fail
        refine (sub3_any _ _ _ _ _ _ HB.out HC.out _).mono ?_; rintro e w1 ⟨rfl, hg1⟩
        rw [DE.out]; dsimp only
        have A1 := Blk.gr (b := w.heap.size) (vs := [.int .i64 a1, .int .i64 a2, .int .i64 a3]) (by repeat (first | assumption | (refine Blk.new ?_; simp; done) | apply Blk.alloc | apply Blk.drew | apply Blk.dn)) hg1
        have B1 := Blk.gr (b := w.heap.size + 1) (vs := [.int .i64 b1, .int .i64 b2, .int .i64 b3]) (by repeat (first | assumption | (refine Blk.new ?_; simp; done) | apply Blk.alloc | apply Blk.drew | apply Blk.dn)) hg1
        have C1 := Blk.gr (b := w.heap.size + 1 + 1) (vs := [.int .i64 c1, .int .i64 c2, .int .i64 c3]) (by repeat (first | assumption | (refine Blk.new ?_; simp; done) | apply Blk.alloc | apply Blk.drew | apply Blk.dn)) hg1
        have gg1 : Gr w w1 := by repeat (first | exact Gr.refl _ | assumption | refine Gr.trans ?_ (by assumption) | apply Gr.alloc | apply Gr.drew | apply Gr.dn)
        clear hg1
        obtain ⟨al1, ac10, ac11, ac12⟩ := A1.three
        obtain ⟨bl1, bc10, bc11, bc12⟩ := B1.three
        obtain ⟨cl1, cc10, cc11, cc12⟩ := C1.three
        go_wp2_with fail
        refine (dot_any _ _ _ _ _ _ HA.out HB.out _).mono ?_; rintro e w2 ⟨rfl, hg2⟩
        rw [XE.out, FAB.out]
        have A2 := Blk.gr (b := w.heap.size) (vs := [.int .i64 a1, .int .i64 a2, .int .i64 a3]) (by repeat (first | assumption | (refine Blk.new ?_; simp; done) | apply Blk.alloc | apply Blk.drew | apply Blk.dn)) hg2
        have B2 := Blk.gr (b := w.heap.size + 1) (vs := [.int .i64 b1, .int .i64 b2, .int .i64 b3]) (by repeat (first | assumption | (refine Blk.new ?_; simp; done) | apply Blk.alloc | apply Blk.drew | apply Blk.dn)) hg2
        have C2 := Blk.gr (b := w.heap.size + 1 + 1) (vs := [.int .i64 c1, .int .i64 c2, .int .i64 c3]) (by repeat (first | assumption | (refine Blk.new ?_; simp; done) | apply Blk.alloc | apply Blk.drew | apply Blk.dn)) hg2
        have D2 := Blk.gr (b := w1.heap.size) (vs := [.int .i64 d1, .int .i64 d2, .int .i64 d3]) (by repeat (first | assumption | (refine Blk.new ?_; simp; done) | apply Blk.alloc | apply Blk.drew | apply Blk.dn)) hg2
        have gg2 : Gr w w2 := by repeat (first | exact Gr.refl _ | assumption | refine Gr.trans ?_ (by assumption) | apply Gr.alloc | apply Gr.drew | apply Gr.dn)
        clear hg2 al1 ac10 ac11 ac12 bl1 bc10 bc11 bc12 cl1 cc10 cc11 cc12 A1 B1 C1 gg1
        obtain ⟨al2, ac20, ac21, ac22⟩ := A2.three
        obtain ⟨bl2, bc20, bc21, bc22⟩ := B2.three
        obtain ⟨cl2, cc20, cc21, cc22⟩ := C2.three
        obtain ⟨dl2, dc20, dc21, dc22⟩ := D2.three
        go_wp2_with fail
        refine (dot_any _ _ _ _ _ _ HA.out HC.out _).mono ?_; rintro e w3 ⟨rfl, hg3⟩
        rw [YE.out, FAC.out]
        have A3 := Blk.gr (b := w.heap.size) (vs := [.int .i64 a1, .int .i64 a2, .int .i64 a3]) (by repeat (first | assumption | (refine Blk.new ?_; simp; done) | apply Blk.alloc | apply Blk.drew | apply Blk.dn)) hg3
        have B3 := Blk.gr (b := w.heap.size + 1) (vs := [.int .i64 b1, .int .i64 b2, .int .i64 b3]) (by repeat (first | assumption | (refine Blk.new ?_; simp; done) | apply Blk.alloc | apply Blk.drew | apply Blk.dn)) hg3
        have C3 := Blk.gr (b := w.heap.size + 1 + 1) (vs := [.int .i64 c1, .int .i64 c2, .int .i64 c3]) (by repeat (first | assumption | (refine Blk.new ?_; simp; done) | apply Blk.alloc | apply Blk.drew | apply Blk.dn)) hg3
        have D3 := Blk.gr (b := w1.heap.size) (vs := [.int .i64 d1, .int .i64 d2, .int .i64 d3]) (by repeat (first | assumption | (refine Blk.new ?_; simp; done) | apply Blk.alloc | apply Blk.drew | apply Blk.dn)) hg3
        have gg3 : Gr w w3 := by repeat (first | exact Gr.refl _ | assumption | refine Gr.trans ?_ (by assumption) | apply Gr.alloc | apply Gr.drew | apply Gr.dn)
        clear hg3 al2 ac20 ac21 ac22 bl2 bc20 bc21 bc22 cl2 cc20 cc21 cc22 dl2 dc20 dc21 dc22 A2 B2 C2 D2 gg2
        obtain ⟨al3, ac30, ac31, ac32⟩ := A3.three
        obtain ⟨bl3, bc30, bc31, bc32⟩ := B3.three
        obtain ⟨cl3, cc30, cc31, cc32⟩ := C3.three
        obtain ⟨dl3, dc30, dc31, dc32⟩ := D3.three
        go_wp2_with fail
        refine (dot_any _ _ _ _ _ _ HA.out DI.out _).mono ?_; rintro e w4 ⟨rfl, hg4⟩
        rw [ZE.out, FAD.out]
        have A4 := Blk.gr (b := w.heap.size) (vs := [.int .i64 a1, .int .i64 a2, .int .i64 a3]) (by repeat (first | assumption | (refine Blk.new ?_; simp; done) | apply Blk.alloc | apply Blk.drew | apply Blk.dn)) hg4
        have B4 := Blk.gr (b := w.heap.size + 1) (vs := [.int .i64 b1, .int .i64 b2, .int .i64 b3]) (by repeat (first | assumption | (refine Blk.new ?_; simp; done) | apply Blk.alloc | apply Blk.drew | apply Blk.dn)) hg4
        have C4 := Blk.gr (b := w.heap.size + 1 + 1) (vs := [.int .i64 c1, .int .i64 c2, .int .i64 c3]) (by repeat (first | assumption | (refine Blk.new ?_; simp; done) | apply Blk.alloc | apply Blk.drew | apply Blk.dn)) hg4
        have D4 := Blk.gr (b := w1.heap.size) (vs := [.int .i64 d1, .int .i64 d2, .int .i64 d3]) (by repeat (first | assumption | (refine Blk.new ?_; simp; done) | apply Blk.alloc | apply Blk.drew | apply Blk.dn)) hg4
        have gg4 : Gr w w4 := by repeat (first | exact Gr.refl _ | assumption | refine Gr.trans ?_ (by assumption) | apply Gr.alloc | apply Gr.drew | apply Gr.dn)
        clear hg4 al3 ac30 ac31 ac32 bl3 bc30 bc31 bc32 cl3 cc30 cc31 cc32 dl3 dc30 dc31 dc32 A3 B3 C3 D3 gg3
        obtain ⟨al4, ac40, ac41, ac42⟩ := A4.three
        obtain ⟨bl4, bc40, bc41, bc42⟩ := B4.three
        obtain ⟨cl4, cc40, cc41, cc42⟩ := C4.three
        obtain ⟨dl4, dc40, dc41, dc42⟩ := D4.three
        go_wp2_with fail
        refine (dot_any _ _ _ _ _ _ HB.out HA.out _).mono ?_; rintro e w5 ⟨rfl, hg5⟩
        rw [SE.out, FBA.out]
        have A5 := Blk.gr (b := w.heap.size) (vs := [.int .i64 a1, .int .i64 a2, .int .i64 a3]) (by repeat (first | assumption | (refine Blk.new ?_; simp; done) | apply Blk.alloc | apply Blk.drew | apply Blk.dn)) hg5
        have B5 := Blk.gr (b := w.heap.size + 1) (vs := [.int .i64 b1, .int .i64 b2, .int .i64 b3]) (by repeat (first | assumption | (refine Blk.new ?_; simp; done) | apply Blk.alloc | apply Blk.drew | apply Blk.dn)) hg5
        have C5 := Blk.gr (b := w.heap.size + 1 + 1) (vs := [.int .i64 c1, .int .i64 c2, .int .i64 c3]) (by repeat (first | assumption | (refine Blk.new ?_; simp; done) | apply Blk.alloc | apply Blk.drew | apply Blk.dn)) hg5
        have D5 := Blk.gr (b := w1.heap.size) (vs := [.int .i64 d1, .int .i64 d2, .int .i64 d3]) (by repeat (first | assumption | (refine Blk.new ?_; simp; done) | apply Blk.alloc | apply Blk.drew | apply Blk.dn)) hg5
        have gg5 : Gr w w5 := by repeat (first | exact Gr.refl _ | assumption | refine Gr.trans ?_ (by assumption) | apply Gr.alloc | apply Gr.drew | apply Gr.dn)
        clear hg5 al4 ac40 ac41 ac42 bl4 bc40 bc41 bc42 cl4 cc40 cc41 cc42 dl4 dc40 dc41 dc42 A4 B4 C4 D4 gg4
        obtain ⟨al5, ac50, ac51, ac52⟩ := A5.three
        obtain ⟨bl5, bc50, bc51, bc52⟩ := B5.three
        obtain ⟨cl5, cc50, cc51, cc52⟩ := C5.three
        obtain ⟨dl5, dc50, dc51, dc52⟩ := D5.three
        go_wp2_with fail
        refine (crossed_any _).mono ?_; rintro e w6 ⟨rfl, hg6⟩
        have A6 := Blk.gr (b := w.heap.size) (vs := [.int .i64 a1, .int .i64 a2, .int .i64 a3]) (by repeat (first | assumption | (refine Blk.new ?_; simp; done) | apply Blk.alloc | apply Blk.drew | apply Blk.dn)) hg6
        have B6 := Blk.gr (b := w.heap.size + 1) (vs := [.int .i64 b1, .int .i64 b2, .int .i64 b3]) (by repeat (first | assumption | (refine Blk.new ?_; simp; done) | apply Blk.alloc | apply Blk.drew | apply Blk.dn)) hg6
        have C6 := Blk.gr (b := w.heap.size + 1 + 1) (vs := [.int .i64 c1, .int .i64 c2, .int .i64 c3]) (by repeat (first | assumption | (refine Blk.new ?_; simp; done) | apply Blk.alloc | apply Blk.drew | apply Blk.dn)) hg6
        have D6 := Blk.gr (b := w1.heap.size) (vs := [.int .i64 d1, .int .i64 d2, .int .i64 d3]) (by repeat (first | assumption | (refine Blk.new ?_; simp; done) | apply Blk.alloc | apply Blk.drew | apply Blk.dn)) hg6
        have gg6 : Gr w w6 := by repeat (first | exact Gr.refl _ | assumption | refine Gr.trans ?_ (by assumption) | apply Gr.alloc | apply Gr.drew | apply Gr.dn)
        clear hg6 al5 ac50 ac51 ac52 bl5 bc50 bc51 bc52 cl5 cc50 cc51 cc52 dl5 dc50 dc51 dc52 A5 B5 C5 D5 gg5
        obtain ⟨al6, ac60, ac61, ac62⟩ := A6.three
        obtain ⟨bl6, bc60, bc61, bc62⟩ := B6.three
        obtain ⟨cl6, cc60, cc61, cc62⟩ := C6.three
        obtain ⟨dl6, dc60, dc61, dc62⟩ := D6.three
        go_wp2_with fail
        go_ret
        exact ⟨rfl, gg6⟩
      · have t3 := ne3_no h3
        rw [had] at t3; subst t3
        clear h2 h3 hac had cac cad
        go_enter Try.func5, Try.ntmps5
        go_wp2_with fail
        refine (sub3_any _ _ _ _ _ _ HB.out HC.out _).mono ?_; rintro e w1 ⟨rfl, hg1⟩
        rw [DE.out]; dsimp only
        have A1 := Blk.gr (b := w.heap.size) (vs := [.int .i64 a1, .int .i64 a2, .int .i64 a3]) (by repeat (first | assumption | (refine Blk.new ?_; simp; done) | apply Blk.alloc | apply Blk.drew | apply Blk.dn)) hg1
        have B1 := Blk.gr (b := w.heap.size + 1) (vs := [.int .i64 b1, .int .i64 b2, .int .i64 b3]) (by repeat (first | assumption | (refine Blk.new ?_; simp; done) | apply Blk.alloc | apply Blk.drew | apply Blk.dn)) hg1
        have C1 := Blk.gr (b := w.heap.size + 1 + 1) (vs := [.int .i64 c1, .int .i64 c2, .int .i64 c3]) (by repeat (first | assumption | (refine Blk.new ?_; simp; done) | apply Blk.alloc | apply Blk.drew | apply Blk.dn)) hg1
        have gg1 : Gr w w1 := by repeat (first | exact Gr.refl _ | assumption | refine Gr.trans ?_ (by assumption) | apply Gr.alloc | apply Gr.drew | apply Gr.dn)
        clear hg1
        obtain ⟨al1, ac10, ac11, ac12⟩ := A1.three
        obtain ⟨bl1, bc10, bc11, bc12⟩ := B1.three
        obtain ⟨cl1, cc10, cc11, cc12⟩ := C1.three
        go_wp2_with fail
        refine (dot_any _ _ _ _ _ _ HA.out HB.out _).mono ?_; rintro e w2 ⟨rfl, hg2⟩
        rw [XE.out, FAB.out]
        have A2 := Blk.gr (b := w.heap.size) (vs := [.int .i64 a1, .int .i64 a2, .int .i64 a3]) (by repeat (first | assumption | (refine Blk.new ?_; simp; done) | apply Blk.alloc | apply Blk.drew | apply Blk.dn)) hg2
        have B2 := Blk.gr (b := w.heap.size + 1) (vs := [.int .i64 b1, .int .i64 b2, .int .i64 b3]) (by repeat (first | assumption | (refine Blk.new ?_; simp; done) | apply Blk.alloc | apply Blk.drew | apply Blk.dn)) hg2
        have C2 := Blk.gr (b := w.heap.size + 1 + 1) (vs := [.int .i64 c1, .int .i64 c2, .int .i64 c3]) (by repeat (first | assumption | (refine Blk.new ?_; simp; done) | apply Blk.alloc | apply Blk.drew | apply Blk.dn)) hg2
        have D2 := Blk.gr (b := w1.heap.size) (vs := [.int .i64 d1, .int .i64 d2, .int .i64 d3]) (by repeat (first | assumption | (refine Blk.new ?_; simp; done) | apply Blk.alloc | apply Blk.drew | apply Blk.dn)) hg2
        have gg2 : Gr w w2 := by repeat (first | exact Gr.refl _ | assumption | refine Gr.trans ?_ (by assumption) | apply Gr.alloc | apply Gr.drew | apply Gr.dn)
        clear hg2 al1 ac10 ac11 ac12 bl1 bc10 bc11 bc12 cl1 cc10 cc11 cc12 A1 B1 C1 gg1
        obtain ⟨al2, ac20, ac21, ac22⟩ := A2.three
        obtain ⟨bl2, bc20, bc21, bc22⟩ := B2.three
        obtain ⟨cl2, cc20, cc21, cc22⟩ := C2.three
        obtain ⟨dl2, dc20, dc21, dc22⟩ := D2.three
        go_wp2_with fail
        refine (dot_any _ _ _ _ _ _ HA.out HC.out _).mono ?_; rintro e w3 ⟨rfl, hg3⟩
        rw [YE.out, FAC.out]
        have A3 := Blk.gr (b := w.heap.size) (vs := [.int .i64 a1, .int .i64 a2, .int .i64 a3]) (by repeat (first | assumption | (refine Blk.new ?_; simp; done) | apply Blk.alloc | apply Blk.drew | apply Blk.dn)) hg3
        have B3 := Blk.gr (b := w.heap.size + 1) (vs := [.int .i64 b1, .int .i64 b2, .int .i64 b3]) (by repeat (first | assumption | (refine Blk.new ?_; simp; done) | apply Blk.alloc | apply Blk.drew | apply Blk.dn)) hg3
        have C3 := Blk.gr (b := w.heap.size + 1 + 1) (vs := [.int .i64 c1, .int .i64 c2, .int .i64 c3]) (by repeat (first | assumption | (refine Blk.new ?_; simp; done) | apply Blk.alloc | apply Blk.drew | apply Blk.dn)) hg3
        have D3 := Blk.gr (b := w1.heap.size) (vs := [.int .i64 d1, .int .i64 d2, .int .i64 d3]) (by repeat (first | assumption | (refine Blk.new ?_; simp; done) | apply Blk.alloc | apply Blk.drew | apply Blk.dn)) hg3
        have gg3 : Gr w w3 := by repeat (first | exact Gr.refl _ | assumption | refine Gr.trans ?_ (by assumption) | apply Gr.alloc | apply Gr.drew | apply Gr.dn)
        clear hg3 al2 ac20 ac21 ac22 bl2 bc20 bc21 bc22 cl2 cc20 cc21 cc22 dl2 dc20 dc21 dc22 A2 B2 C2 D2 gg2
        obtain ⟨al3, ac30, ac31, ac32⟩ := A3.three
        obtain ⟨bl3, bc30, bc31, bc32⟩ := B3.three
        obtain ⟨cl3, cc30, cc31, cc32⟩ := C3.three
        obtain ⟨dl3, dc30, dc31, dc32⟩ := D3.three
        go_wp2_with fail
        refine (dot_any _ _ _ _ _ _ HA.out DI.out _).mono ?_; rintro e w4 ⟨rfl, hg4⟩
        rw [ZE.out, FAD.out]
        have A4 := Blk.gr (b := w.heap.size) (vs := [.int .i64 a1, .int .i64 a2, .int .i64 a3]) (by repeat (first | assumption | (refine Blk.new ?_; simp; done) | apply Blk.alloc | apply Blk.drew | apply Blk.dn)) hg4
        have B4 := Blk.gr (b := w.heap.size + 1) (vs := [.int .i64 b1, .int .i64 b2, .int .i64 b3]) (by repeat (first | assumption | (refine Blk.new ?_; simp; done) | apply Blk.alloc | apply Blk.drew | apply Blk.dn)) hg4
        have C4 := Blk.gr (b := w.heap.size + 1 + 1) (vs := [.int .i64 c1, .int .i64 c2, .int .i64 c3]) (by repeat (first | assumption | (refine Blk.new ?_; simp; done) | apply Blk.alloc | apply Blk.drew | apply Blk.dn)) hg4
        have D4 := Blk.gr (b := w1.heap.size) (vs := [.int .i64 d1, .int .i64 d2, .int .i64 d3]) (by repeat (first | assumption | (refine Blk.new ?_; simp; done) | apply Blk.alloc | apply Blk.drew | apply Blk.dn)) hg4
        have gg4 : Gr w w4 := by repeat (first | exact Gr.refl _ | assumption | refine Gr.trans ?_ (by assumption) | apply Gr.alloc | apply Gr.drew | apply Gr.dn)
        clear hg4 al3 ac30 ac31 ac32 bl3 bc30 bc31 bc32 cl3 cc30 cc31 cc32 dl3 dc30 dc31 dc32 A3 B3 C3 D3 gg3
        obtain ⟨al4, ac40, ac41, ac42⟩ := A4.three
        obtain ⟨bl4, bc40, bc41, bc42⟩ := B4.three
        obtain ⟨cl4, cc40, cc41, cc42⟩ := C4.three
        obtain ⟨dl4, dc40, dc41, dc42⟩ := D4.three
        go_wp2_with fail
        refine (dot_any _ _ _ _ _ _ HB.out HA.out _).mono ?_; rintro e w5 ⟨rfl, hg5⟩
        rw [SE.out, FBA.out]
        have A5 := Blk.gr (b := w.heap.size) (vs := [.int .i64 a1, .int .i64 a2, .int .i64 a3]) (by repeat (first | assumption | (refine Blk.new ?_; simp; done) | apply Blk.alloc | apply Blk.drew | apply Blk.dn)) hg5
        have B5 := Blk.gr (b := w.heap.size + 1) (vs := [.int .i64 b1, .int .i64 b2, .int .i64 b3]) (by repeat (first | assumption | (refine Blk.new ?_; simp; done) | apply Blk.alloc | apply Blk.drew | apply Blk.dn)) hg5
        have C5 := Blk.gr (b := w.heap.size + 1 + 1) (vs := [.int .i64 c1, .int .i64 c2, .int .i64 c3]) (by repeat (first | assumption | (refine Blk.new ?_; simp; done) | apply Blk.alloc | apply Blk.drew | apply Blk.dn)) hg5
        have D5 := Blk.gr (b := w1.heap.size) (vs := [.int .i64 d1, .int .i64 d2, .int .i64 d3]) (by repeat (first | assumption | (refine Blk.new ?_; simp; done) | apply Blk.alloc | apply Blk.drew | apply Blk.dn)) hg5
        have gg5 : Gr w w5 := by repeat (first | exact Gr.refl _ | assumption | refine Gr.trans ?_ (by assumption) | apply Gr.alloc | apply Gr.drew | apply Gr.dn)
        clear hg5 al4 ac40 ac41 ac42 bl4 bc40 bc41 bc42 cl4 cc40 cc41 cc42 dl4 dc40 dc41 dc42 A4 B4 C4 D4 gg4
        obtain ⟨al5, ac50, ac51, ac52⟩ := A5.three
        obtain ⟨bl5, bc50, bc51, bc52⟩ := B5.three
        obtain ⟨cl5, cc50, cc51, cc52⟩ := C5.three
        obtain ⟨dl5, dc50, dc51, dc52⟩ := D5.three
        go_wp2_with fail
        refine (crossed_any _).mono ?_; rintro e w6 ⟨rfl, hg6⟩
        have A6 := Blk.gr (b := w.heap.size) (vs := [.int .i64 a1, .int .i64 a2, .int .i64 a3]) (by repeat (first | assumption | (refine Blk.new ?_; simp; done) | apply Blk.alloc | apply Blk.drew | apply Blk.dn)) hg6
        have B6 := Blk.gr (b := w.heap.size + 1) (vs := [.int .i64 b1, .int .i64 b2, .int .i64 b3]) (by repeat (first | assumption | (refine Blk.new ?_; simp; done) | apply Blk.alloc | apply Blk.drew | apply Blk.dn)) hg6
        have C6 := Blk.gr (b := w.heap.size + 1 + 1) (vs := [.int .i64 c1, .int .i64 c2, .int .i64 c3]) (by repeat (first | assumption | (refine Blk.new ?_; simp; done) | apply Blk.alloc | apply Blk.drew | apply Blk.dn)) hg6
        have D6 := Blk.gr (b := w1.heap.size) (vs := [.int .i64 d1, .int .i64 d2, .int .i64 d3]) (by repeat (first | assumption | (refine Blk.new ?_; simp; done) | apply Blk.alloc | apply Blk.drew | apply Blk.dn)) hg6
        have gg6 : Gr w w6 := by repeat (first | exact Gr.refl _ | assumption | refine Gr.trans ?_ (by assumption) | apply Gr.alloc | apply Gr.drew | apply Gr.dn)
        clear hg6 al5 ac50 ac51 ac52 bl5 bc50 bc51 bc52 cl5 cc50 cc51 cc52 dl5 dc50 dc51 dc52 A5 B5 C5 D5 gg5
        obtain ⟨al6, ac60, ac61, ac62⟩ := A6.three
        obtain ⟨bl6, bc60, bc61, bc62⟩ := B6.three
        obtain ⟨cl6, cc60, cc61, cc62⟩ := C6.three
        obtain ⟨dl6, dc60, dc61, dc62⟩ := D6.three
        go_wp2_with fail
        go_ret
        exact ⟨rfl, gg6⟩
    · have t2 := ne3_no h2
      rw [hac] at t2; subst t2
      clear h2 hac had cac
      rcases cad with rfl | rfl
      all_goals
        go_enter Try.func5, Try.ntmps5
        go_wp2_with fail
        refine (sub3_any _ _ _ _ _ _ HB.out HC.out _).mono ?_; rintro e w1 ⟨rfl, hg1⟩
        rw [DE.out]; dsimp only
        have A1 := Blk.gr (b := w.heap.size) (vs := [.int .i64 a1, .int .i64 a2, .int .i64 a3]) (by repeat (first | assumption | (refine Blk.new ?_; simp; done) | apply Blk.alloc | apply Blk.drew | apply Blk.dn)) hg1
        have B1 := Blk.gr (b := w.heap.size + 1) (vs := [.int .i64 b1, .int .i64 b2, .int .i64 b3]) (by repeat (first | assumption | (refine Blk.new ?_; simp; done) | apply Blk.alloc | apply Blk.drew | apply Blk.dn)) hg1
        have C1 := Blk.gr (b := w.heap.size + 1 + 1) (vs := [.int .i64 c1, .int .i64 c2, .int .i64 c3]) (by repeat (first | assumption | (refine Blk.new ?_; simp; done) | apply Blk.alloc | apply Blk.drew | apply Blk.dn)) hg1
        have gg1 : Gr w w1 := by repeat (first | exact Gr.refl _ | assumption | refine Gr.trans ?_ (by assumption) | apply Gr.alloc | apply Gr.drew | apply Gr.dn)
        clear hg1
        obtain ⟨al1, ac10, ac11, ac12⟩ := A1.three
        obtain ⟨bl1, bc10, bc11, bc12⟩ := B1.three
        obtain ⟨cl1, cc10, cc11, cc12⟩ := C1.three
        go_wp2_with fail
        refine (dot_any _ _ _ _ _ _ HA.out HB.out _).mono ?_; rintro e w2 ⟨rfl, hg2⟩
        rw [XE.out, FAB.out]
        have A2 := Blk.gr (b := w.heap.size) (vs := [.int .i64 a1, .int .i64 a2, .int .i64 a3]) (by repeat (first | assumption | (refine Blk.new ?_; simp; done) | apply Blk.alloc | apply Blk.drew | apply Blk.dn)) hg2
        have B2 := Blk.gr (b := w.heap.size + 1) (vs := [.int .i64 b1, .int .i64 b2, .int .i64 b3]) (by repeat (first | assumption | (refine Blk.new ?_; simp; done) | apply Blk.alloc | apply Blk.drew | apply Blk.dn)) hg2
        have C2 := Blk.gr (b := w.heap.size + 1 + 1) (vs := [.int .i64 c1, .int .i64 c2, .int .i64 c3]) (by repeat (first | assumption | (refine Blk.new ?_; simp; done) | apply Blk.alloc | apply Blk.drew | apply Blk.dn)) hg2
        have D2 := Blk.gr (b := w1.heap.size) (vs := [.int .i64 d1, .int .i64 d2, .int .i64 d3]) (by repeat (first | assumption | (refine Blk.new ?_; simp; done) | apply Blk.alloc | apply Blk.drew | apply Blk.dn)) hg2
        have gg2 : Gr w w2 := by repeat (first | exact Gr.refl _ | assumption | refine Gr.trans ?_ (by assumption) | apply Gr.alloc | apply Gr.drew | apply Gr.dn)
        clear hg2 al1 ac10 ac11 ac12 bl1 bc10 bc11 bc12 cl1 cc10 cc11 cc12 A1 B1 C1 gg1
        obtain ⟨al2, ac20, ac21, ac22⟩ := A2.three
        obtain ⟨bl2, bc20, bc21, bc22⟩ := B2.three
        obtain ⟨cl2, cc20, cc21, cc22⟩ := C2.three
        obtain ⟨dl2, dc20, dc21, dc22⟩ := D2.three
        go_wp2_with fail
        refine (dot_any _ _ _ _ _ _ HA.out HC.out _).mono ?_; rintro e w3 ⟨rfl, hg3⟩
        rw [YE.out, FAC.out]
        have A3 := Blk.gr (b := w.heap.size) (vs := [.int .i64 a1, .int .i64 a2, .int .i64 a3]) (by repeat (first | assumption | (refine Blk.new ?_; simp; done) | apply Blk.alloc | apply Blk.drew | apply Blk.dn)) hg3
        have B3 := Blk.gr (b := w.heap.size + 1) (vs := [.int .i64 b1, .int .i64 b2, .int .i64 b3]) (by repeat (first | assumption | (refine Blk.new ?_; simp; done) | apply Blk.alloc | apply Blk.drew | apply Blk.dn)) hg3
        have C3 := Blk.gr (b := w.heap.size + 1 + 1) (vs := [.int .i64 c1, .int .i64 c2, .int .i64 c3]) (by repeat (first | assumption | (refine Blk.new ?_; simp; done) | apply Blk.alloc | apply Blk.drew | apply Blk.dn)) hg3
        have D3 := Blk.gr (b := w1.heap.size) (vs := [.int .i64 d1, .int .i64 d2, .int .i64 d3]) (by repeat (first | assumption | (refine Blk.new ?_; simp; done) | apply Blk.alloc | apply Blk.drew | apply Blk.dn)) hg3
        have gg3 : Gr w w3 := by repeat (first | exact Gr.refl _ | assumption | refine Gr.trans ?_ (by assumption) | apply Gr.alloc | apply Gr.drew | apply Gr.dn)
        clear hg3 al2 ac20 ac21 ac22 bl2 bc20 bc21 bc22 cl2 cc20 cc21 cc22 dl2 dc20 dc21 dc22 A2 B2 C2 D2 gg2
        obtain ⟨al3, ac30, ac31, ac32⟩ := A3.three
        obtain ⟨bl3, bc30, bc31, bc32⟩ := B3.three
        obtain ⟨cl3, cc30, cc31, cc32⟩ := C3.three
        obtain ⟨dl3, dc30, dc31, dc32⟩ := D3.three
        go_wp2_with fail
        refine (dot_any _ _ _ _ _ _ HA.out DI.out _).mono ?_; rintro e w4 ⟨rfl, hg4⟩
        rw [ZE.out, FAD.out]
        have A4 := Blk.gr (b := w.heap.size) (vs := [.int .i64 a1, .int .i64 a2, .int .i64 a3]) (by repeat (first | assumption | (refine Blk.new ?_; simp; done) | apply Blk.alloc | apply Blk.drew | apply Blk.dn)) hg4
        have B4 := Blk.gr (b := w.heap.size + 1) (vs := [.int .i64 b1, .int .i64 b2, .int .i64 b3]) (by repeat (first | assumption | (refine Blk.new ?_; simp; done) | apply Blk.alloc | apply Blk.drew | apply Blk.dn)) hg4
        have C4 := Blk.gr (b := w.heap.size + 1 + 1) (vs := [.int .i64 c1, .int .i64 c2, .int .i64 c3]) (by repeat (first | assumption | (refine Blk.new ?_; simp; done) | apply Blk.alloc | apply Blk.drew | apply Blk.dn)) hg4
        have D4 := Blk.gr (b := w1.heap.size) (vs := [.int .i64 d1, .int .i64 d2, .int .i64 d3]) (by repeat (first | assumption | (refine Blk.new ?_; simp; done) | apply Blk.alloc | apply Blk.drew | apply Blk.dn)) hg4
        have gg4 : Gr w w4 := by repeat (first | exact Gr.refl _ | assumption | refine Gr.trans ?_ (by assumption) | apply Gr.alloc | apply Gr.drew | apply Gr.dn)
        clear hg4 al3 ac30 ac31 ac32 bl3 bc30 bc31 bc32 cl3 cc30 cc31 cc32 dl3 dc30 dc31 dc32 A3 B3 C3 D3 gg3
        obtain ⟨al4, ac40, ac41, ac42⟩ := A4.three
        obtain ⟨bl4, bc40, bc41, bc42⟩ := B4.three
        obtain ⟨cl4, cc40, cc41, cc42⟩ := C4.three
        obtain ⟨dl4, dc40, dc41, dc42⟩ := D4.three
        go_wp2_with fail
        refine (dot_any _ _ _ _ _ _ HB.out HA.out _).mono ?_; rintro e w5 ⟨rfl, hg5⟩
        rw [SE.out, FBA.out]
        have A5 := Blk.gr (b := w.heap.size) (vs := [.int .i64 a1, .int .i64 a2, .int .i64 a3]) (by repeat (first | assumption | (refine Blk.new ?_; simp; done) | apply Blk.alloc | apply Blk.drew | apply Blk.dn)) hg5
        have B5 := Blk.gr (b := w.heap.size + 1) (vs := [.int .i64 b1, .int .i64 b2, .int .i64 b3]) (by repeat (first | assumption | (refine Blk.new ?_; simp; done) | apply Blk.alloc | apply Blk.drew | apply Blk.dn)) hg5
        have C5 := Blk.gr (b := w.heap.size + 1 + 1) (vs := [.int .i64 c1, .int .i64 c2, .int .i64 c3]) (by repeat (first | assumption | (refine Blk.new ?_; simp; done) | apply Blk.alloc | apply Blk.drew | apply Blk.dn)) hg5
        have D5 := Blk.gr (b := w1.heap.size) (vs := [.int .i64 d1, .int .i64 d2, .int .i64 d3]) (by repeat (first | assumption | (refine Blk.new ?_; simp; done) | apply Blk.alloc | apply Blk.drew | apply Blk.dn)) hg5
        have gg5 : Gr w w5 := by repeat (first | exact Gr.refl _ | assumption | refine Gr.trans ?_ (by assumption) | apply Gr.alloc | apply Gr.drew | apply Gr.dn)
        clear hg5 al4 ac40 ac41 ac42 bl4 bc40 bc41 bc42 cl4 cc40 cc41 cc42 dl4 dc40 dc41 dc42 A4 B4 C4 D4 gg4
        obtain ⟨al5, ac50, ac51, ac52⟩ := A5.three
        obtain ⟨bl5, bc50, bc51, bc52⟩ := B5.three
        obtain ⟨cl5, cc50, cc51, cc52⟩ := C5.three
        obtain ⟨dl5, dc50, dc51, dc52⟩ := D5.three
        go_wp2_with fail
        refine (crossed_any _).mono ?_; rintro e w6 ⟨rfl, hg6⟩
        have A6 := Blk.gr (b := w.heap.size) (vs := [.int .i64 a1, .int .i64 a2, .int .i64 a3]) (by repeat (first | assumption | (refine Blk.new ?_; simp; done) | apply Blk.alloc | apply Blk.drew | apply Blk.dn)) hg6
        have B6 := Blk.gr (b := w.heap.size + 1) (vs := [.int .i64 b1, .int .i64 b2, .int .i64 b3]) (by repeat (first | assumption | (refine Blk.new ?_; simp; done) | apply Blk.alloc | apply Blk.drew | apply Blk.dn)) hg6
        have C6 := Blk.gr (b := w.heap.size + 1 + 1) (vs := [.int .i64 c1, .int .i64 c2, .int .i64 c3]) (by repeat (first | assumption | (refine Blk.new ?_; simp; done) | apply Blk.alloc | apply Blk.drew | apply Blk.dn)) hg6
        have D6 := Blk.gr (b := w1.heap.size) (vs := [.int .i64 d1, .int .i64 d2, .int .i64 d3]) (by repeat (first | assumption | (refine Blk.new ?_; simp; done) | apply Blk.alloc | apply Blk.drew | apply Blk.dn)) hg6
        have gg6 : Gr w w6 := by repeat (first | exact Gr.refl _ | assumption | refine Gr.trans ?_ (by assumption) | apply Gr.alloc | apply Gr.drew | apply Gr.dn)
        clear hg6 al5 ac50 ac51 ac52 bl5 bc50 bc51 bc52 cl5 cc50 cc51 cc52 dl5 dc50 dc51 dc52 A5 B5 C5 D5 gg5
        obtain ⟨al6, ac60, ac61, ac62⟩ := A6.three
        obtain ⟨bl6, bc60, bc61, bc62⟩ := B6.three
        obtain ⟨cl6, cc60, cc61, cc62⟩ := C6.three
        obtain ⟨dl6, dc60, dc61, dc62⟩ := D6.three
        go_wp2_with fail
        go_ret
        exact ⟨rfl, gg6⟩
  · have FAB := Lib.hid (ne3_no h1)
    have FBA := Lib.hid ((ne3_comm _ _).trans (ne3_no h1))
    clear h1 hac had
    rcases cac with rfl | rfl <;> rcases cad with rfl | rfl
    all_goals
      go_enter Try.func5, Try.ntmps5
      go_wp2_with fail
      refine (sub3_any _ _ _ _ _ _ HB.out HC.out _).mono ?_; rintro e w1 ⟨rfl, hg1⟩
      rw [DE.out]; dsimp only
      have A1 := Blk.gr (b := w.heap.size) (vs := [.int .i64 a1, .int .i64 a2, .int .i64 a3]) (by repeat (first | assumption | (refine Blk.new ?_; simp; done) | apply Blk.alloc | apply Blk.drew | apply Blk.dn)) hg1
      have B1 := Blk.gr (b := w.heap.size + 1) (vs := [.int .i64 b1, .int .i64 b2, .int .i64 b3]) (by repeat (first | assumption | (refine Blk.new ?_; simp; done) | apply Blk.alloc | apply Blk.drew | apply Blk.dn)) hg1
      have C1 := Blk.gr (b := w.heap.size + 1 + 1) (vs := [.int .i64 c1, .int .i64 c2, .int .i64 c3]) (by repeat (first | assumption | (refine Blk.new ?_; simp; done) | apply Blk.alloc | apply Blk.drew | apply Blk.dn)) hg1
      have gg1 : Gr w w1 := by repeat (first | exact Gr.refl _ | assumption | refine Gr.trans ?_ (by assumption) | apply Gr.alloc | apply Gr.drew | apply Gr.dn)
      clear hg1
      obtain ⟨al1, ac10, ac11, ac12⟩ := A1.three
      obtain ⟨bl1, bc10, bc11, bc12⟩ := B1.three
      obtain ⟨cl1, cc10, cc11, cc12⟩ := C1.three
      go_wp2_with fail
      refine (dot_any _ _ _ _ _ _ HA.out HB.out _).mono ?_; rintro e w2 ⟨rfl, hg2⟩
      rw [XE.out, FAB.out]
      have A2 := Blk.gr (b := w.heap.size) (vs := [.int .i64 a1, .int .i64 a2, .int .i64 a3]) (by repeat (first | assumption | (refine Blk.new ?_; simp; done) | apply Blk.alloc | apply Blk.drew | apply Blk.dn)) hg2
      have B2 := Blk.gr (b := w.heap.size + 1) (vs := [.int .i64 b1, .int .i64 b2, .int .i64 b3]) (by repeat (first | assumption | (refine Blk.new ?_; simp; done) | apply Blk.alloc | apply Blk.drew | apply Blk.dn)) hg2
      have C2 := Blk.gr (b := w.heap.size + 1 + 1) (vs := [.int .i64 c1, .int .i64 c2, .int .i64 c3]) (by repeat (first | assumption | (refine Blk.new ?_; simp; done) | apply Blk.alloc | apply Blk.drew | apply Blk.dn)) hg2
      have D2 := Blk.gr (b := w1.heap.size) (vs := [.int .i64 d1, .int .i64 d2, .int .i64 d3]) (by repeat (first | assumption | (refine Blk.new ?_; simp; done) | apply Blk.alloc | apply Blk.drew | apply Blk.dn)) hg2
      have gg2 : Gr w w2 := by repeat (first | exact Gr.refl _ | assumption | refine Gr.trans ?_ (by assumption) | apply Gr.alloc | apply Gr.drew | apply Gr.dn)
      clear hg2 al1 ac10 ac11 ac12 bl1 bc10 bc11 bc12 cl1 cc10 cc11 cc12 A1 B1 C1 gg1
      obtain ⟨al2, ac20, ac21, ac22⟩ := A2.three
      obtain ⟨bl2, bc20, bc21, bc22⟩ := B2.three
      obtain ⟨cl2, cc20, cc21, cc22⟩ := C2.three
      obtain ⟨dl2, dc20, dc21, dc22⟩ := D2.three
      go_wp2_with fail
      refine (dot_any _ _ _ _ _ _ HA.out HC.out _).mono ?_; rintro e w3 ⟨rfl, hg3⟩
      rw [YE.out, FAC.out]
      have A3 := Blk.gr (b := w.heap.size) (vs := [.int .i64 a1, .int .i64 a2, .int .i64 a3]) (by repeat (first | assumption | (refine Blk.new ?_; simp; done) | apply Blk.alloc | apply Blk.drew | apply Blk.dn)) hg3
      have B3 := Blk.gr (b := w.heap.size + 1) (vs := [.int .i64 b1, .int .i64 b2, .int .i64 b3]) (by repeat (first | assumption | (refine Blk.new ?_; simp; done) | apply Blk.alloc | apply Blk.drew | apply Blk.dn)) hg3
      have C3 := Blk.gr (b := w.heap.size + 1 + 1) (vs := [.int .i64 c1, .int .i64 c2, .int .i64 c3]) (by repeat (first | assumption | (refine Blk.new ?_; simp; done) | apply Blk.alloc | apply Blk.drew | apply Blk.dn)) hg3
      have D3 := Blk.gr (b := w1.heap.size) (vs := [.int .i64 d1, .int .i64 d2, .int .i64 d3]) (by repeat (first | assumption | (refine Blk.new ?_; simp; done) | apply Blk.alloc | apply Blk.drew | apply Blk.dn)) hg3
      have gg3 : Gr w w3 := by repeat (first | exact Gr.refl _ | assumption | refine Gr.trans ?_ (by assumption) | apply Gr.alloc | apply Gr.drew | apply Gr.dn)
      clear hg3 al2 ac20 ac21 ac22 bl2 bc20 bc21 bc22 cl2 cc20 cc21 cc22 dl2 dc20 dc21 dc22 A2 B2 C2 D2 gg2
      obtain ⟨al3, ac30, ac31, ac32⟩ := A3.three
      obtain ⟨bl3, bc30, bc31, bc32⟩ := B3.three
      obtain ⟨cl3, cc30, cc31, cc32⟩ := C3.three
      obtain ⟨dl3, dc30, dc31, dc32⟩ := D3.three
      go_wp2_with fail
      refine (dot_any _ _ _ _ _ _ HA.out DI.out _).mono ?_; rintro e w4 ⟨rfl, hg4⟩
      rw [ZE.out, FAD.out]
      have A4 := Blk.gr (b := w.heap.size) (vs := [.int .i64 a1, .int .i64 a2, .int .i64 a3]) (by repeat (first | assumption | (refine Blk.new ?_; simp; done) | apply Blk.alloc | apply Blk.drew | apply Blk.dn)) hg4
      have B4 := Blk.gr (b := w.heap.size + 1) (vs := [.int .i64 b1, .int .i64 b2, .int .i64 b3]) (by repeat (first | assumption | (refine Blk.new ?_; simp; done) | apply Blk.alloc | apply Blk.drew | apply Blk.dn)) hg4
      have C4 := Blk.gr (b := w.heap.size + 1 + 1) (vs := [.int .i64 c1, .int .i64 c2, .int .i64 c3]) (by repeat (first | assumption | (refine Blk.new ?_; simp; done) | apply Blk.alloc | apply Blk.drew | apply Blk.dn)) hg4
      have D4 := Blk.gr (b := w1.heap.size) (vs := [.int .i64 d1, .int .i64 d2, .int .i64 d3]) (by repeat (first | assumption | (refine Blk.new ?_; simp; done) | apply Blk.alloc | apply Blk.drew | apply Blk.dn)) hg4
      have gg4 : Gr w w4 := by repeat (first | exact Gr.refl _ | assumption | refine Gr.trans ?_ (by assumption) | apply Gr.alloc | apply Gr.drew | apply Gr.dn)
      clear hg4 al3 ac30 ac31 ac32 bl3 bc30 bc31 bc32 cl3 cc30 cc31 cc32 dl3 dc30 dc31 dc32 A3 B3 C3 D3 gg3
      obtain ⟨al4, ac40, ac41, ac42⟩ := A4.three
      obtain ⟨bl4, bc40, bc41, bc42⟩ := B4.three
      obtain ⟨cl4, cc40, cc41, cc42⟩ := C4.three
      obtain ⟨dl4, dc40, dc41, dc42⟩ := D4.three
      go_wp2_with fail
      refine (dot_any _ _ _ _ _ _ HB.out HA.out _).mono ?_; rintro e w5 ⟨rfl, hg5⟩
      rw [SE.out, FBA.out]
      have A5 := Blk.gr (b := w.heap.size) (vs := [.int .i64 a1, .int .i64 a2, .int .i64 a3]) (by repeat (first | assumption | (refine Blk.new ?_; simp; done) | apply Blk.alloc | apply Blk.drew | apply Blk.dn)) hg5
      have B5 := Blk.gr (b := w.heap.size + 1) (vs := [.int .i64 b1, .int .i64 b2, .int .i64 b3]) (by repeat (first | assumption | (refine Blk.new ?_; simp; done) | apply Blk.alloc | apply Blk.drew | apply Blk.dn)) hg5
      have C5 := Blk.gr (b := w.heap.size + 1 + 1) (vs := [.int .i64 c1, .int .i64 c2, .int .i64 c3]) (by repeat (first | assumption | (refine Blk.new ?_; simp; done) | apply Blk.alloc | apply Blk.drew | apply Blk.dn)) hg5
      have D5 := Blk.gr (b := w1.heap.size) (vs := [.int .i64 d1, .int .i64 d2, .int .i64 d3]) (by repeat (first | assumption | (refine Blk.new ?_; simp; done) | apply Blk.alloc | apply Blk.drew | apply Blk.dn)) hg5
      have gg5 : Gr w w5 := by repeat (first | exact Gr.refl _ | assumption | refine Gr.trans ?_ (by assumption) | apply Gr.alloc | apply Gr.drew | apply Gr.dn)
      clear hg5 al4 ac40 ac41 ac42 bl4 bc40 bc41 bc42 cl4 cc40 cc41 cc42 dl4 dc40 dc41 dc42 A4 B4 C4 D4 gg4
      obtain ⟨al5, ac50, ac51, ac52⟩ := A5.three
      obtain ⟨bl5, bc50, bc51, bc52⟩ := B5.three
      obtain ⟨cl5, cc50, cc51, cc52⟩ := C5.three
      obtain ⟨dl5, dc50, dc51, dc52⟩ := D5.three
      go_wp2_with fail
      refine (crossed_any _).mono ?_; rintro e w6 ⟨rfl, hg6⟩
      have A6 := Blk.gr (b := w.heap.size) (vs := [.int .i64 a1, .int .i64 a2, .int .i64 a3]) (by repeat (first | assumption | (refine Blk.new ?_; simp; done) | apply Blk.alloc | apply Blk.drew | apply Blk.dn)) hg6
      have B6 := Blk.gr (b := w.heap.size + 1) (vs := [.int .i64 b1, .int .i64 b2, .int .i64 b3]) (by repeat (first | assumption | (refine Blk.new ?_; simp; done) | apply Blk.alloc | apply Blk.drew | apply Blk.dn)) hg6
      have C6 := Blk.gr (b := w.heap.size + 1 + 1) (vs := [.int .i64 c1, .int .i64 c2, .int .i64 c3]) (by repeat (first | assumption | (refine Blk.new ?_; simp; done) | apply Blk.alloc | apply Blk.drew | apply Blk.dn)) hg6
      have D6 := Blk.gr (b := w1.heap.size) (vs := [.int .i64 d1, .int .i64 d2, .int .i64 d3]) (by repeat (first | assumption | (refine Blk.new ?_; simp; done) | apply Blk.alloc | apply Blk.drew | apply Blk.dn)) hg6
      have gg6 : Gr w w6 := by repeat (first | exact Gr.refl _ | assumption | refine Gr.trans ?_ (by assumption) | apply Gr.alloc | apply Gr.drew | apply Gr.dn)
      clear hg6 al5 ac50 ac51 ac52 bl5 bc50 bc51 bc52 cl5 cc50 cc51 cc52 dl5 dc50 dc51 dc52 A5 B5 C5 D5 gg5
      obtain ⟨al6, ac60, ac61, ac62⟩ := A6.three
      obtain ⟨bl6, bc60, bc61, bc62⟩ := B6.three
      obtain ⟨cl6, cc60, cc61, cc62⟩ := C6.three
      obtain ⟨dl6, dc60, dc61, dc62⟩ := D6.three
      go_wp2_with fail
      go_ret
      exact ⟨rfl, gg6⟩

end Go.Proofs.Ytjnnonhapjdjoaa
