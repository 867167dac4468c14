/- The walk of VecSquare. -/
import Derived.Test.YtjnnonhapjdjoaaVi
import Derived.Test.YtjnnonhapjdjoaaVp
set_option linter.unusedVariables false
namespace Go.Proofs.Ytjnnonhapjdjoaa
open Go.RowKit
open Vc

set_option maxRecDepth 100000 in
set_option maxHeartbeats 2000000 in
theorem walk_VecSquare (w : World) (a1 a2 a3 : Int) (ia1 : I a1) (ia2 : I a2) (ia3 : I a3) (b1 b2 b3 : Int) (ib1 : I b1) (ib2 : I b2) (ib3 : I b3) :
    Calls Try.prog 3 #[.agg #[.int .i64 a1, .int .i64 a2, .int .i64 a3], .agg #[.int .i64 b1, .int .i64 b2, .int .i64 b3]] w fun e w' => e = .returned (.bool true) ∧ Gr w w' := by
  have HA := Lib.hid (And.intro ia1 (And.intro ia2 ia3)); clear ia1 ia2 ia3
  have HB := Lib.hid (And.intro ib1 (And.intro ib2 ib3)); clear ib1 ib2 ib3
  by_cases h : nn ⟨a1, a2, a3⟩ ⟨b1, b2, b3⟩ = true
  · have h' : nn ⟨b1, b2, b3⟩ ⟨a1, a2, a3⟩ = true := by rw [nn_comm]; exact h
    have f1 : ne3 ⟨a1, a2, a3⟩ ⟨b1, b2, b3⟩ = 0 := by unfold ne3; rw [if_pos h]
    have f2 : ne3 ⟨b1, b2, b3⟩ ⟨a1, a2, a3⟩ = 0 := by unfold ne3; rw [if_pos h']
    obtain ⟨x, y, z, e1, e2, hx, hy, hz, s1, s2⟩ := cr_facts h
    obtain ⟨⟨ha1, ha2, ha3⟩, ⟨hb1, hb2, hb3⟩⟩ := nn_iff.1 h
    obtain ⟨p1, q1⟩ := mul_bd (M := 1048576) (N := 2199023255552) 2305843009213693952 (by decide) ha1 hx
    obtain ⟨p2, q2⟩ := mul_bd (M := 1048576) (N := 2199023255552) 2305843009213693952 (by decide) ha2 hy
    obtain ⟨p3, q3⟩ := mul_bd (M := 1048576) (N := 2199023255552) 2305843009213693952 (by decide) ha3 hz
    obtain ⟨p4, q4⟩ := mul_bd (M := 1048576) (N := 2199023255552) 2305843009213693952 (by decide) hb1 hx
    obtain ⟨p5, q5⟩ := mul_bd (M := 1048576) (N := 2199023255552) 2305843009213693952 (by decide) hb2 hy
    obtain ⟨p6, q6⟩ := mul_bd (M := 1048576) (N := 2199023255552) 2305843009213693952 (by decide) hb3 hz
    have t1 : (a1 * x + a2 * y + a3 * z == 0) = true := by simpa using s1
    have t2 : (b1 * x + b2 * y + b3 * z == 0) = true := by simpa using s2
    obtain ⟨hx1, hx2⟩ := hx; obtain ⟨hy1, hy2⟩ := hy; obtain ⟨hz1, hz2⟩ := hz
    have F1 := Lib.hid f1; have F2 := Lib.hid f2; have E1 := Lib.hid e1; have E2 := Lib.hid e2
    clear f1 f2 e1 e2 s1 s2 h h' ha1 ha2 ha3 hb1 hb2 hb3
    go_enter Try.func3, Try.ntmps3
    go_wp2_with fail
    refine (cross3_any _ _ _ _ _ _ HA.out HB.out _).mono ?_; rintro e w1 ⟨rfl, hg1⟩
    rw [E1.out, F1.out]; dsimp only
    have A1 := Blk.gr (b := w.heap.size) (vs := [.int .i64 a1, .int .i64 a2, .int .i64 a3]) (by repeat (first | assumption | (refine Blk.new ?_; simp; done) | apply Blk.alloc | apply Blk.drew | apply Blk.dn)) hg1
    have B1 := Blk.gr (b := w.heap.size + 1) (vs := [.int .i64 b1, .int .i64 b2, .int .i64 b3]) (by repeat (first | assumption | (refine Blk.new ?_; simp; done) | apply Blk.alloc | apply Blk.drew | apply Blk.dn)) hg1
    have gg1 : Gr w w1 := by repeat (first | exact Gr.refl _ | assumption | refine Gr.trans ?_ (by assumption) | apply Gr.alloc | apply Gr.drew | apply Gr.dn)
    clear hg1
    obtain ⟨al1, ac10, ac11, ac12⟩ := A1.three
    obtain ⟨bl1, bc10, bc11, bc12⟩ := B1.three
    go_wp2_with fail
    refine (cross3_any _ _ _ _ _ _ HB.out HA.out _).mono ?_; rintro e w2 ⟨rfl, hg2⟩
    rw [E2.out, F2.out]; dsimp only
    have A2 := Blk.gr (b := w.heap.size) (vs := [.int .i64 a1, .int .i64 a2, .int .i64 a3]) (by repeat (first | assumption | (refine Blk.new ?_; simp; done) | apply Blk.alloc | apply Blk.drew | apply Blk.dn)) hg2
    have B2 := Blk.gr (b := w.heap.size + 1) (vs := [.int .i64 b1, .int .i64 b2, .int .i64 b3]) (by repeat (first | assumption | (refine Blk.new ?_; simp; done) | apply Blk.alloc | apply Blk.drew | apply Blk.dn)) hg2
    have C2 := Blk.gr (b := w1.heap.size) (vs := [.int .i64 x, .int .i64 y, .int .i64 z]) (by repeat (first | assumption | (refine Blk.new ?_; simp; done) | apply Blk.alloc | apply Blk.drew | apply Blk.dn)) hg2
    have gg2 : Gr w w2 := by repeat (first | exact Gr.refl _ | assumption | refine Gr.trans ?_ (by assumption) | apply Gr.alloc | apply Gr.drew | apply Gr.dn)
    clear hg2 al1 ac10 ac11 ac12 bl1 bc10 bc11 bc12 A1 B1 gg1
    obtain ⟨al2, ac20, ac21, ac22⟩ := A2.three
    obtain ⟨bl2, bc20, bc21, bc22⟩ := B2.three
    obtain ⟨cl2, cc20, cc21, cc22⟩ := C2.three
    go_wp2_with fail
    refine (crossed_any _).mono ?_; rintro e w3 ⟨rfl, hg3⟩
    have A3 := Blk.gr (b := w.heap.size) (vs := [.int .i64 a1, .int .i64 a2, .int .i64 a3]) (by repeat (first | assumption | (refine Blk.new ?_; simp; done) | apply Blk.alloc | apply Blk.drew | apply Blk.dn)) hg3
    have B3 := Blk.gr (b := w.heap.size + 1) (vs := [.int .i64 b1, .int .i64 b2, .int .i64 b3]) (by repeat (first | assumption | (refine Blk.new ?_; simp; done) | apply Blk.alloc | apply Blk.drew | apply Blk.dn)) hg3
    have C3 := Blk.gr (b := w1.heap.size) (vs := [.int .i64 x, .int .i64 y, .int .i64 z]) (by repeat (first | assumption | (refine Blk.new ?_; simp; done) | apply Blk.alloc | apply Blk.drew | apply Blk.dn)) hg3
    have D3 := Blk.gr (b := w2.heap.size) (vs := [.int .i64 (-x), .int .i64 (-y), .int .i64 (-z)]) (by repeat (first | assumption | (refine Blk.new ?_; simp; done) | apply Blk.alloc | apply Blk.drew | apply Blk.dn)) hg3
    have gg3 : Gr w w3 := by repeat (first | exact Gr.refl _ | assumption | refine Gr.trans ?_ (by assumption) | apply Gr.alloc | apply Gr.drew | apply Gr.dn)
    clear hg3 al2 ac20 ac21 ac22 bl2 bc20 bc21 bc22 cl2 cc20 cc21 cc22 A2 B2 C2 gg2
    obtain ⟨al3, ac30, ac31, ac32⟩ := A3.three
    obtain ⟨bl3, bc30, bc31, bc32⟩ := B3.three
    obtain ⟨cl3, cc30, cc31, cc32⟩ := C3.three
    obtain ⟨dl3, dc30, dc31, dc32⟩ := D3.three
    go_wp2_with fail
    go_ret
    exact ⟨rfl, gg3⟩
  · have h' : ¬ nn ⟨b1, b2, b3⟩ ⟨a1, a2, a3⟩ = true := by rw [nn_comm]; exact h
    have f1 : ne3 ⟨a1, a2, a3⟩ ⟨b1, b2, b3⟩ = 5 := by unfold ne3; rw [if_neg h]
    have f2 : ne3 ⟨b1, b2, b3⟩ ⟨a1, a2, a3⟩ = 5 := by unfold ne3; rw [if_neg h']
    have e1 : cr ⟨a1, a2, a3⟩ ⟨b1, b2, b3⟩ = ⟨0, 0, 0⟩ := by unfold cr; rw [if_neg h]
    have e2 : cr ⟨b1, b2, b3⟩ ⟨a1, a2, a3⟩ = ⟨0, 0, 0⟩ := by unfold cr; rw [if_neg h']
    have g1 : [(⟨a1, a2, a3⟩ : P3), ⟨b1, b2, b3⟩].all nr3 = false := by unfold nn at h; simpa using h
    have hin : ∀ p ∈ [(⟨a1, a2, a3⟩ : P3), ⟨b1, b2, b3⟩], I p.x ∧ I p.y ∧ I p.z := by
      intro p hp; simp at hp; rcases hp with rfl | rfl
      · exact HA.out
      · exact HB.out
    have HI := Lib.hid hin
    have F1 := Lib.hid f1; have F2 := Lib.hid f2; have E1 := Lib.hid e1; have E2 := Lib.hid e2; have G1 := Lib.hid g1
    clear f1 f2 e1 e2 h h' g1 hin
    go_enter Try.func3, Try.ntmps3
    go_wp2_with fail
    refine (cross3_any _ _ _ _ _ _ HA.out HB.out _).mono ?_; rintro e w1 ⟨rfl, hg1⟩
    rw [E1.out, F1.out]; dsimp only
    have A1 := Blk.gr (b := w.heap.size) (vs := [.int .i64 a1, .int .i64 a2, .int .i64 a3]) (by repeat (first | assumption | (refine Blk.new ?_; simp; done) | apply Blk.alloc | apply Blk.drew | apply Blk.dn)) hg1
    have B1 := Blk.gr (b := w.heap.size + 1) (vs := [.int .i64 b1, .int .i64 b2, .int .i64 b3]) (by repeat (first | assumption | (refine Blk.new ?_; simp; done) | apply Blk.alloc | apply Blk.drew | apply Blk.dn)) hg1
    have gg1 : Gr w w1 := by repeat (first | exact Gr.refl _ | assumption | refine Gr.trans ?_ (by assumption) | apply Gr.alloc | apply Gr.drew | apply Gr.dn)
    clear hg1
    obtain ⟨al1, ac10, ac11, ac12⟩ := A1.three
    obtain ⟨bl1, bc10, bc11, bc12⟩ := B1.three
    go_wp2_with fail
    refine (cross3_any _ _ _ _ _ _ HB.out HA.out _).mono ?_; rintro e w2 ⟨rfl, hg2⟩
    rw [E2.out, F2.out]; dsimp only
    have A2 := Blk.gr (b := w.heap.size) (vs := [.int .i64 a1, .int .i64 a2, .int .i64 a3]) (by repeat (first | assumption | (refine Blk.new ?_; simp; done) | apply Blk.alloc | apply Blk.drew | apply Blk.dn)) hg2
    have B2 := Blk.gr (b := w.heap.size + 1) (vs := [.int .i64 b1, .int .i64 b2, .int .i64 b3]) (by repeat (first | assumption | (refine Blk.new ?_; simp; done) | apply Blk.alloc | apply Blk.drew | apply Blk.dn)) hg2
    have C2 := Blk.gr (b := w1.heap.size) (vs := [.int .i64 0, .int .i64 0, .int .i64 0]) (by repeat (first | assumption | (refine Blk.new ?_; simp; done) | apply Blk.alloc | apply Blk.drew | apply Blk.dn)) hg2
    have gg2 : Gr w w2 := by repeat (first | exact Gr.refl _ | assumption | refine Gr.trans ?_ (by assumption) | apply Gr.alloc | apply Gr.drew | apply Gr.dn)
    clear hg2 al1 ac10 ac11 ac12 bl1 bc10 bc11 bc12 A1 B1 gg1
    obtain ⟨al2, ac20, ac21, ac22⟩ := A2.three
    obtain ⟨bl2, bc20, bc21, bc22⟩ := B2.three
    obtain ⟨cl2, cc20, cc21, cc22⟩ := C2.three
    go_wp2_with fail
    refine (crossed_any _).mono ?_; rintro e w3 ⟨rfl, hg3⟩
    have A3 := Blk.gr (b := w.heap.size) (vs := [.int .i64 a1, .int .i64 a2, .int .i64 a3]) (by repeat (first | assumption | (refine Blk.new ?_; simp; done) | apply Blk.alloc | apply Blk.drew | apply Blk.dn)) hg3
    have B3 := Blk.gr (b := w.heap.size + 1) (vs := [.int .i64 b1, .int .i64 b2, .int .i64 b3]) (by repeat (first | assumption | (refine Blk.new ?_; simp; done) | apply Blk.alloc | apply Blk.drew | apply Blk.dn)) hg3
    have C3 := Blk.gr (b := w1.heap.size) (vs := [.int .i64 0, .int .i64 0, .int .i64 0]) (by repeat (first | assumption | (refine Blk.new ?_; simp; done) | apply Blk.alloc | apply Blk.drew | apply Blk.dn)) hg3
    have gg3 : Gr w w3 := by repeat (first | exact Gr.refl _ | assumption | refine Gr.trans ?_ (by assumption) | apply Gr.alloc | apply Gr.drew | apply Gr.dn)
    clear hg3 al2 ac20 ac21 ac22 bl2 bc20 bc21 bc22 cl2 cc20 cc21 cc22 A2 B2 C2 gg2
    obtain ⟨al3, ac30, ac31, ac32⟩ := A3.three
    obtain ⟨bl3, bc30, bc31, bc32⟩ := B3.three
    obtain ⟨cl3, cc30, cc31, cc32⟩ := C3.three
    go_wp2_with fail
    refine (is3_any _ _ _ [⟨a1, a2, a3⟩, ⟨b1, b2, b3⟩] _ (by exact IsP3s.of_blk2 (Blk.new (by simp))) HI.out).mono ?_; rintro e w4 ⟨rfl, hg4⟩
    rw [G1.out]
    have A4 := Blk.gr (b := w.heap.size) (vs := [.int .i64 a1, .int .i64 a2, .int .i64 a3]) (by repeat (first | assumption | (refine Blk.new ?_; simp; done) | apply Blk.alloc | apply Blk.drew | apply Blk.dn)) hg4
    have B4 := Blk.gr (b := w.heap.size + 1) (vs := [.int .i64 b1, .int .i64 b2, .int .i64 b3]) (by repeat (first | assumption | (refine Blk.new ?_; simp; done) | apply Blk.alloc | apply Blk.drew | apply Blk.dn)) hg4
    have C4 := Blk.gr (b := w1.heap.size) (vs := [.int .i64 0, .int .i64 0, .int .i64 0]) (by repeat (first | assumption | (refine Blk.new ?_; simp; done) | apply Blk.alloc | apply Blk.drew | apply Blk.dn)) hg4
    have gg4 : Gr w w4 := by repeat (first | exact Gr.refl _ | assumption | refine Gr.trans ?_ (by assumption) | apply Gr.alloc | apply Gr.drew | apply Gr.dn)
    clear hg4 al3 ac30 ac31 ac32 bl3 bc30 bc31 bc32 cl3 cc30 cc31 cc32 A3 B3 C3 gg3
    obtain ⟨al4, ac40, ac41, ac42⟩ := A4.three
    obtain ⟨bl4, bc40, bc41, bc42⟩ := B4.three
    obtain ⟨cl4, cc40, cc41, cc42⟩ := C4.three
    go_wp2_with fail
    go_ret
    exact ⟨rfl, gg4⟩

end Go.Proofs.Ytjnnonhapjdjoaa
