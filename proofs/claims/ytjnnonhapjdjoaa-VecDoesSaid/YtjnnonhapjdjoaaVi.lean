/- The example of chapter 4 holds; the contracts of vec.Cross3, Dot, Sub3 in one form. -/
import Derived.Test.YtjnnonhapjdjoaaVd
import Derived.Test.YtjnnonhapjdjoaaVe
import Derived.Test.YtjnnonhapjdjoaaVf
import Derived.Test.YtjnnonhapjdjoaaVg
import Derived.Test.YtjnnonhapjdjoaaVh
set_option linter.unusedVariables false
namespace Go.Proofs.Ytjnnonhapjdjoaa
open Go.RowKit
namespace Vc

theorem cross3_any (ax ay az bx by' bz : Int) (ia : I ax ∧ I ay ∧ I az) (ib : I bx ∧ I by' ∧ I bz) (w : World) :
    Calls Try.prog 13 #[.agg #[.int .i64 ax, .int .i64 ay, .int .i64 az], .agg #[.int .i64 bx, .int .i64 by', .int .i64 bz]] w fun e w' =>
      e = .returned (.tuple #[.agg #[.int .i64 (cr ⟨ax, ay, az⟩ ⟨bx, by', bz⟩).x, .int .i64 (cr ⟨ax, ay, az⟩ ⟨bx, by', bz⟩).y, .int .i64 (cr ⟨ax, ay, az⟩ ⟨bx, by', bz⟩).z], .int .i64 (ne3 ⟨ax, ay, az⟩ ⟨bx, by', bz⟩)]) ∧ Gr w w' := by
  by_cases h : nn ⟨ax, ay, az⟩ ⟨bx, by', bz⟩ = true
  · have e1 : cr ⟨ax, ay, az⟩ ⟨bx, by', bz⟩ = ⟨ay * bz - az * by', az * bx - ax * bz, ax * by' - ay * bx⟩ := by unfold cr; rw [if_pos h]
    have e2 : ne3 ⟨ax, ay, az⟩ ⟨bx, by', bz⟩ = 0 := by unfold ne3; rw [if_pos h]
    rw [e1, e2]; exact cross3_ok ax ay az bx by' bz ia ib h w
  · have e1 : cr ⟨ax, ay, az⟩ ⟨bx, by', bz⟩ = ⟨0, 0, 0⟩ := by unfold cr; rw [if_neg h]
    have e2 : ne3 ⟨ax, ay, az⟩ ⟨bx, by', bz⟩ = 5 := by unfold ne3; rw [if_neg h]
    rw [e1, e2]; exact cross3_no ax ay az bx by' bz ia ib (by rwa [Bool.not_eq_true] at h) w

theorem dot_any (ax ay az bx by' bz : Int) (ia : I ax ∧ I ay ∧ I az) (ib : I bx ∧ I by' ∧ I bz) (w : World) :
    Calls Try.prog 19 #[.agg #[.int .i64 ax, .int .i64 ay, .int .i64 az], .agg #[.int .i64 bx, .int .i64 by', .int .i64 bz]] w fun e w' =>
      e = .returned (.tuple #[.int .i64 (dt ⟨ax, ay, az⟩ ⟨bx, by', bz⟩), .int .i64 (ne3 ⟨ax, ay, az⟩ ⟨bx, by', bz⟩)]) ∧ Gr w w' := by
  by_cases h : nn ⟨ax, ay, az⟩ ⟨bx, by', bz⟩ = true
  · have e1 : dt ⟨ax, ay, az⟩ ⟨bx, by', bz⟩ = ax * bx + ay * by' + az * bz := by unfold dt; rw [if_pos h]
    have e2 : ne3 ⟨ax, ay, az⟩ ⟨bx, by', bz⟩ = 0 := by unfold ne3; rw [if_pos h]
    rw [e1, e2]; exact dot_ok ax ay az bx by' bz ia ib h w
  · have e1 : dt ⟨ax, ay, az⟩ ⟨bx, by', bz⟩ = 0 := by unfold dt; rw [if_neg h]
    have e2 : ne3 ⟨ax, ay, az⟩ ⟨bx, by', bz⟩ = 5 := by unfold ne3; rw [if_neg h]
    rw [e1, e2]; exact dot_no ax ay az bx by' bz ia ib (by rwa [Bool.not_eq_true] at h) w

theorem sub3_any (ax ay az bx by' bz : Int) (ia : I ax ∧ I ay ∧ I az) (ib : I bx ∧ I by' ∧ I bz) (w : World) :
    Calls Try.prog 18 #[.agg #[.int .i64 ax, .int .i64 ay, .int .i64 az], .agg #[.int .i64 bx, .int .i64 by', .int .i64 bz]] w fun e w' =>
      e = .returned (.agg #[.int .i64 (sb ⟨ax, ay, az⟩ ⟨bx, by', bz⟩).x, .int .i64 (sb ⟨ax, ay, az⟩ ⟨bx, by', bz⟩).y, .int .i64 (sb ⟨ax, ay, az⟩ ⟨bx, by', bz⟩).z]) ∧ Gr w w' := by
  by_cases h : nn ⟨ax, ay, az⟩ ⟨bx, by', bz⟩ = true
  · have e1 : sb ⟨ax, ay, az⟩ ⟨bx, by', bz⟩ = ⟨ax - bx, ay - by', az - bz⟩ := by unfold sb; rw [if_pos h]
    rw [e1]; exact sub3_ok ax ay az bx by' bz ia ib h w
  · have e1 : sb ⟨ax, ay, az⟩ ⟨bx, by', bz⟩ = ⟨0, 0, 0⟩ := by unfold sb; rw [if_neg h]
    rw [e1]; exact sub3_no ax ay az bx by' bz ia ib (by rwa [Bool.not_eq_true] at h) w

set_option maxHeartbeats 2000000 in
theorem crossed_any (w : World) :
    Calls Try.prog 14 #[] w fun e w' => e = .returned (.bool true) ∧ Gr w w' := by
  go_enter Try.func14, Try.ntmps14
  go_wp2_with fail
  refine (cross3_any _ _ _ _ _ _ (by unfold I; omega) (by unfold I; omega) _).mono ?_; rintro e w1 ⟨rfl, hg1⟩
  rw [show cr ⟨1, 0, 0⟩ ⟨0, 1, 0⟩ = ⟨0, 0, 1⟩ from by rfl, show ne3 ⟨1, 0, 0⟩ ⟨0, 1, 0⟩ = 0 from by decide]
  have gg1 : Gr w w1 := by repeat (first | exact Gr.refl _ | assumption | refine Gr.trans ?_ (by assumption) | apply Gr.alloc | apply Gr.drew | apply Gr.dn)
  clear hg1
  go_wp2_with fail
  refine (cross2_any _ _ _ _ (by unfold I; omega) (by unfold I; omega) _).mono ?_; rintro e w2 ⟨rfl, hg2⟩
  rw [show cr2 ⟨1, 2⟩ ⟨3, 4⟩ = -2 from by decide, show ne2 ⟨1, 2⟩ ⟨3, 4⟩ = 0 from by decide]
  have A2 := Blk.gr (b := w1.heap.size) (vs := [.int .i64 0, .int .i64 0, .int .i64 1]) (by repeat (first | assumption | (refine Blk.new ?_; simp; done) | apply Blk.alloc | apply Blk.drew | apply Blk.dn)) hg2
  have gg2 : Gr w w2 := by repeat (first | exact Gr.refl _ | assumption | refine Gr.trans ?_ (by assumption) | apply Gr.alloc | apply Gr.drew | apply Gr.dn)
  clear hg2 gg1
  obtain ⟨al2, ac20, ac21, ac22⟩ := A2.three
  go_wp2_with fail
  refine (drop_ok _ _ _ 1 (by omega) _).mono ?_; rintro e w3 ⟨rfl, hg3⟩
  rw [show pa 7 8 9 ((1 + 1) % 3) = 9 from by decide, show pa 7 8 9 ((1 + 2) % 3) = 7 from by decide]
  have A3 := Blk.gr (b := w1.heap.size) (vs := [.int .i64 0, .int .i64 0, .int .i64 1]) (by repeat (first | assumption | (refine Blk.new ?_; simp; done) | apply Blk.alloc | apply Blk.drew | apply Blk.dn)) hg3
  have gg3 : Gr w w3 := by repeat (first | exact Gr.refl _ | assumption | refine Gr.trans ?_ (by assumption) | apply Gr.alloc | apply Gr.drew | apply Gr.dn)
  clear hg3 al2 ac20 ac21 ac22 A2 gg2
  obtain ⟨al3, ac30, ac31, ac32⟩ := A3.three
  go_wp2_with fail
  refine (drop_no _ _ _ _ (by omega) _).mono ?_; rintro e w4 ⟨rfl, hg4⟩
  have A4 := Blk.gr (b := w1.heap.size) (vs := [.int .i64 0, .int .i64 0, .int .i64 1]) (by repeat (first | assumption | (refine Blk.new ?_; simp; done) | apply Blk.alloc | apply Blk.drew | apply Blk.dn)) hg4
  have B4 := Blk.gr (b := w3.heap.size) (vs := [.int .i64 9, .int .i64 7]) (by repeat (first | assumption | (refine Blk.new ?_; simp; done) | apply Blk.alloc | apply Blk.drew | apply Blk.dn)) hg4
  have gg4 : Gr w w4 := by repeat (first | exact Gr.refl _ | assumption | refine Gr.trans ?_ (by assumption) | apply Gr.alloc | apply Gr.drew | apply Gr.dn)
  clear hg4 al3 ac30 ac31 ac32 A3 gg3
  obtain ⟨al4, ac40, ac41, ac42⟩ := A4.three
  obtain ⟨bl4, bc40, bc41⟩ := B4.two
  go_wp2_with fail
  refine (dot_any _ _ _ _ _ _ (by unfold I; omega) (by unfold I; omega) _).mono ?_; rintro e w5 ⟨rfl, hg5⟩
  rw [show dt ⟨1048577, 0, 0⟩ ⟨0, 0, 0⟩ = 0 from by decide, show ne3 ⟨1048577, 0, 0⟩ ⟨0, 0, 0⟩ = 5 from by decide]
  have A5 := Blk.gr (b := w1.heap.size) (vs := [.int .i64 0, .int .i64 0, .int .i64 1]) (by repeat (first | assumption | (refine Blk.new ?_; simp; done) | apply Blk.alloc | apply Blk.drew | apply Blk.dn)) hg5
  have B5 := Blk.gr (b := w3.heap.size) (vs := [.int .i64 9, .int .i64 7]) (by repeat (first | assumption | (refine Blk.new ?_; simp; done) | apply Blk.alloc | apply Blk.drew | apply Blk.dn)) hg5
  have gg5 : Gr w w5 := by repeat (first | exact Gr.refl _ | assumption | refine Gr.trans ?_ (by assumption) | apply Gr.alloc | apply Gr.drew | apply Gr.dn)
  clear hg5 al4 ac40 ac41 ac42 bl4 bc40 bc41 A4 B4 gg4
  obtain ⟨al5, ac50, ac51, ac52⟩ := A5.three
  obtain ⟨bl5, bc50, bc51⟩ := B5.two
  go_wp2_with fail
  refine (axis_any _ _ _ (by unfold I; omega) (by unfold I; omega) (by unfold I; omega) _).mono ?_; rintro e w6 ⟨rfl, hg6⟩
  rw [show axn 3 (-3) 2 = 0 from by decide]
  have A6 := Blk.gr (b := w1.heap.size) (vs := [.int .i64 0, .int .i64 0, .int .i64 1]) (by repeat (first | assumption | (refine Blk.new ?_; simp; done) | apply Blk.alloc | apply Blk.drew | apply Blk.dn)) hg6
  have B6 := Blk.gr (b := w3.heap.size) (vs := [.int .i64 9, .int .i64 7]) (by repeat (first | assumption | (refine Blk.new ?_; simp; done) | apply Blk.alloc | apply Blk.drew | apply Blk.dn)) hg6
  have gg6 : Gr w w6 := by repeat (first | exact Gr.refl _ | assumption | refine Gr.trans ?_ (by assumption) | apply Gr.alloc | apply Gr.drew | apply Gr.dn)
  clear hg6 al5 ac50 ac51 ac52 bl5 bc50 bc51 A5 B5 gg5
  obtain ⟨al6, ac60, ac61, ac62⟩ := A6.three
  obtain ⟨bl6, bc60, bc61⟩ := B6.two
  go_wp2_with fail
  refine (is3_any _ _ _ [] _ (IsP3s.nil _ _) (by simp)).mono ?_; rintro e w7 ⟨rfl, hg7⟩
  rw [show ([] : List P3).all nr3 = true from rfl]
  have A7 := Blk.gr (b := w1.heap.size) (vs := [.int .i64 0, .int .i64 0, .int .i64 1]) (by repeat (first | assumption | (refine Blk.new ?_; simp; done) | apply Blk.alloc | apply Blk.drew | apply Blk.dn)) hg7
  have B7 := Blk.gr (b := w3.heap.size) (vs := [.int .i64 9, .int .i64 7]) (by repeat (first | assumption | (refine Blk.new ?_; simp; done) | apply Blk.alloc | apply Blk.drew | apply Blk.dn)) hg7
  have gg7 : Gr w w7 := by repeat (first | exact Gr.refl _ | assumption | refine Gr.trans ?_ (by assumption) | apply Gr.alloc | apply Gr.drew | apply Gr.dn)
  clear hg7 al6 ac60 ac61 ac62 bl6 bc60 bc61 A6 B6 gg6
  obtain ⟨al7, ac70, ac71, ac72⟩ := A7.three
  obtain ⟨bl7, bc70, bc71⟩ := B7.two
  go_wp2_with fail
  refine (is2_any _ _ _ [⟨9, 7⟩] _ (by exact IsP2s.of_blk1 (Blk.new (by simp))) (by intro p hp; simp at hp; subst hp; dsimp only; unfold I; omega)).mono ?_; rintro e w8 ⟨rfl, hg8⟩
  rw [show [(⟨9, 7⟩ : P2)].all nr2 = true from by decide]
  have A8 := Blk.gr (b := w1.heap.size) (vs := [.int .i64 0, .int .i64 0, .int .i64 1]) (by repeat (first | assumption | (refine Blk.new ?_; simp; done) | apply Blk.alloc | apply Blk.drew | apply Blk.dn)) hg8
  have B8 := Blk.gr (b := w3.heap.size) (vs := [.int .i64 9, .int .i64 7]) (by repeat (first | assumption | (refine Blk.new ?_; simp; done) | apply Blk.alloc | apply Blk.drew | apply Blk.dn)) hg8
  have gg8 : Gr w w8 := by repeat (first | exact Gr.refl _ | assumption | refine Gr.trans ?_ (by assumption) | apply Gr.alloc | apply Gr.drew | apply Gr.dn)
  clear hg8 al7 ac70 ac71 ac72 bl7 bc70 bc71 A7 B7 gg7
  obtain ⟨al8, ac80, ac81, ac82⟩ := A8.three
  obtain ⟨bl8, bc80, bc81⟩ := B8.two
  go_wp2_with fail
  go_ret
  exact ⟨rfl, gg8⟩
end Vc
end Go.Proofs.Ytjnnonhapjdjoaa
