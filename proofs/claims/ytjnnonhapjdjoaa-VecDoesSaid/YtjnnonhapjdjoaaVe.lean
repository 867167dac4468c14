/- The contract of vec.Dot. -/
import Derived.Test.YtjnnonhapjdjoaaVc
import Derived.Deep.RegionHeld3
import Derived.Deep.DeepCutAuto
import Derived.Deep.DrawnRows
set_option linter.unusedVariables false
namespace Go.Proofs.Ytjnnonhapjdjoaa
open Go.RowKit
namespace Vc
attribute [local go_sem ↓] Go.wp_at_zero Go.wp_at_succ

set_option maxHeartbeats 1000000 in
theorem dot_no (ax ay az bx by' bz : Int) (ia : I ax ∧ I ay ∧ I az) (ib : I bx ∧ I by' ∧ I bz) (h : nn ⟨ax, ay, az⟩ ⟨bx, by', bz⟩ = false) (w : World) :
    Calls Try.prog 19 #[.agg #[.int .i64 ax, .int .i64 ay, .int .i64 az], .agg #[.int .i64 bx, .int .i64 by', .int .i64 bz]] w fun e w' => e = .returned (.tuple #[.int .i64 0, .int .i64 5]) ∧ Gr w w' := by
  have hin : ∀ p ∈ [(⟨ax, ay, az⟩ : P3), ⟨bx, by', bz⟩], I p.x ∧ I p.y ∧ I p.z := by
    intro p hp; simp at hp; rcases hp with rfl | rfl
    · exact ia
    · exact ib
  have HI := Lib.hid hin; clear hin ia ib
  have hall : [(⟨ax, ay, az⟩ : P3), ⟨bx, by', bz⟩].all nr3 = false := by unfold nn at h; simpa using h
  have HA := Lib.hid hall; have HN := Lib.hid h; clear hall h
  go_enter Try.func19, Try.ntmps19
  go_wp2_with fail
  refine (is3_any _ _ _ [⟨ax, ay, az⟩, ⟨bx, by', bz⟩] _ (by exact IsP3s.of_blk2 (Blk.new (by simp))) HI.out).mono ?_; rintro e w1 ⟨rfl, hg1⟩; rw [HA.out]
  have hgg : Gr w w1 := by repeat (first | exact Gr.refl _ | refine Gr.trans ?_ hg1 | apply Gr.alloc)
  have hsz := hgg.size
  clear hg1
  go_wp2
  go_ret2
  exact ⟨rfl, hgg⟩

set_option maxHeartbeats 1000000 in
theorem dot_ok (ax ay az bx by' bz : Int) (ia : I ax ∧ I ay ∧ I az) (ib : I bx ∧ I by' ∧ I bz) (h : nn ⟨ax, ay, az⟩ ⟨bx, by', bz⟩ = true) (w : World) :
    Calls Try.prog 19 #[.agg #[.int .i64 ax, .int .i64 ay, .int .i64 az], .agg #[.int .i64 bx, .int .i64 by', .int .i64 bz]] w fun e w' => e = .returned (.tuple #[.int .i64 (ax * bx + ay * by' + az * bz), .int .i64 0]) ∧ Gr w w' := by
  have hin : ∀ p ∈ [(⟨ax, ay, az⟩ : P3), ⟨bx, by', bz⟩], I p.x ∧ I p.y ∧ I p.z := by
    intro p hp; simp at hp; rcases hp with rfl | rfl
    · exact ia
    · exact ib
  have HI := Lib.hid hin; clear hin ia ib
  have hb : ((-1048576 ≤ ax ∧ ax ≤ 1048576) ∧ (-1048576 ≤ ay ∧ ay ≤ 1048576) ∧ (-1048576 ≤ az ∧ az ≤ 1048576)) ∧ ((-1048576 ≤ bx ∧ bx ≤ 1048576) ∧ (-1048576 ≤ by' ∧ by' ≤ 1048576) ∧ (-1048576 ≤ bz ∧ bz ≤ 1048576)) := by
    unfold nn at h; rw [Bool.and_eq_true, nr3_iff, nr3_iff] at h; exact h
  obtain ⟨⟨⟨x1, x2⟩, ⟨y1, y2⟩, ⟨z1, z2⟩⟩, ⟨⟨u1, u2⟩, ⟨v1, v2⟩, ⟨t1, t2⟩⟩⟩ := hb
  obtain ⟨m0a, m0b⟩ := mul_bd (x := ax) (y := bx) (M := 1048576) (N := 1048576) 1099511627776 (by decide) ⟨x1, x2⟩ ⟨u1, u2⟩
  obtain ⟨m1a, m1b⟩ := mul_bd (x := ay) (y := by') (M := 1048576) (N := 1048576) 1099511627776 (by decide) ⟨y1, y2⟩ ⟨v1, v2⟩
  obtain ⟨m2a, m2b⟩ := mul_bd (x := az) (y := bz) (M := 1048576) (N := 1048576) 1099511627776 (by decide) ⟨z1, z2⟩ ⟨t1, t2⟩
  have hall : [(⟨ax, ay, az⟩ : P3), ⟨bx, by', bz⟩].all nr3 = true := by unfold nn at h; simpa using h
  have HA := Lib.hid hall; have HN := Lib.hid h; clear hall h
  go_enter Try.func19, Try.ntmps19
  go_wp2_with fail
  refine (is3_any _ _ _ [⟨ax, ay, az⟩, ⟨bx, by', bz⟩] _ (by exact IsP3s.of_blk2 (Blk.new (by simp))) HI.out).mono ?_; rintro e w1 ⟨rfl, hg1⟩; rw [HA.out]
  have A := Blk.gr (b := w.heap.size) (vs := [.int .i64 ax, .int .i64 ay, .int .i64 az]) (by repeat (first | (refine Blk.new ?_; simp; done) | apply Blk.alloc | apply Blk.drew)) hg1
  have B := Blk.gr (b := w.heap.size + 1) (vs := [.int .i64 bx, .int .i64 by', .int .i64 bz]) (by repeat (first | (refine Blk.new ?_; simp; done) | apply Blk.alloc | apply Blk.drew)) hg1
  have hgg : Gr w w1 := by repeat (first | exact Gr.refl _ | refine Gr.trans ?_ hg1 | apply Gr.alloc)
  have hsz := hgg.size
  clear hg1
  obtain ⟨la, a0, a1, a2⟩ := A.three
  obtain ⟨lb, b0, b1, b2⟩ := B.three
  go_upto_region 3 with fail
  go_cut [6, 7] (fun s5 s6 wx => ∃ p q : Nat, s5 = .pointer (some ⟨p, 0, none⟩) ∧ s6 = .pointer (some ⟨q, 0, none⟩) ∧ Blk wx p [.int .i64 ax, .int .i64 ay, .int .i64 az] ∧ Blk wx q [.int .i64 bx, .int .i64 by', .int .i64 bz] ∧ w.heap.size ≤ p ∧ w.heap.size ≤ q ∧ p ≠ q ∧ Gr w1 wx)
  case first =>
    go_region_held3 (fun w' => w'.cell? ⟨w.heap.size, 0, none⟩ = some (.int .i64 ax) ∧ w'.cell? ⟨w.heap.size, 1, none⟩ = some (.int .i64 ay) ∧ w'.cell? ⟨w.heap.size, 2, none⟩ = some (.int .i64 az) ∧
       w'.cell? ⟨w.heap.size + 1, 0, none⟩ = some (.int .i64 bx) ∧ w'.cell? ⟨w.heap.size + 1, 1, none⟩ = some (.int .i64 by') ∧ w'.cell? ⟨w.heap.size + 1, 2, none⟩ = some (.int .i64 bz)) ((refine keep33 ?_ ?_ <;> (repeat (first | assumption | apply Blk.drew | apply Blk.alloc))))
      (first | (go_at_call 49; refine (parts_any _ _ _ _).mono ?_; rintro e w' ⟨rfl, rfl⟩))
    all_goals
      go_wp2_with fail
      go_meet
      refine ⟨_, _, rfl, rfl, ?_, ?_, ?_, ?_, ?_, ?_⟩
      case rel.refine_1 => repeat (first | (refine Blk.new ?_; simp; done) | apply Blk.alloc | apply Blk.drew)
      case rel.refine_2 => repeat (first | (refine Blk.new ?_; simp; done) | apply Blk.alloc | apply Blk.drew)
      case rel.refine_6 => repeat (first | exact Gr.refl _ | apply Gr.alloc | apply Gr.drew)
      all_goals omega
  case rest =>
    obtain ⟨p, q, rfl, rfl, P, Q, hp, hq, hpq, hg2⟩ := hcut
    have hg3 := hgg.trans hg2
    clear a0 a1 a2 b0 b1 b2 A B hg2 hgg la lb hsz
    go_wp2
    go_loopw [8, 19] (fun n i wr => ∃ k : Nat, k ≤ 3 ∧ i = .int .i64 k ∧ n = .int .i64 (if 2 < k then ax * bx + ay * by' + az * bz else if 1 < k then ax * bx + ay * by' else if 0 < k then ax * bx else 0) ∧ Blk wr q [.int .i64 bx, .int .i64 by', .int .i64 bz] ∧ Gr w wr ∧ Blk wr p [.int .i64 ax, .int .i64 ay, .int .i64 az]) (fun _ i _ => 3 - (intOf i).toNat)
    case atStart => exact ⟨0, by omega, rfl, rfl, Q, hg3, P⟩
    case round =>
      obtain ⟨k, hk, rfl, rfl, Q, hg3, P⟩ := hrel
      obtain ⟨_, p0, p1, p2⟩ := P.three
      obtain ⟨_, q0, q1, q2⟩ := Q.three
      have hkk : k = 0 ∨ k = 1 ∨ k = 2 ∨ k = 3 := by omega
      rcases hkk with rfl | rfl | rfl | rfl
      · go_wp2
        go_quiet (fail)
        go_wp2
        go_roundw
        case rel => exact ⟨1, by omega, rfl, by simp, Q.dn _, hg3.dn _, P.dn _⟩
        case measure => simp [intOf]
      · go_wp2
        go_quiet (fail)
        go_wp2
        go_roundw
        case rel => exact ⟨2, by omega, rfl, by simp, Q.dn _, hg3.dn _, P.dn _⟩
        case measure => simp [intOf]
      · go_wp2
        go_quiet (fail)
        go_wp2
        go_roundw
        case rel => exact ⟨3, by omega, rfl, by simp, Q.dn _, hg3.dn _, P.dn _⟩
        case measure => simp [intOf]
      · go_wp2
        go_ret2
        exact ⟨rfl, hg3⟩
end Vc
end Go.Proofs.Ytjnnonhapjdjoaa
