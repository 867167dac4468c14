/- The walk of VecOrder, a part of its cases. -/
import Derived.Test.YtjnnonhapjdjoaaVi
import Derived.Test.YtjnnonhapjdjoaaVp
import Derived.Test.YtjnnonhapjdjoaaVo
import Derived.Test.YtjnnonhapjdjoaaCn
set_option linter.unusedVariables false
namespace Go.Proofs.Ytjnnonhapjdjoaa
open Go.RowKit
open Vc

set_option maxRecDepth 100000 in
set_option maxHeartbeats 4000000 in
theorem ord_0ffn (w : World) (a1 a2 a3 c1 c2 c3 : Int) (ia : I a1 ∧ I a2 ∧ I a3) (lab : ls ⟨a1, a2, a3⟩ ⟨a1, a2, a3⟩ = false) (lba : ls ⟨a1, a2, a3⟩ ⟨a1, a2, a3⟩ = false) :
    Calls Try.prog 6 #[.agg #[.int .i64 a1, .int .i64 a2, .int .i64 a3], .agg #[.int .i64 a1, .int .i64 a2, .int .i64 a3], .agg #[.int .i64 c1, .int .i64 c2, .int .i64 c3]] w fun e w' => e = .returned (.bool true) ∧ Gr w w' := by
  have HA := Lib.hid ia; have LAB := Lib.hid lab; have LBA := Lib.hid lba; clear ia lab lba
  have hq := axn_sq a1 a2 a3
  have HQ := Lib.hid hq; clear hq
  go_enter Try.func6, Try.ntmps6
  go_wp2_with fail
  refine (less3_any _ _ _ _ _ _ _).mono ?_; rintro e w1 ⟨rfl, hg1⟩
  rw [LAB.out]
  have A1 := Blk.gr (b := w.heap.size) (vs := [.int .i64 a1, .int .i64 a2, .int .i64 a3]) (by repeat (first | assumption | (refine Blk.new ?_; simp; done) | apply Blk.alloc | apply Blk.drew | apply Blk.dn)) hg1
  have B1 := Blk.gr (b := w.heap.size + 1) (vs := [.int .i64 a1, .int .i64 a2, .int .i64 a3]) (by repeat (first | assumption | (refine Blk.new ?_; simp; done) | apply Blk.alloc | apply Blk.drew | apply Blk.dn)) hg1
  have C1 := Blk.gr (b := w.heap.size + 1 + 1) (vs := [.int .i64 c1, .int .i64 c2, .int .i64 c3]) (by repeat (first | assumption | (refine Blk.new ?_; simp; done) | apply Blk.alloc | apply Blk.drew | apply Blk.dn)) hg1
  have gg1 : Gr w w1 := by repeat (first | exact Gr.refl _ | assumption | refine Gr.trans ?_ (by assumption) | apply Gr.alloc | apply Gr.drew | apply Gr.dn)
  clear hg1
  obtain ⟨al1, ac10, ac11, ac12⟩ := A1.three
  obtain ⟨bl1, bc10, bc11, bc12⟩ := B1.three
  obtain ⟨cl1, cc10, cc11, cc12⟩ := C1.three
  go_wp2_with fail
  refine (less3_any _ _ _ _ _ _ _).mono ?_; rintro e w2 ⟨rfl, hg2⟩
  rw [LAB.out]
  have A2 := Blk.gr (b := w.heap.size) (vs := [.int .i64 a1, .int .i64 a2, .int .i64 a3]) (by repeat (first | assumption | (refine Blk.new ?_; simp; done) | apply Blk.alloc | apply Blk.drew | apply Blk.dn)) hg2
  have B2 := Blk.gr (b := w.heap.size + 1) (vs := [.int .i64 a1, .int .i64 a2, .int .i64 a3]) (by repeat (first | assumption | (refine Blk.new ?_; simp; done) | apply Blk.alloc | apply Blk.drew | apply Blk.dn)) hg2
  have C2 := Blk.gr (b := w.heap.size + 1 + 1) (vs := [.int .i64 c1, .int .i64 c2, .int .i64 c3]) (by repeat (first | assumption | (refine Blk.new ?_; simp; done) | apply Blk.alloc | apply Blk.drew | apply Blk.dn)) hg2
  have gg2 : Gr w w2 := by repeat (first | exact Gr.refl _ | assumption | refine Gr.trans ?_ (by assumption) | apply Gr.alloc | apply Gr.drew | apply Gr.dn)
  clear hg2 al1 ac10 ac11 ac12 bl1 bc10 bc11 bc12 cl1 cc10 cc11 cc12 A1 B1 C1 gg1
  obtain ⟨al2, ac20, ac21, ac22⟩ := A2.three
  obtain ⟨bl2, bc20, bc21, bc22⟩ := B2.three
  obtain ⟨cl2, cc20, cc21, cc22⟩ := C2.three
  go_wp2_with fail
  have a2q0 := A2.gw 0 rfl
  have a2q1 := A2.gw 1 rfl
  have a2q2 := A2.gw 2 rfl
  have b2q0 := B2.gw 0 rfl
  have b2q1 := B2.gw 1 rfl
  have b2q2 := B2.gw 2 rfl
  refine wp_region_gr (W := w2) (by kernel_rfl) (by kernel_rfl) (by repeat (first | exact Gr.refl _ | assumption | refine Gr.trans ?_ (by assumption) | apply Gr.alloc | apply Gr.drew | apply Gr.dn)) ?_
  repeat (go_big_quiet_step (fail))
  go_big_quiet_want; go_big_quiet_op
  go_big_quiet_call (exact Calls.cw (v := .bool false) ((less3_any _ _ _ _ _ _ _).mono fun e w' h => ⟨by rw [LAB.out] at h; exact h.1, h.2⟩))
  repeat (go_big_quiet_step (fail))
  go_big_quiet_want; go_big_quiet_op
  go_big_quiet_call (exact Calls.cw (v := .bool false) ((less3_any _ _ _ _ _ _ _).mono fun e w' h => ⟨by rw [LBA.out] at h; exact h.1, h.2⟩))
  repeat (go_big_quiet_step (fail))
  refine wpQuiet_nil ?_
  rintro _ ⟨x, rfl⟩
  have hg3 := x.gr
  generalize x.val = w3 at *
  clear x a2q0 a2q1 a2q2 b2q0 b2q1 b2q2
  have A3 := A2.gr hg3
  have gg3 := gg2.trans hg3
  clear al2 ac20 ac21 ac22 bl2 bc20 bc21 bc22 cl2 cc20 cc21 cc22 A2 B2 C2 gg2 hg3
  obtain ⟨al, ac0, ac1, ac2⟩ := A3.three
  go_wp2_with fail
  refine (axis_any _ _ _ HA.out.1 HA.out.2.1 HA.out.2.2 _).mono ?_; rintro e w4 ⟨rfl, hg4⟩
  have A4 := Blk.gr (b := w.heap.size) (vs := [.int .i64 a1, .int .i64 a2, .int .i64 a3]) (by repeat (first | assumption | (refine Blk.new ?_; simp; done) | apply Blk.alloc | apply Blk.drew | apply Blk.dn)) hg4
  have gg4 : Gr w w4 := by repeat (first | exact Gr.refl _ | assumption | refine Gr.trans ?_ (by assumption) | apply Gr.alloc | apply Gr.drew | apply Gr.dn)
  clear hg4 al ac0 ac1 ac2 A3 gg3
  obtain ⟨al4, ac40, ac41, ac42⟩ := A4.three
  rcases HQ.out with ⟨hax, s1, s2⟩ | ⟨hax, s1, s2⟩ | ⟨hax, s1, s2⟩
  · rw [show ((axn a1 a2 a3 : Nat) : Int) = 0 from by rw [hax]; rfl]
    clear hax
    by_cases hn : nr3 ⟨a1, a2, a3⟩ = true
    · obtain ⟨⟨x1, x2⟩, ⟨y1, y2⟩, ⟨z1, z2⟩⟩ := nr3_iff.1 hn
      obtain ⟨m0a, m0b⟩ := mul_bd (x := a1) (y := a1) (M := 1048576) (N := 1048576) 1099511627776 (by decide) ⟨x1, x2⟩ ⟨x1, x2⟩
      obtain ⟨m1a, m1b⟩ := mul_bd (x := a2) (y := a2) (M := 1048576) (N := 1048576) 1099511627776 (by decide) ⟨y1, y2⟩ ⟨y1, y2⟩
      obtain ⟨m2a, m2b⟩ := mul_bd (x := a3) (y := a3) (M := 1048576) (N := 1048576) 1099511627776 (by decide) ⟨z1, z2⟩ ⟨z1, z2⟩
      have HN : Hid ([(⟨a1, a2, a3⟩ : P3)].all nr3 = true) := by show _ = _; simpa using hn
      clear hn
      go_wp2_with fail
      refine (is3_any _ _ _ [⟨a1, a2, a3⟩] _ (by exact IsP3s.of_blk1 (Blk.new (by simp))) (by intro p hp; simp at hp; subst hp; exact HA.out)).mono ?_; rintro e w5 ⟨rfl, hg5⟩
      rw [HN.out]
      have A5 := Blk.gr (b := w.heap.size) (vs := [.int .i64 a1, .int .i64 a2, .int .i64 a3]) (by repeat (first | assumption | (refine Blk.new ?_; simp; done) | apply Blk.alloc | apply Blk.drew | apply Blk.dn)) hg5
      have gg5 : Gr w w5 := by repeat (first | exact Gr.refl _ | assumption | refine Gr.trans ?_ (by assumption) | apply Gr.alloc | apply Gr.drew | apply Gr.dn)
      clear hg5 al4 ac40 ac41 ac42 A4 gg4
      obtain ⟨al5, ac50, ac51, ac52⟩ := A5.three
      go_wp2
      have S := Blk.new (w := w5) (b := w5.heap.size) (vs := [.int .i64 (a1 * a1), .int .i64 (a2 * a2), .int .i64 (a3 * a3)]) (T := 3) rfl
      have gs := gg5.alloc (.cells #[.int .i64 (a1 * a1), .int .i64 (a2 * a2), .int .i64 (a3 * a3)] 3)
      clear al5 ac50 ac51 ac52 A5 gg5
      generalize w5.heap.size = sb at *
      go_loopw [9] (fun i wr => ∃ k : Nat, k ≤ 3 ∧ i = .int .i64 k ∧ Blk wr sb [.int .i64 (a1 * a1), .int .i64 (a2 * a2), .int .i64 (a3 * a3)] ∧ Gr w wr) (fun i _ => 3 - (intOf i).toNat)
      case atStart => exact ⟨0, by omega, rfl, S, gs⟩
      case round =>
        clear S gs
        obtain ⟨k, hk, rfl, S, gs⟩ := hrel
        obtain ⟨_, p0, p1, p2⟩ := S.three
        generalize a1 * a1 = q1 at *
        generalize a2 * a2 = q2 at *
        generalize a3 * a3 = q3 at *
        have hkk : k = 3 ∨ k = 0 ∨ k = 1 ∨ k = 2 := by omega
        rcases hkk with rfl | rfl | rfl | rfl
        · go_wp2_with fail
          refine (crossed_any _).mono ?_; rintro e w90 ⟨rfl, hg90⟩
          go_wp2_with fail
          go_ret
          exact ⟨rfl, gs.trans hg90⟩
        · have t1 : decide (q1 < q1) = false := decide_eq_false (by omega)
          go_wp2
          go_quiet (fail)
          go_wp2
          go_roundw
          case rel => exact ⟨1, by omega, rfl, S.dn _, gs.dn _⟩
          case measure => simp [intOf]
        · have t1 : decide (q1 < q2) = false := decide_eq_false (by omega)
          go_wp2
          go_quiet (fail)
          go_wp2
          go_roundw
          case rel => exact ⟨2, by omega, rfl, S.dn _, gs.dn _⟩
          case measure => simp [intOf]
        · have t1 : decide (q1 < q3) = false := decide_eq_false (by omega)
          go_wp2
          go_quiet (fail)
          go_wp2
          go_roundw
          case rel => exact ⟨3, by omega, rfl, S.dn _, gs.dn _⟩
          case measure => simp [intOf]
    · rw [Bool.not_eq_true] at hn
      have HN : Hid ([(⟨a1, a2, a3⟩ : P3)].all nr3 = false) := by show _ = _; simpa using hn
      clear hn
      go_wp2_with fail
      refine (is3_any _ _ _ [⟨a1, a2, a3⟩] _ (by exact IsP3s.of_blk1 (Blk.new (by simp))) (by intro p hp; simp at hp; subst hp; exact HA.out)).mono ?_; rintro e w5 ⟨rfl, hg5⟩
      rw [HN.out]
      have A5 := Blk.gr (b := w.heap.size) (vs := [.int .i64 a1, .int .i64 a2, .int .i64 a3]) (by repeat (first | assumption | (refine Blk.new ?_; simp; done) | apply Blk.alloc | apply Blk.drew | apply Blk.dn)) hg5
      have gg5 : Gr w w5 := by repeat (first | exact Gr.refl _ | assumption | refine Gr.trans ?_ (by assumption) | apply Gr.alloc | apply Gr.drew | apply Gr.dn)
      clear hg5 al4 ac40 ac41 ac42 A4 gg4
      obtain ⟨al5, ac50, ac51, ac52⟩ := A5.three
      clear s1 s2
      go_wp2_with fail
      refine (crossed_any _).mono ?_; rintro e w6 ⟨rfl, hg6⟩
      have A6 := Blk.gr (b := w.heap.size) (vs := [.int .i64 a1, .int .i64 a2, .int .i64 a3]) (by repeat (first | assumption | (refine Blk.new ?_; simp; done) | apply Blk.alloc | apply Blk.drew | apply Blk.dn)) hg6
      have gg6 : Gr w w6 := by repeat (first | exact Gr.refl _ | assumption | refine Gr.trans ?_ (by assumption) | apply Gr.alloc | apply Gr.drew | apply Gr.dn)
      clear hg6 al5 ac50 ac51 ac52 A5 gg5
      obtain ⟨al6, ac60, ac61, ac62⟩ := A6.three
      go_wp2_with fail
      go_ret
      exact ⟨rfl, gg6⟩
  · rw [show ((axn a1 a2 a3 : Nat) : Int) = 1 from by rw [hax]; rfl]
    clear hax
    by_cases hn : nr3 ⟨a1, a2, a3⟩ = true
    · obtain ⟨⟨x1, x2⟩, ⟨y1, y2⟩, ⟨z1, z2⟩⟩ := nr3_iff.1 hn
      obtain ⟨m0a, m0b⟩ := mul_bd (x := a1) (y := a1) (M := 1048576) (N := 1048576) 1099511627776 (by decide) ⟨x1, x2⟩ ⟨x1, x2⟩
      obtain ⟨m1a, m1b⟩ := mul_bd (x := a2) (y := a2) (M := 1048576) (N := 1048576) 1099511627776 (by decide) ⟨y1, y2⟩ ⟨y1, y2⟩
      obtain ⟨m2a, m2b⟩ := mul_bd (x := a3) (y := a3) (M := 1048576) (N := 1048576) 1099511627776 (by decide) ⟨z1, z2⟩ ⟨z1, z2⟩
      have HN : Hid ([(⟨a1, a2, a3⟩ : P3)].all nr3 = true) := by show _ = _; simpa using hn
      clear hn
      go_wp2_with fail
      refine (is3_any _ _ _ [⟨a1, a2, a3⟩] _ (by exact IsP3s.of_blk1 (Blk.new (by simp))) (by intro p hp; simp at hp; subst hp; exact HA.out)).mono ?_; rintro e w5 ⟨rfl, hg5⟩
      rw [HN.out]
      have A5 := Blk.gr (b := w.heap.size) (vs := [.int .i64 a1, .int .i64 a2, .int .i64 a3]) (by repeat (first | assumption | (refine Blk.new ?_; simp; done) | apply Blk.alloc | apply Blk.drew | apply Blk.dn)) hg5
      have gg5 : Gr w w5 := by repeat (first | exact Gr.refl _ | assumption | refine Gr.trans ?_ (by assumption) | apply Gr.alloc | apply Gr.drew | apply Gr.dn)
      clear hg5 al4 ac40 ac41 ac42 A4 gg4
      obtain ⟨al5, ac50, ac51, ac52⟩ := A5.three
      go_wp2
      have S := Blk.new (w := w5) (b := w5.heap.size) (vs := [.int .i64 (a1 * a1), .int .i64 (a2 * a2), .int .i64 (a3 * a3)]) (T := 3) rfl
      have gs := gg5.alloc (.cells #[.int .i64 (a1 * a1), .int .i64 (a2 * a2), .int .i64 (a3 * a3)] 3)
      clear al5 ac50 ac51 ac52 A5 gg5
      generalize w5.heap.size = sb at *
      go_loopw [9] (fun i wr => ∃ k : Nat, k ≤ 3 ∧ i = .int .i64 k ∧ Blk wr sb [.int .i64 (a1 * a1), .int .i64 (a2 * a2), .int .i64 (a3 * a3)] ∧ Gr w wr) (fun i _ => 3 - (intOf i).toNat)
      case atStart => exact ⟨0, by omega, rfl, S, gs⟩
      case round =>
        clear S gs
        obtain ⟨k, hk, rfl, S, gs⟩ := hrel
        obtain ⟨_, p0, p1, p2⟩ := S.three
        generalize a1 * a1 = q1 at *
        generalize a2 * a2 = q2 at *
        generalize a3 * a3 = q3 at *
        have hkk : k = 3 ∨ k = 0 ∨ k = 1 ∨ k = 2 := by omega
        rcases hkk with rfl | rfl | rfl | rfl
        · go_wp2_with fail
          refine (crossed_any _).mono ?_; rintro e w90 ⟨rfl, hg90⟩
          go_wp2_with fail
          go_ret
          exact ⟨rfl, gs.trans hg90⟩
        · have t1 : decide (q2 < q1) = false := decide_eq_false (by omega)
          have t2 : (q1 == q2) = false := beq_eq_false_iff_ne.2 (by omega)
          go_wp2
          go_quiet (fail)
          go_wp2
          go_roundw
          case rel => exact ⟨1, by omega, rfl, S.dn _, gs.dn _⟩
          case measure => simp [intOf]
        · have t1 : decide (q2 < q2) = false := decide_eq_false (by omega)
          go_wp2
          go_quiet (fail)
          go_wp2
          go_roundw
          case rel => exact ⟨2, by omega, rfl, S.dn _, gs.dn _⟩
          case measure => simp [intOf]
        · have t1 : decide (q2 < q3) = false := decide_eq_false (by omega)
          go_wp2
          go_quiet (fail)
          go_wp2
          go_roundw
          case rel => exact ⟨3, by omega, rfl, S.dn _, gs.dn _⟩
          case measure => simp [intOf]
    · rw [Bool.not_eq_true] at hn
      have HN : Hid ([(⟨a1, a2, a3⟩ : P3)].all nr3 = false) := by show _ = _; simpa using hn
      clear hn
      go_wp2_with fail
      refine (is3_any _ _ _ [⟨a1, a2, a3⟩] _ (by exact IsP3s.of_blk1 (Blk.new (by simp))) (by intro p hp; simp at hp; subst hp; exact HA.out)).mono ?_; rintro e w5 ⟨rfl, hg5⟩
      rw [HN.out]
      have A5 := Blk.gr (b := w.heap.size) (vs := [.int .i64 a1, .int .i64 a2, .int .i64 a3]) (by repeat (first | assumption | (refine Blk.new ?_; simp; done) | apply Blk.alloc | apply Blk.drew | apply Blk.dn)) hg5
      have gg5 : Gr w w5 := by repeat (first | exact Gr.refl _ | assumption | refine Gr.trans ?_ (by assumption) | apply Gr.alloc | apply Gr.drew | apply Gr.dn)
      clear hg5 al4 ac40 ac41 ac42 A4 gg4
      obtain ⟨al5, ac50, ac51, ac52⟩ := A5.three
      clear s1 s2
      go_wp2_with fail
      refine (crossed_any _).mono ?_; rintro e w6 ⟨rfl, hg6⟩
      have A6 := Blk.gr (b := w.heap.size) (vs := [.int .i64 a1, .int .i64 a2, .int .i64 a3]) (by repeat (first | assumption | (refine Blk.new ?_; simp; done) | apply Blk.alloc | apply Blk.drew | apply Blk.dn)) hg6
      have gg6 : Gr w w6 := by repeat (first | exact Gr.refl _ | assumption | refine Gr.trans ?_ (by assumption) | apply Gr.alloc | apply Gr.drew | apply Gr.dn)
      clear hg6 al5 ac50 ac51 ac52 A5 gg5
      obtain ⟨al6, ac60, ac61, ac62⟩ := A6.three
      go_wp2_with fail
      go_ret
      exact ⟨rfl, gg6⟩
  · rw [show ((axn a1 a2 a3 : Nat) : Int) = 2 from by rw [hax]; rfl]
    clear hax
    by_cases hn : nr3 ⟨a1, a2, a3⟩ = true
    · obtain ⟨⟨x1, x2⟩, ⟨y1, y2⟩, ⟨z1, z2⟩⟩ := nr3_iff.1 hn
      obtain ⟨m0a, m0b⟩ := mul_bd (x := a1) (y := a1) (M := 1048576) (N := 1048576) 1099511627776 (by decide) ⟨x1, x2⟩ ⟨x1, x2⟩
      obtain ⟨m1a, m1b⟩ := mul_bd (x := a2) (y := a2) (M := 1048576) (N := 1048576) 1099511627776 (by decide) ⟨y1, y2⟩ ⟨y1, y2⟩
      obtain ⟨m2a, m2b⟩ := mul_bd (x := a3) (y := a3) (M := 1048576) (N := 1048576) 1099511627776 (by decide) ⟨z1, z2⟩ ⟨z1, z2⟩
      have HN : Hid ([(⟨a1, a2, a3⟩ : P3)].all nr3 = true) := by show _ = _; simpa using hn
      clear hn
      go_wp2_with fail
      refine (is3_any _ _ _ [⟨a1, a2, a3⟩] _ (by exact IsP3s.of_blk1 (Blk.new (by simp))) (by intro p hp; simp at hp; subst hp; exact HA.out)).mono ?_; rintro e w5 ⟨rfl, hg5⟩
      rw [HN.out]
      have A5 := Blk.gr (b := w.heap.size) (vs := [.int .i64 a1, .int .i64 a2, .int .i64 a3]) (by repeat (first | assumption | (refine Blk.new ?_; simp; done) | apply Blk.alloc | apply Blk.drew | apply Blk.dn)) hg5
      have gg5 : Gr w w5 := by repeat (first | exact Gr.refl _ | assumption | refine Gr.trans ?_ (by assumption) | apply Gr.alloc | apply Gr.drew | apply Gr.dn)
      clear hg5 al4 ac40 ac41 ac42 A4 gg4
      obtain ⟨al5, ac50, ac51, ac52⟩ := A5.three
      go_wp2
      have S := Blk.new (w := w5) (b := w5.heap.size) (vs := [.int .i64 (a1 * a1), .int .i64 (a2 * a2), .int .i64 (a3 * a3)]) (T := 3) rfl
      have gs := gg5.alloc (.cells #[.int .i64 (a1 * a1), .int .i64 (a2 * a2), .int .i64 (a3 * a3)] 3)
      clear al5 ac50 ac51 ac52 A5 gg5
      generalize w5.heap.size = sb at *
      go_loopw [9] (fun i wr => ∃ k : Nat, k ≤ 3 ∧ i = .int .i64 k ∧ Blk wr sb [.int .i64 (a1 * a1), .int .i64 (a2 * a2), .int .i64 (a3 * a3)] ∧ Gr w wr) (fun i _ => 3 - (intOf i).toNat)
      case atStart => exact ⟨0, by omega, rfl, S, gs⟩
      case round =>
        clear S gs
        obtain ⟨k, hk, rfl, S, gs⟩ := hrel
        obtain ⟨_, p0, p1, p2⟩ := S.three
        generalize a1 * a1 = q1 at *
        generalize a2 * a2 = q2 at *
        generalize a3 * a3 = q3 at *
        have hkk : k = 3 ∨ k = 0 ∨ k = 1 ∨ k = 2 := by omega
        rcases hkk with rfl | rfl | rfl | rfl
        · go_wp2_with fail
          refine (crossed_any _).mono ?_; rintro e w90 ⟨rfl, hg90⟩
          go_wp2_with fail
          go_ret
          exact ⟨rfl, gs.trans hg90⟩
        · have t1 : decide (q3 < q1) = false := decide_eq_false (by omega)
          have t2 : (q1 == q3) = false := beq_eq_false_iff_ne.2 (by omega)
          go_wp2
          go_quiet (fail)
          go_wp2
          go_roundw
          case rel => exact ⟨1, by omega, rfl, S.dn _, gs.dn _⟩
          case measure => simp [intOf]
        · have t1 : decide (q3 < q2) = false := decide_eq_false (by omega)
          have t2 : (q2 == q3) = false := beq_eq_false_iff_ne.2 (by omega)
          go_wp2
          go_quiet (fail)
          go_wp2
          go_roundw
          case rel => exact ⟨2, by omega, rfl, S.dn _, gs.dn _⟩
          case measure => simp [intOf]
        · have t1 : decide (q3 < q3) = false := decide_eq_false (by omega)
          go_wp2
          go_quiet (fail)
          go_wp2
          go_roundw
          case rel => exact ⟨3, by omega, rfl, S.dn _, gs.dn _⟩
          case measure => simp [intOf]
    · rw [Bool.not_eq_true] at hn
      have HN : Hid ([(⟨a1, a2, a3⟩ : P3)].all nr3 = false) := by show _ = _; simpa using hn
      clear hn
      go_wp2_with fail
      refine (is3_any _ _ _ [⟨a1, a2, a3⟩] _ (by exact IsP3s.of_blk1 (Blk.new (by simp))) (by intro p hp; simp at hp; subst hp; exact HA.out)).mono ?_; rintro e w5 ⟨rfl, hg5⟩
      rw [HN.out]
      have A5 := Blk.gr (b := w.heap.size) (vs := [.int .i64 a1, .int .i64 a2, .int .i64 a3]) (by repeat (first | assumption | (refine Blk.new ?_; simp; done) | apply Blk.alloc | apply Blk.drew | apply Blk.dn)) hg5
      have gg5 : Gr w w5 := by repeat (first | exact Gr.refl _ | assumption | refine Gr.trans ?_ (by assumption) | apply Gr.alloc | apply Gr.drew | apply Gr.dn)
      clear hg5 al4 ac40 ac41 ac42 A4 gg4
      obtain ⟨al5, ac50, ac51, ac52⟩ := A5.three
      clear s1 s2
      go_wp2_with fail
      refine (crossed_any _).mono ?_; rintro e w6 ⟨rfl, hg6⟩
      have A6 := Blk.gr (b := w.heap.size) (vs := [.int .i64 a1, .int .i64 a2, .int .i64 a3]) (by repeat (first | assumption | (refine Blk.new ?_; simp; done) | apply Blk.alloc | apply Blk.drew | apply Blk.dn)) hg6
      have gg6 : Gr w w6 := by repeat (first | exact Gr.refl _ | assumption | refine Gr.trans ?_ (by assumption) | apply Gr.alloc | apply Gr.drew | apply Gr.dn)
      clear hg6 al5 ac50 ac51 ac52 A5 gg5
      obtain ⟨al6, ac60, ac61, ac62⟩ := A6.three
      go_wp2_with fail
      go_ret
      exact ⟨rfl, gg6⟩

end Go.Proofs.Ytjnnonhapjdjoaa
