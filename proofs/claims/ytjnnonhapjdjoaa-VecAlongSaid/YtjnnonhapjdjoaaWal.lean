/- The walk of VecAlong. -/
import Derived.Test.YtjnnonhapjdjoaaVi
import Derived.Test.YtjnnonhapjdjoaaVp
set_option linter.unusedVariables false
namespace Go.Proofs.Ytjnnonhapjdjoaa
open Go.RowKit
open Vc

theorem along_plain (a1 a2 a3 b1 b2 b3 : Int) (h : nn ⟨a1, a2, a3⟩ ⟨b1, b2, b3⟩ = true) (k : Nat) (hk : k ≤ 2) :
    ne2 ⟨pa a1 a2 a3 ((k + 1) % 3), pa a1 a2 a3 ((k + 2) % 3)⟩ ⟨pa b1 b2 b3 ((k + 1) % 3), pa b1 b2 b3 ((k + 2) % 3)⟩ = 0 ∧
    cr2 ⟨pa a1 a2 a3 ((k + 1) % 3), pa a1 a2 a3 ((k + 2) % 3)⟩ ⟨pa b1 b2 b3 ((k + 1) % 3), pa b1 b2 b3 ((k + 2) % 3)⟩ = pa (cr ⟨a1, a2, a3⟩ ⟨b1, b2, b3⟩).x (cr ⟨a1, a2, a3⟩ ⟨b1, b2, b3⟩).y (cr ⟨a1, a2, a3⟩ ⟨b1, b2, b3⟩).z k := by
  have e : cr ⟨a1, a2, a3⟩ ⟨b1, b2, b3⟩ = ⟨a2 * b3 - a3 * b2, a3 * b1 - a1 * b3, a1 * b2 - a2 * b1⟩ := by unfold cr; rw [if_pos h]
  rw [e]
  have h' := h
  unfold nn nr3 at h'
  simp only [Bool.and_eq_true] at h'
  obtain ⟨⟨⟨p1, p2⟩, p3⟩, ⟨⟨q1, q2⟩, q3⟩⟩ := h'
  have hkk : k = 0 ∨ k = 1 ∨ k = 2 := by omega
  rcases hkk with rfl | rfl | rfl
  · have hn : nn2 ⟨a2, a3⟩ ⟨b2, b3⟩ = true := by unfold nn2 nr2; simp [p2, p3, q2, q3]
    exact ⟨ne2_yes hn, by show cr2 ⟨a2, a3⟩ ⟨b2, b3⟩ = _; unfold cr2; rw [if_pos hn]; rfl⟩
  · have hn : nn2 ⟨a3, a1⟩ ⟨b3, b1⟩ = true := by unfold nn2 nr2; simp [p1, p3, q1, q3]
    exact ⟨ne2_yes hn, by show cr2 ⟨a3, a1⟩ ⟨b3, b1⟩ = _; unfold cr2; rw [if_pos hn]; rfl⟩
  · have hn : nn2 ⟨a1, a2⟩ ⟨b1, b2⟩ = true := by unfold nn2 nr2; simp [p1, p2, q1, q2]
    exact ⟨ne2_yes hn, by show cr2 ⟨a1, a2⟩ ⟨b1, b2⟩ = _; unfold cr2; rw [if_pos hn]; rfl⟩

theorem pa_I {x y z : Int} (h : I x ∧ I y ∧ I z) (k : Nat) : I (pa x y z k) := by
  unfold pa; split
  · exact h.1
  · split
    · exact h.2.1
    · exact h.2.2

set_option maxRecDepth 100000 in
set_option maxHeartbeats 2000000 in
theorem walk_VecAlong (w : World) (a1 a2 a3 : Int) (ia1 : I a1) (ia2 : I a2) (ia3 : I a3) (b1 b2 b3 : Int) (ib1 : I b1) (ib2 : I b2) (ib3 : I b3) :
    Calls Try.prog 4 #[.agg #[.int .i64 a1, .int .i64 a2, .int .i64 a3], .agg #[.int .i64 b1, .int .i64 b2, .int .i64 b3]] w fun e w' => e = .returned (.bool true) ∧ Gr w w' := by
  have HA := Lib.hid (And.intro ia1 (And.intro ia2 ia3)); clear ia1 ia2 ia3
  have HB := Lib.hid (And.intro ib1 (And.intro ib2 ib3)); clear ib1 ib2 ib3
  obtain ⟨⟨c1, c2, c3⟩, hc⟩ : ∃ c, cr ⟨a1, a2, a3⟩ ⟨b1, b2, b3⟩ = c := ⟨_, rfl⟩
  have CE := Lib.hid hc; clear hc
  by_cases h : nn ⟨a1, a2, a3⟩ ⟨b1, b2, b3⟩ = true
  · have FE := Lib.hid (ne3_yes h)
    have AL := Lib.hid (along_plain a1 a2 a3 b1 b2 b3 h)
    clear h
    go_enter Try.func4, Try.ntmps4
    go_wp2_with fail
    refine (cross3_any _ _ _ _ _ _ HA.out HB.out _).mono ?_; rintro e w1 ⟨rfl, hg1⟩
    rw [CE.out, FE.out]; dsimp only
    have A1 := Blk.gr (b := w.heap.size) (vs := [.int .i64 a1, .int .i64 a2, .int .i64 a3]) (by repeat (first | assumption | (refine Blk.new ?_; simp; done) | apply Blk.alloc | apply Blk.drew | apply Blk.dn)) hg1
    have B1 := Blk.gr (b := w.heap.size + 1) (vs := [.int .i64 b1, .int .i64 b2, .int .i64 b3]) (by repeat (first | assumption | (refine Blk.new ?_; simp; done) | apply Blk.alloc | apply Blk.drew | apply Blk.dn)) hg1
    have gg1 : Gr w w1 := by repeat (first | exact Gr.refl _ | assumption | refine Gr.trans ?_ (by assumption) | apply Gr.alloc | apply Gr.drew | apply Gr.dn)
    clear hg1
    obtain ⟨al1, ac10, ac11, ac12⟩ := A1.three
    obtain ⟨bl1, bc10, bc11, bc12⟩ := B1.three
    go_wp2
    have C1 := Blk.new (w := w1.alloc (.cells #[.int .i64 c1, .int .i64 c2, .int .i64 c3] 23)) (b := w1.heap.size + 1) (vs := [.int .i64 c1, .int .i64 c2, .int .i64 c3]) (T := 3) (by simp)
    have A1' := (A1.alloc (o := .cells #[.int .i64 c1, .int .i64 c2, .int .i64 c3] 23)).alloc (o := .cells #[.int .i64 c1, .int .i64 c2, .int .i64 c3] 3)
    have B1' := (B1.alloc (o := .cells #[.int .i64 c1, .int .i64 c2, .int .i64 c3] 23)).alloc (o := .cells #[.int .i64 c1, .int .i64 c2, .int .i64 c3] 3)
    have gg' := (gg1.alloc (.cells #[.int .i64 c1, .int .i64 c2, .int .i64 c3] 23)).alloc (.cells #[.int .i64 c1, .int .i64 c2, .int .i64 c3] 3)
    clear al1 ac10 ac11 ac12 bl1 bc10 bc11 bc12 A1 B1 gg1
    go_loopw [8] (fun i wr => ∃ k : Nat, k ≤ 3 ∧ i = .int .i64 k ∧ Blk wr w.heap.size [.int .i64 a1, .int .i64 a2, .int .i64 a3] ∧ Blk wr (w.heap.size + 1) [.int .i64 b1, .int .i64 b2, .int .i64 b3] ∧ Blk wr (w1.heap.size + 1) [.int .i64 c1, .int .i64 c2, .int .i64 c3] ∧ Gr w wr) (fun i _ => 3 - (intOf i).toNat)
    case atStart => exact ⟨0, by omega, rfl, A1', B1', C1, gg'⟩
    case round =>
      clear A1' B1' C1 gg'
      obtain ⟨k, hk, rfl, A, B, C, hgr⟩ := hrel
      obtain ⟨al, ac0, ac1, ac2⟩ := A.three
      obtain ⟨bl, bc0, bc1, bc2⟩ := B.three
      obtain ⟨cl, cc0, cc1, cc2⟩ := C.three
      have hkk : k = 3 ∨ k = 0 ∨ k = 1 ∨ k = 2 := by omega
      rcases hkk with rfl | rfl | rfl | rfl
      · go_wp2_with fail
        refine (crossed_any _).mono ?_; rintro e w2 ⟨rfl, hg2⟩
        go_wp2_with fail
        go_ret
        exact ⟨rfl, hgr.trans hg2⟩
      · obtain ⟨r1, r2⟩ := AL.out 0 (by omega)
        rw [CE.out] at r2; dsimp only at r2
        have R1 := Lib.hid r1; have R2 := Lib.hid r2; clear r1 r2
        go_wp2_with fail
        refine (drop_ok _ _ _ 0 (by omega) _).mono ?_; rintro e w2 ⟨rfl, hg2⟩
        have A2 := Blk.gr (b := w.heap.size) (vs := [.int .i64 a1, .int .i64 a2, .int .i64 a3]) (by repeat (first | assumption | (refine Blk.new ?_; simp; done) | apply Blk.alloc | apply Blk.drew | apply Blk.dn)) hg2
        have B2 := Blk.gr (b := w.heap.size + 1) (vs := [.int .i64 b1, .int .i64 b2, .int .i64 b3]) (by repeat (first | assumption | (refine Blk.new ?_; simp; done) | apply Blk.alloc | apply Blk.drew | apply Blk.dn)) hg2
        have C2 := Blk.gr (b := w1.heap.size + 1) (vs := [.int .i64 c1, .int .i64 c2, .int .i64 c3]) (by repeat (first | assumption | (refine Blk.new ?_; simp; done) | apply Blk.alloc | apply Blk.drew | apply Blk.dn)) hg2
        have gg2 : Gr w w2 := by repeat (first | exact Gr.refl _ | assumption | refine Gr.trans ?_ (by assumption) | apply Gr.alloc | apply Gr.drew | apply Gr.dn)
        clear hg2 al ac0 ac1 ac2 bl bc0 bc1 bc2 cl cc0 cc1 cc2
        obtain ⟨al2, ac20, ac21, ac22⟩ := A2.three
        obtain ⟨bl2, bc20, bc21, bc22⟩ := B2.three
        obtain ⟨cl2, cc20, cc21, cc22⟩ := C2.three
        go_wp2_with fail
        refine (drop_ok _ _ _ 0 (by omega) _).mono ?_; rintro e w3 ⟨rfl, hg3⟩
        have A3 := Blk.gr (b := w.heap.size) (vs := [.int .i64 a1, .int .i64 a2, .int .i64 a3]) (by repeat (first | assumption | (refine Blk.new ?_; simp; done) | apply Blk.alloc | apply Blk.drew | apply Blk.dn)) hg3
        have B3 := Blk.gr (b := w.heap.size + 1) (vs := [.int .i64 b1, .int .i64 b2, .int .i64 b3]) (by repeat (first | assumption | (refine Blk.new ?_; simp; done) | apply Blk.alloc | apply Blk.drew | apply Blk.dn)) hg3
        have C3 := Blk.gr (b := w1.heap.size + 1) (vs := [.int .i64 c1, .int .i64 c2, .int .i64 c3]) (by repeat (first | assumption | (refine Blk.new ?_; simp; done) | apply Blk.alloc | apply Blk.drew | apply Blk.dn)) hg3
        have P3 := Blk.gr (b := w2.heap.size) (vs := [.int .i64 (pa a1 a2 a3 ((0 + 1) % 3)), .int .i64 (pa a1 a2 a3 ((0 + 2) % 3))]) (by repeat (first | assumption | (refine Blk.new ?_; simp; done) | apply Blk.alloc | apply Blk.drew | apply Blk.dn)) hg3
        have gg3 : Gr w w3 := by repeat (first | exact Gr.refl _ | assumption | refine Gr.trans ?_ (by assumption) | apply Gr.alloc | apply Gr.drew | apply Gr.dn)
        clear hg3 al2 ac20 ac21 ac22 bl2 bc20 bc21 bc22 cl2 cc20 cc21 cc22 A2 B2 C2 gg2
        obtain ⟨al3, ac30, ac31, ac32⟩ := A3.three
        obtain ⟨bl3, bc30, bc31, bc32⟩ := B3.three
        obtain ⟨cl3, cc30, cc31, cc32⟩ := C3.three
        obtain ⟨pl3, pc30, pc31⟩ := P3.two
        go_wp2_with fail
        refine (cross2_any _ _ _ _ ⟨pa_I HA.out _, pa_I HA.out _⟩ ⟨pa_I HB.out _, pa_I HB.out _⟩ _).mono ?_; rintro e w4 ⟨rfl, hg4⟩
        rw [R1.out, R2.out, show pa c1 c2 c3 0 = c1 from rfl]
        have A4 := Blk.gr (b := w.heap.size) (vs := [.int .i64 a1, .int .i64 a2, .int .i64 a3]) (by repeat (first | assumption | (refine Blk.new ?_; simp; done) | apply Blk.alloc | apply Blk.drew | apply Blk.dn)) hg4
        have B4 := Blk.gr (b := w.heap.size + 1) (vs := [.int .i64 b1, .int .i64 b2, .int .i64 b3]) (by repeat (first | assumption | (refine Blk.new ?_; simp; done) | apply Blk.alloc | apply Blk.drew | apply Blk.dn)) hg4
        have C4 := Blk.gr (b := w1.heap.size + 1) (vs := [.int .i64 c1, .int .i64 c2, .int .i64 c3]) (by repeat (first | assumption | (refine Blk.new ?_; simp; done) | apply Blk.alloc | apply Blk.drew | apply Blk.dn)) hg4
        have P4 := Blk.gr (b := w2.heap.size) (vs := [.int .i64 (pa a1 a2 a3 ((0 + 1) % 3)), .int .i64 (pa a1 a2 a3 ((0 + 2) % 3))]) (by repeat (first | assumption | (refine Blk.new ?_; simp; done) | apply Blk.alloc | apply Blk.drew | apply Blk.dn)) hg4
        have Q4 := Blk.gr (b := w3.heap.size) (vs := [.int .i64 (pa b1 b2 b3 ((0 + 1) % 3)), .int .i64 (pa b1 b2 b3 ((0 + 2) % 3))]) (by repeat (first | assumption | (refine Blk.new ?_; simp; done) | apply Blk.alloc | apply Blk.drew | apply Blk.dn)) hg4
        have gg4 : Gr w w4 := by repeat (first | exact Gr.refl _ | assumption | refine Gr.trans ?_ (by assumption) | apply Gr.alloc | apply Gr.drew | apply Gr.dn)
        clear hg4 al3 ac30 ac31 ac32 bl3 bc30 bc31 bc32 cl3 cc30 cc31 cc32 pl3 pc30 pc31 A3 B3 C3 P3 gg3
        obtain ⟨al4, ac40, ac41, ac42⟩ := A4.three
        obtain ⟨bl4, bc40, bc41, bc42⟩ := B4.three
        obtain ⟨cl4, cc40, cc41, cc42⟩ := C4.three
        obtain ⟨pl4, pc40, pc41⟩ := P4.two
        obtain ⟨ql4, qc40, qc41⟩ := Q4.two
        go_wp2_with fail
        go_roundw
        case rel => exact ⟨1, by omega, rfl, A4, B4, C4, gg4⟩
        case measure => simp [intOf]
      · obtain ⟨r1, r2⟩ := AL.out 1 (by omega)
        rw [CE.out] at r2; dsimp only at r2
        have R1 := Lib.hid r1; have R2 := Lib.hid r2; clear r1 r2
        go_wp2_with fail
        refine (drop_ok _ _ _ 1 (by omega) _).mono ?_; rintro e w2 ⟨rfl, hg2⟩
        have A2 := Blk.gr (b := w.heap.size) (vs := [.int .i64 a1, .int .i64 a2, .int .i64 a3]) (by repeat (first | assumption | (refine Blk.new ?_; simp; done) | apply Blk.alloc | apply Blk.drew | apply Blk.dn)) hg2
        have B2 := Blk.gr (b := w.heap.size + 1) (vs := [.int .i64 b1, .int .i64 b2, .int .i64 b3]) (by repeat (first | assumption | (refine Blk.new ?_; simp; done) | apply Blk.alloc | apply Blk.drew | apply Blk.dn)) hg2
        have C2 := Blk.gr (b := w1.heap.size + 1) (vs := [.int .i64 c1, .int .i64 c2, .int .i64 c3]) (by repeat (first | assumption | (refine Blk.new ?_; simp; done) | apply Blk.alloc | apply Blk.drew | apply Blk.dn)) hg2
        have gg2 : Gr w w2 := by repeat (first | exact Gr.refl _ | assumption | refine Gr.trans ?_ (by assumption) | apply Gr.alloc | apply Gr.drew | apply Gr.dn)
        clear hg2 al ac0 ac1 ac2 bl bc0 bc1 bc2 cl cc0 cc1 cc2
        obtain ⟨al2, ac20, ac21, ac22⟩ := A2.three
        obtain ⟨bl2, bc20, bc21, bc22⟩ := B2.three
        obtain ⟨cl2, cc20, cc21, cc22⟩ := C2.three
        go_wp2_with fail
        refine (drop_ok _ _ _ 1 (by omega) _).mono ?_; rintro e w3 ⟨rfl, hg3⟩
        have A3 := Blk.gr (b := w.heap.size) (vs := [.int .i64 a1, .int .i64 a2, .int .i64 a3]) (by repeat (first | assumption | (refine Blk.new ?_; simp; done) | apply Blk.alloc | apply Blk.drew | apply Blk.dn)) hg3
        have B3 := Blk.gr (b := w.heap.size + 1) (vs := [.int .i64 b1, .int .i64 b2, .int .i64 b3]) (by repeat (first | assumption | (refine Blk.new ?_; simp; done) | apply Blk.alloc | apply Blk.drew | apply Blk.dn)) hg3
        have C3 := Blk.gr (b := w1.heap.size + 1) (vs := [.int .i64 c1, .int .i64 c2, .int .i64 c3]) (by repeat (first | assumption | (refine Blk.new ?_; simp; done) | apply Blk.alloc | apply Blk.drew | apply Blk.dn)) hg3
        have P3 := Blk.gr (b := w2.heap.size) (vs := [.int .i64 (pa a1 a2 a3 ((1 + 1) % 3)), .int .i64 (pa a1 a2 a3 ((1 + 2) % 3))]) (by repeat (first | assumption | (refine Blk.new ?_; simp; done) | apply Blk.alloc | apply Blk.drew | apply Blk.dn)) hg3
        have gg3 : Gr w w3 := by repeat (first | exact Gr.refl _ | assumption | refine Gr.trans ?_ (by assumption) | apply Gr.alloc | apply Gr.drew | apply Gr.dn)
        clear hg3 al2 ac20 ac21 ac22 bl2 bc20 bc21 bc22 cl2 cc20 cc21 cc22 A2 B2 C2 gg2
        obtain ⟨al3, ac30, ac31, ac32⟩ := A3.three
        obtain ⟨bl3, bc30, bc31, bc32⟩ := B3.three
        obtain ⟨cl3, cc30, cc31, cc32⟩ := C3.three
        obtain ⟨pl3, pc30, pc31⟩ := P3.two
        go_wp2_with fail
        refine (cross2_any _ _ _ _ ⟨pa_I HA.out _, pa_I HA.out _⟩ ⟨pa_I HB.out _, pa_I HB.out _⟩ _).mono ?_; rintro e w4 ⟨rfl, hg4⟩
        rw [R1.out, R2.out, show pa c1 c2 c3 1 = c2 from rfl]
        have A4 := Blk.gr (b := w.heap.size) (vs := [.int .i64 a1, .int .i64 a2, .int .i64 a3]) (by repeat (first | assumption | (refine Blk.new ?_; simp; done) | apply Blk.alloc | apply Blk.drew | apply Blk.dn)) hg4
        have B4 := Blk.gr (b := w.heap.size + 1) (vs := [.int .i64 b1, .int .i64 b2, .int .i64 b3]) (by repeat (first | assumption | (refine Blk.new ?_; simp; done) | apply Blk.alloc | apply Blk.drew | apply Blk.dn)) hg4
        have C4 := Blk.gr (b := w1.heap.size + 1) (vs := [.int .i64 c1, .int .i64 c2, .int .i64 c3]) (by repeat (first | assumption | (refine Blk.new ?_; simp; done) | apply Blk.alloc | apply Blk.drew | apply Blk.dn)) hg4
        have P4 := Blk.gr (b := w2.heap.size) (vs := [.int .i64 (pa a1 a2 a3 ((1 + 1) % 3)), .int .i64 (pa a1 a2 a3 ((1 + 2) % 3))]) (by repeat (first | assumption | (refine Blk.new ?_; simp; done) | apply Blk.alloc | apply Blk.drew | apply Blk.dn)) hg4
        have Q4 := Blk.gr (b := w3.heap.size) (vs := [.int .i64 (pa b1 b2 b3 ((1 + 1) % 3)), .int .i64 (pa b1 b2 b3 ((1 + 2) % 3))]) (by repeat (first | assumption | (refine Blk.new ?_; simp; done) | apply Blk.alloc | apply Blk.drew | apply Blk.dn)) hg4
        have gg4 : Gr w w4 := by repeat (first | exact Gr.refl _ | assumption | refine Gr.trans ?_ (by assumption) | apply Gr.alloc | apply Gr.drew | apply Gr.dn)
        clear hg4 al3 ac30 ac31 ac32 bl3 bc30 bc31 bc32 cl3 cc30 cc31 cc32 pl3 pc30 pc31 A3 B3 C3 P3 gg3
        obtain ⟨al4, ac40, ac41, ac42⟩ := A4.three
        obtain ⟨bl4, bc40, bc41, bc42⟩ := B4.three
        obtain ⟨cl4, cc40, cc41, cc42⟩ := C4.three
        obtain ⟨pl4, pc40, pc41⟩ := P4.two
        obtain ⟨ql4, qc40, qc41⟩ := Q4.two
        go_wp2_with fail
        go_roundw
        case rel => exact ⟨2, by omega, rfl, A4, B4, C4, gg4⟩
        case measure => simp [intOf]
      · obtain ⟨r1, r2⟩ := AL.out 2 (by omega)
        rw [CE.out] at r2; dsimp only at r2
        have R1 := Lib.hid r1; have R2 := Lib.hid r2; clear r1 r2
        go_wp2_with fail
        refine (drop_ok _ _ _ 2 (by omega) _).mono ?_; rintro e w2 ⟨rfl, hg2⟩
        have A2 := Blk.gr (b := w.heap.size) (vs := [.int .i64 a1, .int .i64 a2, .int .i64 a3]) (by repeat (first | assumption | (refine Blk.new ?_; simp; done) | apply Blk.alloc | apply Blk.drew | apply Blk.dn)) hg2
        have B2 := Blk.gr (b := w.heap.size + 1) (vs := [.int .i64 b1, .int .i64 b2, .int .i64 b3]) (by repeat (first | assumption | (refine Blk.new ?_; simp; done) | apply Blk.alloc | apply Blk.drew | apply Blk.dn)) hg2
        have C2 := Blk.gr (b := w1.heap.size + 1) (vs := [.int .i64 c1, .int .i64 c2, .int .i64 c3]) (by repeat (first | assumption | (refine Blk.new ?_; simp; done) | apply Blk.alloc | apply Blk.drew | apply Blk.dn)) hg2
        have gg2 : Gr w w2 := by repeat (first | exact Gr.refl _ | assumption | refine Gr.trans ?_ (by assumption) | apply Gr.alloc | apply Gr.drew | apply Gr.dn)
        clear hg2 al ac0 ac1 ac2 bl bc0 bc1 bc2 cl cc0 cc1 cc2
        obtain ⟨al2, ac20, ac21, ac22⟩ := A2.three
        obtain ⟨bl2, bc20, bc21, bc22⟩ := B2.three
        obtain ⟨cl2, cc20, cc21, cc22⟩ := C2.three
        go_wp2_with fail
        refine (drop_ok _ _ _ 2 (by omega) _).mono ?_; rintro e w3 ⟨rfl, hg3⟩
        have A3 := Blk.gr (b := w.heap.size) (vs := [.int .i64 a1, .int .i64 a2, .int .i64 a3]) (by repeat (first | assumption | (refine Blk.new ?_; simp; done) | apply Blk.alloc | apply Blk.drew | apply Blk.dn)) hg3
        have B3 := Blk.gr (b := w.heap.size + 1) (vs := [.int .i64 b1, .int .i64 b2, .int .i64 b3]) (by repeat (first | assumption | (refine Blk.new ?_; simp; done) | apply Blk.alloc | apply Blk.drew | apply Blk.dn)) hg3
        have C3 := Blk.gr (b := w1.heap.size + 1) (vs := [.int .i64 c1, .int .i64 c2, .int .i64 c3]) (by repeat (first | assumption | (refine Blk.new ?_; simp; done) | apply Blk.alloc | apply Blk.drew | apply Blk.dn)) hg3
        have P3 := Blk.gr (b := w2.heap.size) (vs := [.int .i64 (pa a1 a2 a3 ((2 + 1) % 3)), .int .i64 (pa a1 a2 a3 ((2 + 2) % 3))]) (by repeat (first | assumption | (refine Blk.new ?_; simp; done) | apply Blk.alloc | apply Blk.drew | apply Blk.dn)) hg3
        have gg3 : Gr w w3 := by repeat (first | exact Gr.refl _ | assumption | refine Gr.trans ?_ (by assumption) | apply Gr.alloc | apply Gr.drew | apply Gr.dn)
        clear hg3 al2 ac20 ac21 ac22 bl2 bc20 bc21 bc22 cl2 cc20 cc21 cc22 A2 B2 C2 gg2
        obtain ⟨al3, ac30, ac31, ac32⟩ := A3.three
        obtain ⟨bl3, bc30, bc31, bc32⟩ := B3.three
        obtain ⟨cl3, cc30, cc31, cc32⟩ := C3.three
        obtain ⟨pl3, pc30, pc31⟩ := P3.two
        go_wp2_with fail
        refine (cross2_any _ _ _ _ ⟨pa_I HA.out _, pa_I HA.out _⟩ ⟨pa_I HB.out _, pa_I HB.out _⟩ _).mono ?_; rintro e w4 ⟨rfl, hg4⟩
        rw [R1.out, R2.out, show pa c1 c2 c3 2 = c3 from rfl]
        have A4 := Blk.gr (b := w.heap.size) (vs := [.int .i64 a1, .int .i64 a2, .int .i64 a3]) (by repeat (first | assumption | (refine Blk.new ?_; simp; done) | apply Blk.alloc | apply Blk.drew | apply Blk.dn)) hg4
        have B4 := Blk.gr (b := w.heap.size + 1) (vs := [.int .i64 b1, .int .i64 b2, .int .i64 b3]) (by repeat (first | assumption | (refine Blk.new ?_; simp; done) | apply Blk.alloc | apply Blk.drew | apply Blk.dn)) hg4
        have C4 := Blk.gr (b := w1.heap.size + 1) (vs := [.int .i64 c1, .int .i64 c2, .int .i64 c3]) (by repeat (first | assumption | (refine Blk.new ?_; simp; done) | apply Blk.alloc | apply Blk.drew | apply Blk.dn)) hg4
        have P4 := Blk.gr (b := w2.heap.size) (vs := [.int .i64 (pa a1 a2 a3 ((2 + 1) % 3)), .int .i64 (pa a1 a2 a3 ((2 + 2) % 3))]) (by repeat (first | assumption | (refine Blk.new ?_; simp; done) | apply Blk.alloc | apply Blk.drew | apply Blk.dn)) hg4
        have Q4 := Blk.gr (b := w3.heap.size) (vs := [.int .i64 (pa b1 b2 b3 ((2 + 1) % 3)), .int .i64 (pa b1 b2 b3 ((2 + 2) % 3))]) (by repeat (first | assumption | (refine Blk.new ?_; simp; done) | apply Blk.alloc | apply Blk.drew | apply Blk.dn)) hg4
        have gg4 : Gr w w4 := by repeat (first | exact Gr.refl _ | assumption | refine Gr.trans ?_ (by assumption) | apply Gr.alloc | apply Gr.drew | apply Gr.dn)
        clear hg4 al3 ac30 ac31 ac32 bl3 bc30 bc31 bc32 cl3 cc30 cc31 cc32 pl3 pc30 pc31 A3 B3 C3 P3 gg3
        obtain ⟨al4, ac40, ac41, ac42⟩ := A4.three
        obtain ⟨bl4, bc40, bc41, bc42⟩ := B4.three
        obtain ⟨cl4, cc40, cc41, cc42⟩ := C4.three
        obtain ⟨pl4, pc40, pc41⟩ := P4.two
        obtain ⟨ql4, qc40, qc41⟩ := Q4.two
        go_wp2_with fail
        go_roundw
        case rel => exact ⟨3, by omega, rfl, A4, B4, C4, gg4⟩
        case measure => simp [intOf]
  · have FE := Lib.hid (ne3_no h)
    clear h
    go_enter Try.func4, Try.ntmps4
    go_wp2_with fail
    refine (cross3_any _ _ _ _ _ _ HA.out HB.out _).mono ?_; rintro e w1 ⟨rfl, hg1⟩
    rw [CE.out, FE.out]; dsimp only
    have A1 := Blk.gr (b := w.heap.size) (vs := [.int .i64 a1, .int .i64 a2, .int .i64 a3]) (by repeat (first | assumption | (refine Blk.new ?_; simp; done) | apply Blk.alloc | apply Blk.drew | apply Blk.dn)) hg1
    have B1 := Blk.gr (b := w.heap.size + 1) (vs := [.int .i64 b1, .int .i64 b2, .int .i64 b3]) (by repeat (first | assumption | (refine Blk.new ?_; simp; done) | apply Blk.alloc | apply Blk.drew | apply Blk.dn)) hg1
    have gg1 : Gr w w1 := by repeat (first | exact Gr.refl _ | assumption | refine Gr.trans ?_ (by assumption) | apply Gr.alloc | apply Gr.drew | apply Gr.dn)
    clear hg1
    obtain ⟨al1, ac10, ac11, ac12⟩ := A1.three
    obtain ⟨bl1, bc10, bc11, bc12⟩ := B1.three
    go_wp2
    have C1 := Blk.new (w := w1.alloc (.cells #[.int .i64 c1, .int .i64 c2, .int .i64 c3] 23)) (b := w1.heap.size + 1) (vs := [.int .i64 c1, .int .i64 c2, .int .i64 c3]) (T := 3) (by simp)
    have A1' := (A1.alloc (o := .cells #[.int .i64 c1, .int .i64 c2, .int .i64 c3] 23)).alloc (o := .cells #[.int .i64 c1, .int .i64 c2, .int .i64 c3] 3)
    have B1' := (B1.alloc (o := .cells #[.int .i64 c1, .int .i64 c2, .int .i64 c3] 23)).alloc (o := .cells #[.int .i64 c1, .int .i64 c2, .int .i64 c3] 3)
    have gg' := (gg1.alloc (.cells #[.int .i64 c1, .int .i64 c2, .int .i64 c3] 23)).alloc (.cells #[.int .i64 c1, .int .i64 c2, .int .i64 c3] 3)
    clear al1 ac10 ac11 ac12 bl1 bc10 bc11 bc12 A1 B1 gg1
    go_loopw [8] (fun i wr => ∃ k : Nat, k ≤ 3 ∧ i = .int .i64 k ∧ Blk wr w.heap.size [.int .i64 a1, .int .i64 a2, .int .i64 a3] ∧ Blk wr (w.heap.size + 1) [.int .i64 b1, .int .i64 b2, .int .i64 b3] ∧ Blk wr (w1.heap.size + 1) [.int .i64 c1, .int .i64 c2, .int .i64 c3] ∧ Gr w wr) (fun i _ => 3 - (intOf i).toNat)
    case atStart => exact ⟨0, by omega, rfl, A1', B1', C1, gg'⟩
    case round =>
      clear A1' B1' C1 gg'
      obtain ⟨k, hk, rfl, A, B, C, hgr⟩ := hrel
      obtain ⟨al, ac0, ac1, ac2⟩ := A.three
      obtain ⟨bl, bc0, bc1, bc2⟩ := B.three
      obtain ⟨cl, cc0, cc1, cc2⟩ := C.three
      have hkk : k = 3 ∨ k = 0 ∨ k = 1 ∨ k = 2 := by omega
      rcases hkk with rfl | rfl | rfl | rfl
      · go_wp2_with fail
        refine (crossed_any _).mono ?_; rintro e w2 ⟨rfl, hg2⟩
        go_wp2_with fail
        go_ret
        exact ⟨rfl, hgr.trans hg2⟩
      · go_wp2_with fail
        refine (drop_ok _ _ _ 0 (by omega) _).mono ?_; rintro e w2 ⟨rfl, hg2⟩
        have A2 := Blk.gr (b := w.heap.size) (vs := [.int .i64 a1, .int .i64 a2, .int .i64 a3]) (by repeat (first | assumption | (refine Blk.new ?_; simp; done) | apply Blk.alloc | apply Blk.drew | apply Blk.dn)) hg2
        have B2 := Blk.gr (b := w.heap.size + 1) (vs := [.int .i64 b1, .int .i64 b2, .int .i64 b3]) (by repeat (first | assumption | (refine Blk.new ?_; simp; done) | apply Blk.alloc | apply Blk.drew | apply Blk.dn)) hg2
        have C2 := Blk.gr (b := w1.heap.size + 1) (vs := [.int .i64 c1, .int .i64 c2, .int .i64 c3]) (by repeat (first | assumption | (refine Blk.new ?_; simp; done) | apply Blk.alloc | apply Blk.drew | apply Blk.dn)) hg2
        have gg2 : Gr w w2 := by repeat (first | exact Gr.refl _ | assumption | refine Gr.trans ?_ (by assumption) | apply Gr.alloc | apply Gr.drew | apply Gr.dn)
        clear hg2 al ac0 ac1 ac2 bl bc0 bc1 bc2 cl cc0 cc1 cc2
        obtain ⟨al2, ac20, ac21, ac22⟩ := A2.three
        obtain ⟨bl2, bc20, bc21, bc22⟩ := B2.three
        obtain ⟨cl2, cc20, cc21, cc22⟩ := C2.three
        go_wp2_with fail
        refine (drop_ok _ _ _ 0 (by omega) _).mono ?_; rintro e w3 ⟨rfl, hg3⟩
        have A3 := Blk.gr (b := w.heap.size) (vs := [.int .i64 a1, .int .i64 a2, .int .i64 a3]) (by repeat (first | assumption | (refine Blk.new ?_; simp; done) | apply Blk.alloc | apply Blk.drew | apply Blk.dn)) hg3
        have B3 := Blk.gr (b := w.heap.size + 1) (vs := [.int .i64 b1, .int .i64 b2, .int .i64 b3]) (by repeat (first | assumption | (refine Blk.new ?_; simp; done) | apply Blk.alloc | apply Blk.drew | apply Blk.dn)) hg3
        have C3 := Blk.gr (b := w1.heap.size + 1) (vs := [.int .i64 c1, .int .i64 c2, .int .i64 c3]) (by repeat (first | assumption | (refine Blk.new ?_; simp; done) | apply Blk.alloc | apply Blk.drew | apply Blk.dn)) hg3
        have P3 := Blk.gr (b := w2.heap.size) (vs := [.int .i64 (pa a1 a2 a3 ((0 + 1) % 3)), .int .i64 (pa a1 a2 a3 ((0 + 2) % 3))]) (by repeat (first | assumption | (refine Blk.new ?_; simp; done) | apply Blk.alloc | apply Blk.drew | apply Blk.dn)) hg3
        have gg3 : Gr w w3 := by repeat (first | exact Gr.refl _ | assumption | refine Gr.trans ?_ (by assumption) | apply Gr.alloc | apply Gr.drew | apply Gr.dn)
        clear hg3 al2 ac20 ac21 ac22 bl2 bc20 bc21 bc22 cl2 cc20 cc21 cc22 A2 B2 C2 gg2
        obtain ⟨al3, ac30, ac31, ac32⟩ := A3.three
        obtain ⟨bl3, bc30, bc31, bc32⟩ := B3.three
        obtain ⟨cl3, cc30, cc31, cc32⟩ := C3.three
        obtain ⟨pl3, pc30, pc31⟩ := P3.two
        go_wp2_with fail
        refine (cross2_any _ _ _ _ ⟨pa_I HA.out _, pa_I HA.out _⟩ ⟨pa_I HB.out _, pa_I HB.out _⟩ _).mono ?_; rintro e w4 ⟨rfl, hg4⟩
        have A4 := Blk.gr (b := w.heap.size) (vs := [.int .i64 a1, .int .i64 a2, .int .i64 a3]) (by repeat (first | assumption | (refine Blk.new ?_; simp; done) | apply Blk.alloc | apply Blk.drew | apply Blk.dn)) hg4
        have B4 := Blk.gr (b := w.heap.size + 1) (vs := [.int .i64 b1, .int .i64 b2, .int .i64 b3]) (by repeat (first | assumption | (refine Blk.new ?_; simp; done) | apply Blk.alloc | apply Blk.drew | apply Blk.dn)) hg4
        have C4 := Blk.gr (b := w1.heap.size + 1) (vs := [.int .i64 c1, .int .i64 c2, .int .i64 c3]) (by repeat (first | assumption | (refine Blk.new ?_; simp; done) | apply Blk.alloc | apply Blk.drew | apply Blk.dn)) hg4
        have P4 := Blk.gr (b := w2.heap.size) (vs := [.int .i64 (pa a1 a2 a3 ((0 + 1) % 3)), .int .i64 (pa a1 a2 a3 ((0 + 2) % 3))]) (by repeat (first | assumption | (refine Blk.new ?_; simp; done) | apply Blk.alloc | apply Blk.drew | apply Blk.dn)) hg4
        have Q4 := Blk.gr (b := w3.heap.size) (vs := [.int .i64 (pa b1 b2 b3 ((0 + 1) % 3)), .int .i64 (pa b1 b2 b3 ((0 + 2) % 3))]) (by repeat (first | assumption | (refine Blk.new ?_; simp; done) | apply Blk.alloc | apply Blk.drew | apply Blk.dn)) hg4
        have gg4 : Gr w w4 := by repeat (first | exact Gr.refl _ | assumption | refine Gr.trans ?_ (by assumption) | apply Gr.alloc | apply Gr.drew | apply Gr.dn)
        clear hg4 al3 ac30 ac31 ac32 bl3 bc30 bc31 bc32 cl3 cc30 cc31 cc32 pl3 pc30 pc31 A3 B3 C3 P3 gg3
        obtain ⟨al4, ac40, ac41, ac42⟩ := A4.three
        obtain ⟨bl4, bc40, bc41, bc42⟩ := B4.three
        obtain ⟨cl4, cc40, cc41, cc42⟩ := C4.three
        obtain ⟨pl4, pc40, pc41⟩ := P4.two
        obtain ⟨ql4, qc40, qc41⟩ := Q4.two
        go_wp2_with fail
        go_roundw
        case rel => exact ⟨1, by omega, rfl, A4, B4, C4, gg4⟩
        case measure => simp [intOf]
      · go_wp2_with fail
        refine (drop_ok _ _ _ 1 (by omega) _).mono ?_; rintro e w2 ⟨rfl, hg2⟩
        have A2 := Blk.gr (b := w.heap.size) (vs := [.int .i64 a1, .int .i64 a2, .int .i64 a3]) (by repeat (first | assumption | (refine Blk.new ?_; simp; done) | apply Blk.alloc | apply Blk.drew | apply Blk.dn)) hg2
        have B2 := Blk.gr (b := w.heap.size + 1) (vs := [.int .i64 b1, .int .i64 b2, .int .i64 b3]) (by repeat (first | assumption | (refine Blk.new ?_; simp; done) | apply Blk.alloc | apply Blk.drew | apply Blk.dn)) hg2
        have C2 := Blk.gr (b := w1.heap.size + 1) (vs := [.int .i64 c1, .int .i64 c2, .int .i64 c3]) (by repeat (first | assumption | (refine Blk.new ?_; simp; done) | apply Blk.alloc | apply Blk.drew | apply Blk.dn)) hg2
        have gg2 : Gr w w2 := by repeat (first | exact Gr.refl _ | assumption | refine Gr.trans ?_ (by assumption) | apply Gr.alloc | apply Gr.drew | apply Gr.dn)
        clear hg2 al ac0 ac1 ac2 bl bc0 bc1 bc2 cl cc0 cc1 cc2
        obtain ⟨al2, ac20, ac21, ac22⟩ := A2.three
        obtain ⟨bl2, bc20, bc21, bc22⟩ := B2.three
        obtain ⟨cl2, cc20, cc21, cc22⟩ := C2.three
        go_wp2_with fail
        refine (drop_ok _ _ _ 1 (by omega) _).mono ?_; rintro e w3 ⟨rfl, hg3⟩
        have A3 := Blk.gr (b := w.heap.size) (vs := [.int .i64 a1, .int .i64 a2, .int .i64 a3]) (by repeat (first | assumption | (refine Blk.new ?_; simp; done) | apply Blk.alloc | apply Blk.drew | apply Blk.dn)) hg3
        have B3 := Blk.gr (b := w.heap.size + 1) (vs := [.int .i64 b1, .int .i64 b2, .int .i64 b3]) (by repeat (first | assumption | (refine Blk.new ?_; simp; done) | apply Blk.alloc | apply Blk.drew | apply Blk.dn)) hg3
        have C3 := Blk.gr (b := w1.heap.size + 1) (vs := [.int .i64 c1, .int .i64 c2, .int .i64 c3]) (by repeat (first | assumption | (refine Blk.new ?_; simp; done) | apply Blk.alloc | apply Blk.drew | apply Blk.dn)) hg3
        have P3 := Blk.gr (b := w2.heap.size) (vs := [.int .i64 (pa a1 a2 a3 ((1 + 1) % 3)), .int .i64 (pa a1 a2 a3 ((1 + 2) % 3))]) (by repeat (first | assumption | (refine Blk.new ?_; simp; done) | apply Blk.alloc | apply Blk.drew | apply Blk.dn)) hg3
        have gg3 : Gr w w3 := by repeat (first | exact Gr.refl _ | assumption | refine Gr.trans ?_ (by assumption) | apply Gr.alloc | apply Gr.drew | apply Gr.dn)
        clear hg3 al2 ac20 ac21 ac22 bl2 bc20 bc21 bc22 cl2 cc20 cc21 cc22 A2 B2 C2 gg2
        obtain ⟨al3, ac30, ac31, ac32⟩ := A3.three
        obtain ⟨bl3, bc30, bc31, bc32⟩ := B3.three
        obtain ⟨cl3, cc30, cc31, cc32⟩ := C3.three
        obtain ⟨pl3, pc30, pc31⟩ := P3.two
        go_wp2_with fail
        refine (cross2_any _ _ _ _ ⟨pa_I HA.out _, pa_I HA.out _⟩ ⟨pa_I HB.out _, pa_I HB.out _⟩ _).mono ?_; rintro e w4 ⟨rfl, hg4⟩
        have A4 := Blk.gr (b := w.heap.size) (vs := [.int .i64 a1, .int .i64 a2, .int .i64 a3]) (by repeat (first | assumption | (refine Blk.new ?_; simp; done) | apply Blk.alloc | apply Blk.drew | apply Blk.dn)) hg4
        have B4 := Blk.gr (b := w.heap.size + 1) (vs := [.int .i64 b1, .int .i64 b2, .int .i64 b3]) (by repeat (first | assumption | (refine Blk.new ?_; simp; done) | apply Blk.alloc | apply Blk.drew | apply Blk.dn)) hg4
        have C4 := Blk.gr (b := w1.heap.size + 1) (vs := [.int .i64 c1, .int .i64 c2, .int .i64 c3]) (by repeat (first | assumption | (refine Blk.new ?_; simp; done) | apply Blk.alloc | apply Blk.drew | apply Blk.dn)) hg4
        have P4 := Blk.gr (b := w2.heap.size) (vs := [.int .i64 (pa a1 a2 a3 ((1 + 1) % 3)), .int .i64 (pa a1 a2 a3 ((1 + 2) % 3))]) (by repeat (first | assumption | (refine Blk.new ?_; simp; done) | apply Blk.alloc | apply Blk.drew | apply Blk.dn)) hg4
        have Q4 := Blk.gr (b := w3.heap.size) (vs := [.int .i64 (pa b1 b2 b3 ((1 + 1) % 3)), .int .i64 (pa b1 b2 b3 ((1 + 2) % 3))]) (by repeat (first | assumption | (refine Blk.new ?_; simp; done) | apply Blk.alloc | apply Blk.drew | apply Blk.dn)) hg4
        have gg4 : Gr w w4 := by repeat (first | exact Gr.refl _ | assumption | refine Gr.trans ?_ (by assumption) | apply Gr.alloc | apply Gr.drew | apply Gr.dn)
        clear hg4 al3 ac30 ac31 ac32 bl3 bc30 bc31 bc32 cl3 cc30 cc31 cc32 pl3 pc30 pc31 A3 B3 C3 P3 gg3
        obtain ⟨al4, ac40, ac41, ac42⟩ := A4.three
        obtain ⟨bl4, bc40, bc41, bc42⟩ := B4.three
        obtain ⟨cl4, cc40, cc41, cc42⟩ := C4.three
        obtain ⟨pl4, pc40, pc41⟩ := P4.two
        obtain ⟨ql4, qc40, qc41⟩ := Q4.two
        go_wp2_with fail
        go_roundw
        case rel => exact ⟨2, by omega, rfl, A4, B4, C4, gg4⟩
        case measure => simp [intOf]
      · go_wp2_with fail
        refine (drop_ok _ _ _ 2 (by omega) _).mono ?_; rintro e w2 ⟨rfl, hg2⟩
        have A2 := Blk.gr (b := w.heap.size) (vs := [.int .i64 a1, .int .i64 a2, .int .i64 a3]) (by repeat (first | assumption | (refine Blk.new ?_; simp; done) | apply Blk.alloc | apply Blk.drew | apply Blk.dn)) hg2
        have B2 := Blk.gr (b := w.heap.size + 1) (vs := [.int .i64 b1, .int .i64 b2, .int .i64 b3]) (by repeat (first | assumption | (refine Blk.new ?_; simp; done) | apply Blk.alloc | apply Blk.drew | apply Blk.dn)) hg2
        have C2 := Blk.gr (b := w1.heap.size + 1) (vs := [.int .i64 c1, .int .i64 c2, .int .i64 c3]) (by repeat (first | assumption | (refine Blk.new ?_; simp; done) | apply Blk.alloc | apply Blk.drew | apply Blk.dn)) hg2
        have gg2 : Gr w w2 := by repeat (first | exact Gr.refl _ | assumption | refine Gr.trans ?_ (by assumption) | apply Gr.alloc | apply Gr.drew | apply Gr.dn)
        clear hg2 al ac0 ac1 ac2 bl bc0 bc1 bc2 cl cc0 cc1 cc2
        obtain ⟨al2, ac20, ac21, ac22⟩ := A2.three
        obtain ⟨bl2, bc20, bc21, bc22⟩ := B2.three
        obtain ⟨cl2, cc20, cc21, cc22⟩ := C2.three
        go_wp2_with fail
        refine (drop_ok _ _ _ 2 (by omega) _).mono ?_; rintro e w3 ⟨rfl, hg3⟩
        have A3 := Blk.gr (b := w.heap.size) (vs := [.int .i64 a1, .int .i64 a2, .int .i64 a3]) (by repeat (first | assumption | (refine Blk.new ?_; simp; done) | apply Blk.alloc | apply Blk.drew | apply Blk.dn)) hg3
        have B3 := Blk.gr (b := w.heap.size + 1) (vs := [.int .i64 b1, .int .i64 b2, .int .i64 b3]) (by repeat (first | assumption | (refine Blk.new ?_; simp; done) | apply Blk.alloc | apply Blk.drew | apply Blk.dn)) hg3
        have C3 := Blk.gr (b := w1.heap.size + 1) (vs := [.int .i64 c1, .int .i64 c2, .int .i64 c3]) (by repeat (first | assumption | (refine Blk.new ?_; simp; done) | apply Blk.alloc | apply Blk.drew | apply Blk.dn)) hg3
        have P3 := Blk.gr (b := w2.heap.size) (vs := [.int .i64 (pa a1 a2 a3 ((2 + 1) % 3)), .int .i64 (pa a1 a2 a3 ((2 + 2) % 3))]) (by repeat (first | assumption | (refine Blk.new ?_; simp; done) | apply Blk.alloc | apply Blk.drew | apply Blk.dn)) hg3
        have gg3 : Gr w w3 := by repeat (first | exact Gr.refl _ | assumption | refine Gr.trans ?_ (by assumption) | apply Gr.alloc | apply Gr.drew | apply Gr.dn)
        clear hg3 al2 ac20 ac21 ac22 bl2 bc20 bc21 bc22 cl2 cc20 cc21 cc22 A2 B2 C2 gg2
        obtain ⟨al3, ac30, ac31, ac32⟩ := A3.three
        obtain ⟨bl3, bc30, bc31, bc32⟩ := B3.three
        obtain ⟨cl3, cc30, cc31, cc32⟩ := C3.three
        obtain ⟨pl3, pc30, pc31⟩ := P3.two
        go_wp2_with fail
        refine (cross2_any _ _ _ _ ⟨pa_I HA.out _, pa_I HA.out _⟩ ⟨pa_I HB.out _, pa_I HB.out _⟩ _).mono ?_; rintro e w4 ⟨rfl, hg4⟩
        have A4 := Blk.gr (b := w.heap.size) (vs := [.int .i64 a1, .int .i64 a2, .int .i64 a3]) (by repeat (first | assumption | (refine Blk.new ?_; simp; done) | apply Blk.alloc | apply Blk.drew | apply Blk.dn)) hg4
        have B4 := Blk.gr (b := w.heap.size + 1) (vs := [.int .i64 b1, .int .i64 b2, .int .i64 b3]) (by repeat (first | assumption | (refine Blk.new ?_; simp; done) | apply Blk.alloc | apply Blk.drew | apply Blk.dn)) hg4
        have C4 := Blk.gr (b := w1.heap.size + 1) (vs := [.int .i64 c1, .int .i64 c2, .int .i64 c3]) (by repeat (first | assumption | (refine Blk.new ?_; simp; done) | apply Blk.alloc | apply Blk.drew | apply Blk.dn)) hg4
        have P4 := Blk.gr (b := w2.heap.size) (vs := [.int .i64 (pa a1 a2 a3 ((2 + 1) % 3)), .int .i64 (pa a1 a2 a3 ((2 + 2) % 3))]) (by repeat (first | assumption | (refine Blk.new ?_; simp; done) | apply Blk.alloc | apply Blk.drew | apply Blk.dn)) hg4
        have Q4 := Blk.gr (b := w3.heap.size) (vs := [.int .i64 (pa b1 b2 b3 ((2 + 1) % 3)), .int .i64 (pa b1 b2 b3 ((2 + 2) % 3))]) (by repeat (first | assumption | (refine Blk.new ?_; simp; done) | apply Blk.alloc | apply Blk.drew | apply Blk.dn)) hg4
        have gg4 : Gr w w4 := by repeat (first | exact Gr.refl _ | assumption | refine Gr.trans ?_ (by assumption) | apply Gr.alloc | apply Gr.drew | apply Gr.dn)
        clear hg4 al3 ac30 ac31 ac32 bl3 bc30 bc31 bc32 cl3 cc30 cc31 cc32 pl3 pc30 pc31 A3 B3 C3 P3 gg3
        obtain ⟨al4, ac40, ac41, ac42⟩ := A4.three
        obtain ⟨bl4, bc40, bc41, bc42⟩ := B4.three
        obtain ⟨cl4, cc40, cc41, cc42⟩ := C4.three
        obtain ⟨pl4, pc40, pc41⟩ := P4.two
        obtain ⟨ql4, qc40, qc41⟩ := Q4.two
        go_wp2_with fail
        go_roundw
        case rel => exact ⟨3, by omega, rfl, A4, B4, C4, gg4⟩
        case measure => simp [intOf]

end Go.Proofs.Ytjnnonhapjdjoaa
