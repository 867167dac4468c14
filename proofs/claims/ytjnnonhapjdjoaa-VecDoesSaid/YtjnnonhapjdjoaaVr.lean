/- The contracts of the reference of chapter 4 (limewashref04). -/
import Derived.Test.YtjnnonhapjdjoaaVp
import Derived.Test.YtjnnonhapjdjoaaVo
set_option linter.unusedVariables false
namespace Go.Proofs.Ytjnnonhapjdjoaa
open Go.RowKit
namespace Vc

theorem rnear_any (n : Int) (w : World) :
    Calls Try.prog 56 #[.int .i64 n] w fun e w' => e = .returned (.bool (nr n)) ∧ w = w' := by
  by_cases h1 : -1048576 ≤ n
  · by_cases h2 : n ≤ 1048576
    · have e : nr n = true := nr_iff.2 ⟨h1, h2⟩
      rw [e]
      go_enter Try.func56, Try.ntmps56
      go_wp2
      go_ret
      exact ⟨rfl, rfl⟩
    · have e : nr n = false := by rw [Bool.eq_false_iff]; intro h; exact h2 (nr_iff.1 h).2
      rw [e]
      go_enter Try.func56, Try.ntmps56
      go_wp2
      go_ret
      exact ⟨rfl, rfl⟩
  · have e : nr n = false := by rw [Bool.eq_false_iff]; intro h; exact h1 (nr_iff.1 h).1
    rw [e]
    go_enter Try.func56, Try.ntmps56
    go_wp2
    go_ret
    exact ⟨rfl, rfl⟩

theorem ris3_any (x y z : Int) (w : World) :
    Calls Try.prog 33 #[.agg #[.int .i64 x, .int .i64 y, .int .i64 z]] w fun e w' => e = .returned (.bool (nr3 ⟨x, y, z⟩)) ∧ w.alloc (.cells #[.int .i64 x, .int .i64 y, .int .i64 z] 23) = w' := by
  by_cases h0 : nr x = true
  · have H0 := Lib.hid h0
    by_cases h1 : nr y = true
    · have H1 := Lib.hid h1
      by_cases h2 : nr z = true
      · have H2 := Lib.hid h2
        have e : nr3 ⟨x, y, z⟩ = true := by unfold nr3; simp [h0, h1, h2]
        rw [e]; clear e h0 h1 h2
        go_enter Try.func33, Try.ntmps33
        go_wp2_with (go_at_call 56; refine (rnear_any _ _).mono ?_; rintro e w' ⟨rfl, rfl⟩; first | rw [H0.out] | rw [H1.out] | rw [H2.out])
        go_ret
        exact ⟨rfl, rfl⟩
      · rw [Bool.not_eq_true] at h2
        have H2 := Lib.hid h2
        have e : nr3 ⟨x, y, z⟩ = false := by unfold nr3; simp [h2]
        rw [e]; clear e h0 h1 h2
        go_enter Try.func33, Try.ntmps33
        go_wp2_with (go_at_call 56; refine (rnear_any _ _).mono ?_; rintro e w' ⟨rfl, rfl⟩; first | rw [H0.out] | rw [H1.out] | rw [H2.out])
        go_ret
        exact ⟨rfl, rfl⟩
    · rw [Bool.not_eq_true] at h1
      have H1 := Lib.hid h1
      have e : nr3 ⟨x, y, z⟩ = false := by unfold nr3; simp [h1]
      rw [e]; clear e h0 h1
      go_enter Try.func33, Try.ntmps33
      go_wp2_with (go_at_call 56; refine (rnear_any _ _).mono ?_; rintro e w' ⟨rfl, rfl⟩; first | rw [H0.out] | rw [H1.out])
      go_ret
      exact ⟨rfl, rfl⟩
  · rw [Bool.not_eq_true] at h0
    have H0 := Lib.hid h0
    have e : nr3 ⟨x, y, z⟩ = false := by unfold nr3; simp [h0]
    rw [e]; clear e h0
    go_enter Try.func33, Try.ntmps33
    go_wp2_with (go_at_call 56; refine (rnear_any _ _).mono ?_; rintro e w' ⟨rfl, rfl⟩; first | rw [H0.out])
    go_ret
    exact ⟨rfl, rfl⟩

theorem ris2_any (x y : Int) (w : World) :
    Calls Try.prog 32 #[.agg #[.int .i64 x, .int .i64 y]] w fun e w' => e = .returned (.bool (nr2 ⟨x, y⟩)) ∧ w.alloc (.cells #[.int .i64 x, .int .i64 y] 32) = w' := by
  by_cases h0 : nr x = true
  · have H0 := Lib.hid h0
    by_cases h1 : nr y = true
    · have H1 := Lib.hid h1
      have e : nr2 ⟨x, y⟩ = true := by unfold nr2; simp [h0, h1]
      rw [e]; clear e h0 h1
      go_enter Try.func32, Try.ntmps32
      go_wp2_with (go_at_call 56; refine (rnear_any _ _).mono ?_; rintro e w' ⟨rfl, rfl⟩; first | rw [H0.out] | rw [H1.out])
      go_ret
      exact ⟨rfl, rfl⟩
    · rw [Bool.not_eq_true] at h1
      have H1 := Lib.hid h1
      have e : nr2 ⟨x, y⟩ = false := by unfold nr2; simp [h1]
      rw [e]; clear e h0 h1
      go_enter Try.func32, Try.ntmps32
      go_wp2_with (go_at_call 56; refine (rnear_any _ _).mono ?_; rintro e w' ⟨rfl, rfl⟩; first | rw [H0.out] | rw [H1.out])
      go_ret
      exact ⟨rfl, rfl⟩
  · rw [Bool.not_eq_true] at h0
    have H0 := Lib.hid h0
    have e : nr2 ⟨x, y⟩ = false := by unfold nr2; simp [h0]
    rw [e]; clear e h0
    go_enter Try.func32, Try.ntmps32
    go_wp2_with (go_at_call 56; refine (rnear_any _ _).mono ?_; rintro e w' ⟨rfl, rfl⟩; first | rw [H0.out])
    go_ret
    exact ⟨rfl, rfl⟩

theorem rdot_any (a1 a2 a3 b1 b2 b3 : Int) (w : World) :
    Calls Try.prog 22 #[.agg #[.int .i64 a1, .int .i64 a2, .int .i64 a3], .agg #[.int .i64 b1, .int .i64 b2, .int .i64 b3]] w fun e w' => e = .returned (.tuple #[.int .i64 (dt ⟨a1, a2, a3⟩ ⟨b1, b2, b3⟩), .int .i64 (ne3 ⟨a1, a2, a3⟩ ⟨b1, b2, b3⟩)]) ∧ Gr w w' := by
  by_cases ha : nr3 ⟨a1, a2, a3⟩ = true
  · have HA := Lib.hid ha
    by_cases hb : nr3 ⟨b1, b2, b3⟩ = true
    · have HB := Lib.hid hb
      have h : nn ⟨a1, a2, a3⟩ ⟨b1, b2, b3⟩ = true := by unfold nn; rw [ha, hb]; rfl
      rw [show dt ⟨a1, a2, a3⟩ ⟨b1, b2, b3⟩ = a1 * b1 + a2 * b2 + a3 * b3 from by unfold dt; rw [if_pos h]]
      rw [ne3_yes h]
      obtain ⟨⟨⟨x1, x2⟩, ⟨y1, y2⟩, ⟨z1, z2⟩⟩, ⟨⟨u1, u2⟩, ⟨v1, v2⟩, ⟨t1, t2⟩⟩⟩ := nn_iff.1 h
      obtain ⟨m0a, m0b⟩ := mul_bd (x := a1) (y := b1) (M := 1048576) (N := 1048576) 1099511627776 (by decide) ⟨x1, x2⟩ ⟨u1, u2⟩
      obtain ⟨m1a, m1b⟩ := mul_bd (x := a2) (y := b2) (M := 1048576) (N := 1048576) 1099511627776 (by decide) ⟨y1, y2⟩ ⟨v1, v2⟩
      obtain ⟨m2a, m2b⟩ := mul_bd (x := a3) (y := b3) (M := 1048576) (N := 1048576) 1099511627776 (by decide) ⟨z1, z2⟩ ⟨t1, t2⟩
      clear h ha hb
      go_enter Try.func22, Try.ntmps22
      go_wp2_with (go_at_call 33; refine (ris3_any _ _ _ _).mono ?_; rintro e w' ⟨rfl, rfl⟩; first | rw [HA.out] | rw [HB.out])
      refine bodyPost_ret (v := .tuple #[.int .i64 (a1 * b1 + a2 * b2 + a3 * b3), .int .i64 0]) (by simp [results, Try.results22, go_sem]) rfl ⟨rfl, ?_⟩
      repeat (first | exact Gr.refl _ | apply Gr.alloc | apply Gr.drew | apply Gr.dn | (refine Gr.setCell ?_ (by simp) _) | (refine Gr.setCell ?_ (by simp; omega) _))
    · have h : ¬ nn ⟨a1, a2, a3⟩ ⟨b1, b2, b3⟩ = true := by unfold nn; rw [ha]; simpa using hb
      rw [show dt ⟨a1, a2, a3⟩ ⟨b1, b2, b3⟩ = 0 from by unfold dt; rw [if_neg h]]
      rw [ne3_no h]
      rw [Bool.not_eq_true] at hb
      have HB := Lib.hid hb
      clear h ha hb
      go_enter Try.func22, Try.ntmps22
      go_wp2_with (go_at_call 33; refine (ris3_any _ _ _ _).mono ?_; rintro e w' ⟨rfl, rfl⟩; first | rw [HA.out] | rw [HB.out])
      refine bodyPost_ret (v := .tuple #[.int .i64 0, .int .i64 5]) (by simp [results, Try.results22, go_sem]) rfl ⟨rfl, ?_⟩
      repeat (first | exact Gr.refl _ | apply Gr.alloc | apply Gr.drew | apply Gr.dn | (refine Gr.setCell ?_ (by simp) _) | (refine Gr.setCell ?_ (by simp; omega) _))
  · have h : ¬ nn ⟨a1, a2, a3⟩ ⟨b1, b2, b3⟩ = true := by unfold nn; rw [Bool.not_eq_true] at ha; rw [ha]; simp
    rw [show dt ⟨a1, a2, a3⟩ ⟨b1, b2, b3⟩ = 0 from by unfold dt; rw [if_neg h]]
    rw [ne3_no h]
    rw [Bool.not_eq_true] at ha
    have HA := Lib.hid ha
    clear h ha
    go_enter Try.func22, Try.ntmps22
    go_wp2_with (go_at_call 33; refine (ris3_any _ _ _ _).mono ?_; rintro e w' ⟨rfl, rfl⟩; first | rw [HA.out])
    refine bodyPost_ret (v := .tuple #[.int .i64 0, .int .i64 5]) (by simp [results, Try.results22, go_sem]) rfl ⟨rfl, ?_⟩
    repeat (first | exact Gr.refl _ | apply Gr.alloc | apply Gr.drew | apply Gr.dn | (refine Gr.setCell ?_ (by simp) _) | (refine Gr.setCell ?_ (by simp; omega) _))

theorem rcross3_any (a1 a2 a3 b1 b2 b3 : Int) (w : World) :
    Calls Try.prog 24 #[.agg #[.int .i64 a1, .int .i64 a2, .int .i64 a3], .agg #[.int .i64 b1, .int .i64 b2, .int .i64 b3]] w fun e w' => e = .returned (.tuple #[.agg #[.int .i64 (cr ⟨a1, a2, a3⟩ ⟨b1, b2, b3⟩).x, .int .i64 (cr ⟨a1, a2, a3⟩ ⟨b1, b2, b3⟩).y, .int .i64 (cr ⟨a1, a2, a3⟩ ⟨b1, b2, b3⟩).z], .int .i64 (ne3 ⟨a1, a2, a3⟩ ⟨b1, b2, b3⟩)]) ∧ Gr w w' := by
  by_cases ha : nr3 ⟨a1, a2, a3⟩ = true
  · have HA := Lib.hid ha
    by_cases hb : nr3 ⟨b1, b2, b3⟩ = true
    · have HB := Lib.hid hb
      have h : nn ⟨a1, a2, a3⟩ ⟨b1, b2, b3⟩ = true := by unfold nn; rw [ha, hb]; rfl
      rw [show cr ⟨a1, a2, a3⟩ ⟨b1, b2, b3⟩ = ⟨a2 * b3 - a3 * b2, a3 * b1 - a1 * b3, a1 * b2 - a2 * b1⟩ from by unfold cr; rw [if_pos h]]
      rw [ne3_yes h]
      obtain ⟨⟨⟨x1, x2⟩, ⟨y1, y2⟩, ⟨z1, z2⟩⟩, ⟨⟨u1, u2⟩, ⟨v1, v2⟩, ⟨t1, t2⟩⟩⟩ := nn_iff.1 h
      obtain ⟨m0a, m0b⟩ := mul_bd (x := a2) (y := b3) (M := 1048576) (N := 1048576) 1099511627776 (by decide) ⟨y1, y2⟩ ⟨t1, t2⟩
      obtain ⟨m1a, m1b⟩ := mul_bd (x := a3) (y := b2) (M := 1048576) (N := 1048576) 1099511627776 (by decide) ⟨z1, z2⟩ ⟨v1, v2⟩
      obtain ⟨m2a, m2b⟩ := mul_bd (x := a3) (y := b1) (M := 1048576) (N := 1048576) 1099511627776 (by decide) ⟨z1, z2⟩ ⟨u1, u2⟩
      obtain ⟨m3a, m3b⟩ := mul_bd (x := a1) (y := b3) (M := 1048576) (N := 1048576) 1099511627776 (by decide) ⟨x1, x2⟩ ⟨t1, t2⟩
      obtain ⟨m4a, m4b⟩ := mul_bd (x := a1) (y := b2) (M := 1048576) (N := 1048576) 1099511627776 (by decide) ⟨x1, x2⟩ ⟨v1, v2⟩
      obtain ⟨m5a, m5b⟩ := mul_bd (x := a2) (y := b1) (M := 1048576) (N := 1048576) 1099511627776 (by decide) ⟨y1, y2⟩ ⟨u1, u2⟩
      clear h ha hb
      go_enter Try.func24, Try.ntmps24
      go_wp2_with (go_at_call 33; refine (ris3_any _ _ _ _).mono ?_; rintro e w' ⟨rfl, rfl⟩; first | rw [HA.out] | rw [HB.out])
      refine bodyPost_ret (v := .tuple #[.agg #[.int .i64 (a2 * b3 - a3 * b2), .int .i64 (a3 * b1 - a1 * b3), .int .i64 (a1 * b2 - a2 * b1)], .int .i64 0]) (by simp [results, Try.results24, go_sem]) rfl ⟨rfl, ?_⟩
      repeat (first | exact Gr.refl _ | apply Gr.alloc | apply Gr.drew | apply Gr.dn | (refine Gr.setCell ?_ (by simp) _) | (refine Gr.setCell ?_ (by simp; omega) _))
    · have h : ¬ nn ⟨a1, a2, a3⟩ ⟨b1, b2, b3⟩ = true := by unfold nn; rw [ha]; simpa using hb
      rw [show cr ⟨a1, a2, a3⟩ ⟨b1, b2, b3⟩ = ⟨0, 0, 0⟩ from by unfold cr; rw [if_neg h]]
      rw [ne3_no h]
      rw [Bool.not_eq_true] at hb
      have HB := Lib.hid hb
      clear h ha hb
      go_enter Try.func24, Try.ntmps24
      go_wp2_with (go_at_call 33; refine (ris3_any _ _ _ _).mono ?_; rintro e w' ⟨rfl, rfl⟩; first | rw [HA.out] | rw [HB.out])
      refine bodyPost_ret (v := .tuple #[.agg #[.int .i64 0, .int .i64 0, .int .i64 0], .int .i64 5]) (by simp [results, Try.results24, go_sem]) rfl ⟨rfl, ?_⟩
      repeat (first | exact Gr.refl _ | apply Gr.alloc | apply Gr.drew | apply Gr.dn | (refine Gr.setCell ?_ (by simp) _) | (refine Gr.setCell ?_ (by simp; omega) _))
  · have h : ¬ nn ⟨a1, a2, a3⟩ ⟨b1, b2, b3⟩ = true := by unfold nn; rw [Bool.not_eq_true] at ha; rw [ha]; simp
    rw [show cr ⟨a1, a2, a3⟩ ⟨b1, b2, b3⟩ = ⟨0, 0, 0⟩ from by unfold cr; rw [if_neg h]]
    rw [ne3_no h]
    rw [Bool.not_eq_true] at ha
    have HA := Lib.hid ha
    clear h ha
    go_enter Try.func24, Try.ntmps24
    go_wp2_with (go_at_call 33; refine (ris3_any _ _ _ _).mono ?_; rintro e w' ⟨rfl, rfl⟩; first | rw [HA.out])
    refine bodyPost_ret (v := .tuple #[.agg #[.int .i64 0, .int .i64 0, .int .i64 0], .int .i64 5]) (by simp [results, Try.results24, go_sem]) rfl ⟨rfl, ?_⟩
    repeat (first | exact Gr.refl _ | apply Gr.alloc | apply Gr.drew | apply Gr.dn | (refine Gr.setCell ?_ (by simp) _) | (refine Gr.setCell ?_ (by simp; omega) _))

theorem rsub3_any (a1 a2 a3 b1 b2 b3 : Int) (w : World) :
    Calls Try.prog 28 #[.agg #[.int .i64 a1, .int .i64 a2, .int .i64 a3], .agg #[.int .i64 b1, .int .i64 b2, .int .i64 b3]] w fun e w' => e = .returned (.agg #[.int .i64 (sb ⟨a1, a2, a3⟩ ⟨b1, b2, b3⟩).x, .int .i64 (sb ⟨a1, a2, a3⟩ ⟨b1, b2, b3⟩).y, .int .i64 (sb ⟨a1, a2, a3⟩ ⟨b1, b2, b3⟩).z]) ∧ Gr w w' := by
  by_cases ha : nr3 ⟨a1, a2, a3⟩ = true
  · have HA := Lib.hid ha
    by_cases hb : nr3 ⟨b1, b2, b3⟩ = true
    · have HB := Lib.hid hb
      have h : nn ⟨a1, a2, a3⟩ ⟨b1, b2, b3⟩ = true := by unfold nn; rw [ha, hb]; rfl
      rw [show sb ⟨a1, a2, a3⟩ ⟨b1, b2, b3⟩ = ⟨a1 - b1, a2 - b2, a3 - b3⟩ from by unfold sb; rw [if_pos h]]
      obtain ⟨⟨⟨x1, x2⟩, ⟨y1, y2⟩, ⟨z1, z2⟩⟩, ⟨⟨u1, u2⟩, ⟨v1, v2⟩, ⟨t1, t2⟩⟩⟩ := nn_iff.1 h
      clear h ha hb
      go_enter Try.func28, Try.ntmps28
      go_wp2_with (go_at_call 33; refine (ris3_any _ _ _ _).mono ?_; rintro e w' ⟨rfl, rfl⟩; first | rw [HA.out] | rw [HB.out])
      refine bodyPost_ret (v := .agg #[.int .i64 (a1 - b1), .int .i64 (a2 - b2), .int .i64 (a3 - b3)]) (by simp [results, Try.results28, go_sem]) rfl ⟨rfl, ?_⟩
      repeat (first | exact Gr.refl _ | apply Gr.alloc | apply Gr.drew | apply Gr.dn | (refine Gr.setCell ?_ (by simp) _) | (refine Gr.setCell ?_ (by simp; omega) _))
    · have h : ¬ nn ⟨a1, a2, a3⟩ ⟨b1, b2, b3⟩ = true := by unfold nn; rw [ha]; simpa using hb
      rw [show sb ⟨a1, a2, a3⟩ ⟨b1, b2, b3⟩ = ⟨0, 0, 0⟩ from by unfold sb; rw [if_neg h]]
      rw [Bool.not_eq_true] at hb
      have HB := Lib.hid hb
      clear h ha hb
      go_enter Try.func28, Try.ntmps28
      go_wp2_with (go_at_call 33; refine (ris3_any _ _ _ _).mono ?_; rintro e w' ⟨rfl, rfl⟩; first | rw [HA.out] | rw [HB.out])
      refine bodyPost_ret (v := .agg #[.int .i64 0, .int .i64 0, .int .i64 0]) (by simp [results, Try.results28, go_sem]) rfl ⟨rfl, ?_⟩
      repeat (first | exact Gr.refl _ | apply Gr.alloc | apply Gr.drew | apply Gr.dn | (refine Gr.setCell ?_ (by simp) _) | (refine Gr.setCell ?_ (by simp; omega) _))
  · have h : ¬ nn ⟨a1, a2, a3⟩ ⟨b1, b2, b3⟩ = true := by unfold nn; rw [Bool.not_eq_true] at ha; rw [ha]; simp
    rw [show sb ⟨a1, a2, a3⟩ ⟨b1, b2, b3⟩ = ⟨0, 0, 0⟩ from by unfold sb; rw [if_neg h]]
    rw [Bool.not_eq_true] at ha
    have HA := Lib.hid ha
    clear h ha
    go_enter Try.func28, Try.ntmps28
    go_wp2_with (go_at_call 33; refine (ris3_any _ _ _ _).mono ?_; rintro e w' ⟨rfl, rfl⟩; first | rw [HA.out])
    refine bodyPost_ret (v := .agg #[.int .i64 0, .int .i64 0, .int .i64 0]) (by simp [results, Try.results28, go_sem]) rfl ⟨rfl, ?_⟩
    repeat (first | exact Gr.refl _ | apply Gr.alloc | apply Gr.drew | apply Gr.dn | (refine Gr.setCell ?_ (by simp) _) | (refine Gr.setCell ?_ (by simp; omega) _))

theorem rsub2_any (a1 a2 b1 b2 : Int) (w : World) :
    Calls Try.prog 27 #[.agg #[.int .i64 a1, .int .i64 a2], .agg #[.int .i64 b1, .int .i64 b2]] w fun e w' => e = .returned (.agg #[.int .i64 (sb2 ⟨a1, a2⟩ ⟨b1, b2⟩).x, .int .i64 (sb2 ⟨a1, a2⟩ ⟨b1, b2⟩).y]) ∧ Gr w w' := by
  by_cases ha : nr2 ⟨a1, a2⟩ = true
  · have HA := Lib.hid ha
    by_cases hb : nr2 ⟨b1, b2⟩ = true
    · have HB := Lib.hid hb
      have h : nn2 ⟨a1, a2⟩ ⟨b1, b2⟩ = true := by unfold nn2; rw [ha, hb]; rfl
      rw [show sb2 ⟨a1, a2⟩ ⟨b1, b2⟩ = ⟨a1 - b1, a2 - b2⟩ from by unfold sb2; rw [if_pos h]]
      obtain ⟨⟨x1, x2⟩, ⟨y1, y2⟩⟩ := nr2_iff.1 ha
      obtain ⟨⟨u1, u2⟩, ⟨v1, v2⟩⟩ := nr2_iff.1 hb
      clear h ha hb
      go_enter Try.func27, Try.ntmps27
      go_wp2_with (go_at_call 32; refine (ris2_any _ _ _).mono ?_; rintro e w' ⟨rfl, rfl⟩; first | rw [HA.out] | rw [HB.out])
      refine bodyPost_ret (v := .agg #[.int .i64 (a1 - b1), .int .i64 (a2 - b2)]) (by simp [results, Try.results27, go_sem]) rfl ⟨rfl, ?_⟩
      repeat (first | exact Gr.refl _ | apply Gr.alloc | apply Gr.drew | apply Gr.dn | (refine Gr.setCell ?_ (by simp) _) | (refine Gr.setCell ?_ (by simp; omega) _))
    · have h : ¬ nn2 ⟨a1, a2⟩ ⟨b1, b2⟩ = true := by unfold nn2; rw [ha]; simpa using hb
      rw [show sb2 ⟨a1, a2⟩ ⟨b1, b2⟩ = ⟨0, 0⟩ from by unfold sb2; rw [if_neg h]]
      rw [Bool.not_eq_true] at hb
      have HB := Lib.hid hb
      clear h ha hb
      go_enter Try.func27, Try.ntmps27
      go_wp2_with (go_at_call 32; refine (ris2_any _ _ _).mono ?_; rintro e w' ⟨rfl, rfl⟩; first | rw [HA.out] | rw [HB.out])
      refine bodyPost_ret (v := .agg #[.int .i64 0, .int .i64 0]) (by simp [results, Try.results27, go_sem]) rfl ⟨rfl, ?_⟩
      repeat (first | exact Gr.refl _ | apply Gr.alloc | apply Gr.drew | apply Gr.dn | (refine Gr.setCell ?_ (by simp) _) | (refine Gr.setCell ?_ (by simp; omega) _))
  · have h : ¬ nn2 ⟨a1, a2⟩ ⟨b1, b2⟩ = true := by unfold nn2; rw [Bool.not_eq_true] at ha; rw [ha]; simp
    rw [show sb2 ⟨a1, a2⟩ ⟨b1, b2⟩ = ⟨0, 0⟩ from by unfold sb2; rw [if_neg h]]
    rw [Bool.not_eq_true] at ha
    have HA := Lib.hid ha
    clear h ha
    go_enter Try.func27, Try.ntmps27
    go_wp2_with (go_at_call 32; refine (ris2_any _ _ _).mono ?_; rintro e w' ⟨rfl, rfl⟩; first | rw [HA.out])
    refine bodyPost_ret (v := .agg #[.int .i64 0, .int .i64 0]) (by simp [results, Try.results27, go_sem]) rfl ⟨rfl, ?_⟩
    repeat (first | exact Gr.refl _ | apply Gr.alloc | apply Gr.drew | apply Gr.dn | (refine Gr.setCell ?_ (by simp) _) | (refine Gr.setCell ?_ (by simp; omega) _))

theorem rcross2_any (a1 a2 b1 b2 : Int) (w : World) :
    Calls Try.prog 23 #[.agg #[.int .i64 a1, .int .i64 a2], .agg #[.int .i64 b1, .int .i64 b2]] w fun e w' => e = .returned (.tuple #[.int .i64 (cr2 ⟨a1, a2⟩ ⟨b1, b2⟩), .int .i64 (ne2 ⟨a1, a2⟩ ⟨b1, b2⟩)]) ∧ Gr w w' := by
  by_cases ha : nr2 ⟨a1, a2⟩ = true
  · have HA := Lib.hid ha
    by_cases hb : nr2 ⟨b1, b2⟩ = true
    · have HB := Lib.hid hb
      have h : nn2 ⟨a1, a2⟩ ⟨b1, b2⟩ = true := by unfold nn2; rw [ha, hb]; rfl
      rw [show cr2 ⟨a1, a2⟩ ⟨b1, b2⟩ = a1 * b2 - a2 * b1 from by unfold cr2; rw [if_pos h]]
      rw [ne2_yes h]
      obtain ⟨⟨x1, x2⟩, ⟨y1, y2⟩⟩ := nr2_iff.1 ha
      obtain ⟨⟨u1, u2⟩, ⟨v1, v2⟩⟩ := nr2_iff.1 hb
      obtain ⟨m0a, m0b⟩ := mul_bd (x := a1) (y := b2) (M := 1048576) (N := 1048576) 1099511627776 (by decide) ⟨x1, x2⟩ ⟨v1, v2⟩
      obtain ⟨m1a, m1b⟩ := mul_bd (x := a2) (y := b1) (M := 1048576) (N := 1048576) 1099511627776 (by decide) ⟨y1, y2⟩ ⟨u1, u2⟩
      clear h ha hb
      go_enter Try.func23, Try.ntmps23
      go_wp2_with (go_at_call 32; refine (ris2_any _ _ _).mono ?_; rintro e w' ⟨rfl, rfl⟩; first | rw [HA.out] | rw [HB.out])
      refine bodyPost_ret (v := .tuple #[.int .i64 (a1 * b2 - a2 * b1), .int .i64 0]) (by simp [results, Try.results23, go_sem]) rfl ⟨rfl, ?_⟩
      repeat (first | exact Gr.refl _ | apply Gr.alloc | apply Gr.drew | apply Gr.dn | (refine Gr.setCell ?_ (by simp) _) | (refine Gr.setCell ?_ (by simp; omega) _))
    · have h : ¬ nn2 ⟨a1, a2⟩ ⟨b1, b2⟩ = true := by unfold nn2; rw [ha]; simpa using hb
      rw [show cr2 ⟨a1, a2⟩ ⟨b1, b2⟩ = 0 from by unfold cr2; rw [if_neg h]]
      rw [ne2_no h]
      rw [Bool.not_eq_true] at hb
      have HB := Lib.hid hb
      clear h ha hb
      go_enter Try.func23, Try.ntmps23
      go_wp2_with (go_at_call 32; refine (ris2_any _ _ _).mono ?_; rintro e w' ⟨rfl, rfl⟩; first | rw [HA.out] | rw [HB.out])
      refine bodyPost_ret (v := .tuple #[.int .i64 0, .int .i64 5]) (by simp [results, Try.results23, go_sem]) rfl ⟨rfl, ?_⟩
      repeat (first | exact Gr.refl _ | apply Gr.alloc | apply Gr.drew | apply Gr.dn | (refine Gr.setCell ?_ (by simp) _) | (refine Gr.setCell ?_ (by simp; omega) _))
  · have h : ¬ nn2 ⟨a1, a2⟩ ⟨b1, b2⟩ = true := by unfold nn2; rw [Bool.not_eq_true] at ha; rw [ha]; simp
    rw [show cr2 ⟨a1, a2⟩ ⟨b1, b2⟩ = 0 from by unfold cr2; rw [if_neg h]]
    rw [ne2_no h]
    rw [Bool.not_eq_true] at ha
    have HA := Lib.hid ha
    clear h ha
    go_enter Try.func23, Try.ntmps23
    go_wp2_with (go_at_call 32; refine (ris2_any _ _ _).mono ?_; rintro e w' ⟨rfl, rfl⟩; first | rw [HA.out])
    refine bodyPost_ret (v := .tuple #[.int .i64 0, .int .i64 5]) (by simp [results, Try.results23, go_sem]) rfl ⟨rfl, ?_⟩
    repeat (first | exact Gr.refl _ | apply Gr.alloc | apply Gr.drew | apply Gr.dn | (refine Gr.setCell ?_ (by simp) _) | (refine Gr.setCell ?_ (by simp; omega) _))

end Vc
end Go.Proofs.Ytjnnonhapjdjoaa
