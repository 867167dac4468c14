/- The rest of the reference of chapter 4: Axis, Drop, Less3; Drop in one form. -/
import Derived.Test.YtjnnonhapjdjoaaVi
import Derived.Test.YtjnnonhapjdjoaaVr
set_option linter.unusedVariables false
namespace Go.Proofs.Ytjnnonhapjdjoaa
open Go.RowKit
namespace Vc

def drv (x y z k : Int) : P2 := if k = 0 then ⟨y, z⟩ else if k = 1 then ⟨z, x⟩ else if k = 2 then ⟨x, y⟩ else ⟨0, 0⟩
def dre (k : Int) : Int := if k = 0 ∨ k = 1 ∨ k = 2 then 0 else 1

theorem drop_any (x y z k : Int) (w : World) :
    Calls Try.prog 16 #[.agg #[.int .i64 x, .int .i64 y, .int .i64 z], .int .i64 k] w fun e w' =>
      e = .returned (.tuple #[.agg #[.int .i64 (drv x y z k).x, .int .i64 (drv x y z k).y], .int .i64 (dre k)]) ∧ Gr w w' := by
  by_cases h : k = 0 ∨ k = 1 ∨ k = 2
  · rcases h with rfl | rfl | rfl
    · exact drop_ok x y z 0 (by omega) w
    · exact drop_ok x y z 1 (by omega) w
    · exact drop_ok x y z 2 (by omega) w
  · have e1 : drv x y z k = ⟨0, 0⟩ := by unfold drv; rw [if_neg (by omega), if_neg (by omega), if_neg (by omega)]
    have e2 : dre k = 1 := by unfold dre; rw [if_neg h]
    rw [e1, e2]; exact drop_no x y z k (by omega) w

theorem rdrop_any (x y z k : Int) (w : World) :
    Calls Try.prog 25 #[.agg #[.int .i64 x, .int .i64 y, .int .i64 z], .int .i64 k] w fun e w' =>
      e = .returned (.tuple #[.agg #[.int .i64 (drv x y z k).x, .int .i64 (drv x y z k).y], .int .i64 (dre k)]) ∧ Gr w w' := by
  by_cases h : k = 0 ∨ k = 1 ∨ k = 2
  · rcases h with rfl | rfl | rfl
    · go_enter Try.func25, Try.ntmps25
      go_wp2
      refine bodyPost_ret (v := .tuple #[.agg #[.int .i64 y, .int .i64 z], .int .i64 0]) (by simp [results, Try.results25, go_sem]) rfl ⟨rfl, ?_⟩
      repeat (first | exact Gr.refl _ | apply Gr.alloc | apply Gr.drew | apply Gr.dn | (refine Gr.setCell ?_ (by simp) _) | (refine Gr.setCell ?_ (by simp; omega) _))
    · go_enter Try.func25, Try.ntmps25
      go_wp2
      refine bodyPost_ret (v := .tuple #[.agg #[.int .i64 z, .int .i64 x], .int .i64 0]) (by simp [results, Try.results25, go_sem]) rfl ⟨rfl, ?_⟩
      repeat (first | exact Gr.refl _ | apply Gr.alloc | apply Gr.drew | apply Gr.dn | (refine Gr.setCell ?_ (by simp) _) | (refine Gr.setCell ?_ (by simp; omega) _))
    · go_enter Try.func25, Try.ntmps25
      go_wp2
      refine bodyPost_ret (v := .tuple #[.agg #[.int .i64 x, .int .i64 y], .int .i64 0]) (by simp [results, Try.results25, go_sem]) rfl ⟨rfl, ?_⟩
      repeat (first | exact Gr.refl _ | apply Gr.alloc | apply Gr.drew | apply Gr.dn | (refine Gr.setCell ?_ (by simp) _) | (refine Gr.setCell ?_ (by simp; omega) _))
  · have e1 : drv x y z k = ⟨0, 0⟩ := by unfold drv; rw [if_neg (by omega), if_neg (by omega), if_neg (by omega)]
    have e2 : dre k = 1 := by unfold dre; rw [if_neg h]
    rw [e1, e2]; clear e1 e2
    have k0 : (k == 0) = false := beq_eq_false_iff_ne.2 (by omega)
    have k1 : (k == 1) = false := beq_eq_false_iff_ne.2 (by omega)
    have k2 : (k == 2) = false := beq_eq_false_iff_ne.2 (by omega)
    clear h
    go_enter Try.func25, Try.ntmps25
    go_wp2
    refine bodyPost_ret (v := .tuple #[.agg #[.int .i64 0, .int .i64 0], .int .i64 1]) (by simp [results, Try.results25, go_sem]) rfl ⟨rfl, ?_⟩
    repeat (first | exact Gr.refl _ | apply Gr.alloc | apply Gr.drew | apply Gr.dn | (refine Gr.setCell ?_ (by simp) _) | (refine Gr.setCell ?_ (by simp; omega) _))

theorem runder_any (n : Int) (h : I n) (w : World) :
    Calls Try.prog 55 #[.int .i64 n] w fun e w' => e = .returned (.int .i64 (lw n)) ∧ w = w' := by
  obtain ⟨h1, h2⟩ := h
  have hl : lw n = if 0 < n then -n else n := rfl
  by_cases h0 : 0 < n
  · rw [hl, if_pos h0]; clear hl
    go_enter Try.func55, Try.ntmps55
    go_wp2
    go_ret
    exact ⟨rfl, rfl⟩
  · rw [hl, if_neg h0]; clear hl
    go_enter Try.func55, Try.ntmps55
    go_wp2
    go_ret
    exact ⟨rfl, rfl⟩

theorem raxis_any (x y z : Int) (ix : I x) (iy : I y) (iz : I z) (w : World) :
    Calls Try.prog 29 #[.agg #[.int .i64 x, .int .i64 y, .int .i64 z]] w fun e w' => e = .returned (.int .i64 (axn x y z)) ∧ Gr w w' := by
  have IX := Lib.hid ix; have IY := Lib.hid iy; have IZ := Lib.hid iz; clear ix iy iz
  have ha : axn x y z = if lw z < (if lw y < lw x then lw y else lw x) then 2 else if lw y < lw x then 1 else 0 := rfl
  by_cases h1 : lw x ≤ lw y
  · by_cases h2 : lw x ≤ lw z
    · have e : axn x y z = 0 := by rw [ha]; rw [if_neg (show ¬ lw y < lw x by omega), if_neg (show ¬ lw z < lw x by omega), if_neg (show ¬ lw y < lw x by omega)]
      rw [e]; clear e ha
      go_enter Try.func29, Try.ntmps29
      go_wp2_with (go_at_call 55; refine (runder_any _ (by first | exact IX.out | exact IY.out | exact IZ.out) _).mono ?_; rintro e w' ⟨rfl, rfl⟩)
      go_ret
      exact ⟨rfl, (Gr.refl _).alloc _⟩
    · have e : axn x y z = 2 := by rw [ha]; rw [if_neg (show ¬ lw y < lw x by omega), if_pos (show lw z < lw x by omega)]
      have h3 : ¬ lw y ≤ lw z := by omega
      rw [e]; clear e ha
      go_enter Try.func29, Try.ntmps29
      go_wp2_with (go_at_call 55; refine (runder_any _ (by first | exact IX.out | exact IY.out | exact IZ.out) _).mono ?_; rintro e w' ⟨rfl, rfl⟩)
      go_ret
      exact ⟨rfl, (Gr.refl _).alloc _⟩
  · by_cases h3 : lw y ≤ lw z
    · have e : axn x y z = 1 := by rw [ha]; simp only [if_pos (show lw y < lw x by omega), if_neg (show ¬ lw z < lw y by omega)]
      rw [e]; clear e ha
      go_enter Try.func29, Try.ntmps29
      go_wp2_with (go_at_call 55; refine (runder_any _ (by first | exact IX.out | exact IY.out | exact IZ.out) _).mono ?_; rintro e w' ⟨rfl, rfl⟩)
      go_ret
      exact ⟨rfl, (Gr.refl _).alloc _⟩
    · have e : axn x y z = 2 := by rw [ha]; simp only [if_pos (show lw y < lw x by omega), if_pos (show lw z < lw y by omega)]
      rw [e]; clear e ha
      go_enter Try.func29, Try.ntmps29
      go_wp2_with (go_at_call 55; refine (runder_any _ (by first | exact IX.out | exact IY.out | exact IZ.out) _).mono ?_; rintro e w' ⟨rfl, rfl⟩)
      go_ret
      exact ⟨rfl, (Gr.refl _).alloc _⟩

theorem rless3_any (ax ay az bx by' bz : Int) (w : World) :
    Calls Try.prog 30 #[.agg #[.int .i64 ax, .int .i64 ay, .int .i64 az], .agg #[.int .i64 bx, .int .i64 by', .int .i64 bz]] w fun e w' => e = .returned (.bool (ls ⟨ax, ay, az⟩ ⟨bx, by', bz⟩)) ∧ Gr w w' := by
  obtain ⟨L, hL⟩ : ∃ L, ls ⟨ax, ay, az⟩ ⟨bx, by', bz⟩ = L := ⟨_, rfl⟩
  have hl : L = true ↔ ax < bx ∨ (ax = bx ∧ (ay < by' ∨ (ay = by' ∧ az < bz))) := by rw [← hL]; exact ls_iff
  rw [hL]; clear hL
  by_cases h1 : ax = bx
  · have n1 : (ax != bx) = false := by simp [h1]
    by_cases h2 : ay = by'
    · have n2 : (ay != by') = false := by simp [h2]
      have e : L = decide (az < bz) := by rw [Bool.eq_iff_iff, hl, decide_eq_true_iff]; omega
      rw [e]; clear e hl h1 h2
      go_enter Try.func30, Try.ntmps30
      go_wp2
      go_ret
      exact ⟨rfl, ((Gr.refl _).alloc _).alloc _⟩
    · have n2 : (ay != by') = true := by simp [h2]
      have e : L = decide (ay < by') := by rw [Bool.eq_iff_iff, hl, decide_eq_true_iff]; omega
      rw [e]; clear e hl h1 h2
      go_enter Try.func30, Try.ntmps30
      go_wp2
      go_ret
      exact ⟨rfl, ((Gr.refl _).alloc _).alloc _⟩
  · have n1 : (ax != bx) = true := by simp [h1]
    have e : L = decide (ax < bx) := by rw [Bool.eq_iff_iff, hl, decide_eq_true_iff]; omega
    rw [e]; clear e hl h1
    go_enter Try.func30, Try.ntmps30
    go_wp2
    go_ret
    exact ⟨rfl, ((Gr.refl _).alloc _).alloc _⟩

theorem is2_two (ax ay bx by' : Int) (B : Bool) (hB : (nr2 ⟨ax, ay⟩ && nr2 ⟨bx, by'⟩) = B) (ia : I ax ∧ I ay) (ib : I bx ∧ I by') (cap p : Nat) (w : World) (hp : Blk w p [.int .i64 ax, .int .i64 ay, .int .i64 bx, .int .i64 by']) :
    Calls Try.prog 31 #[.slice (some ⟨p, 0, none⟩) 2 cap] w fun e w' => e = .returned (.bool B) ∧ Gr w w' := by
  refine (is2_any _ _ _ [⟨ax, ay⟩, ⟨bx, by'⟩] _ (IsP2s.of_blk2 hp) ?_).mono fun e w' h => ?_
  · intro p hp; simp at hp; rcases hp with rfl | rfl
    · exact ia
    · exact ib
  · have e1 : [(⟨ax, ay⟩ : P2), ⟨bx, by'⟩].all nr2 = B := by rw [← hB]; simp
    rw [e1] at h; exact h

theorem is3_two (ax ay az bx by' bz : Int) (B : Bool) (hB : (nr3 ⟨ax, ay, az⟩ && nr3 ⟨bx, by', bz⟩) = B) (ia : I ax ∧ I ay ∧ I az) (ib : I bx ∧ I by' ∧ I bz) (cap p : Nat) (w : World) (hp : Blk w p [.int .i64 ax, .int .i64 ay, .int .i64 az, .int .i64 bx, .int .i64 by', .int .i64 bz]) :
    Calls Try.prog 15 #[.slice (some ⟨p, 0, none⟩) 2 cap] w fun e w' => e = .returned (.bool B) ∧ Gr w w' := by
  refine (is3_any _ _ _ [⟨ax, ay, az⟩, ⟨bx, by', bz⟩] _ (IsP3s.of_blk2 hp) ?_).mono fun e w' h => ?_
  · intro p hp; simp at hp; rcases hp with rfl | rfl
    · exact ia
    · exact ib
  · have e1 : [(⟨ax, ay, az⟩ : P3), ⟨bx, by', bz⟩].all nr3 = B := by rw [← hB]; simp
    rw [e1] at h; exact h

theorem keep10 {w' : World} {p q r s : Nat} {a0 a1 a2 b0 b1 b2 c0 c1 d0 d1 : Value} (A : Blk w' p [a0, a1, a2]) (B : Blk w' q [b0, b1, b2]) (C : Blk w' r [c0, c1]) (D : Blk w' s [d0, d1]) :
    w'.cell? ⟨p, 0, none⟩ = some a0 ∧ w'.cell? ⟨p, 1, none⟩ = some a1 ∧ w'.cell? ⟨p, 2, none⟩ = some a2 ∧ w'.cell? ⟨q, 0, none⟩ = some b0 ∧ w'.cell? ⟨q, 1, none⟩ = some b1 ∧ w'.cell? ⟨q, 2, none⟩ = some b2 ∧
    w'.cell? ⟨r, 0, none⟩ = some c0 ∧ w'.cell? ⟨r, 1, none⟩ = some c1 ∧ w'.cell? ⟨s, 0, none⟩ = some d0 ∧ w'.cell? ⟨s, 1, none⟩ = some d1 :=
  ⟨A.cell 0 rfl, A.cell 1 rfl, A.cell 2 rfl, B.cell 0 rfl, B.cell 1 rfl, B.cell 2 rfl, C.cell 0 rfl, C.cell 1 rfl, D.cell 0 rfl, D.cell 1 rfl⟩
end Vc

end Go.Proofs.Ytjnnonhapjdjoaa
