/- The contracts of vec.Sub2, Cross2, Axis, Drop. -/
import Derived.Test.YtjnnonhapjdjoaaVc
set_option linter.unusedVariables false
namespace Go.Proofs.Ytjnnonhapjdjoaa
open Go.RowKit
namespace Vc

theorem sub2_any (ax ay bx by' : Int) (ia : I ax ∧ I ay) (ib : I bx ∧ I by') (w : World) :
    Calls Try.prog 26 #[.agg #[.int .i64 ax, .int .i64 ay], .agg #[.int .i64 bx, .int .i64 by']] w fun e w' =>
      e = .returned (.agg #[.int .i64 (sb2 ⟨ax, ay⟩ ⟨bx, by'⟩).x, .int .i64 (sb2 ⟨ax, ay⟩ ⟨bx, by'⟩).y]) ∧ Gr w w' := by
  have hin : ∀ p ∈ [(⟨ax, ay⟩ : P2), ⟨bx, by'⟩], I p.x ∧ I p.y := by
    intro p hp; simp at hp; rcases hp with rfl | rfl
    · exact ia
    · exact ib
  have HI := Lib.hid hin; clear hin ia ib
  by_cases h : nn2 ⟨ax, ay⟩ ⟨bx, by'⟩ = true
  · have e1 : sb2 ⟨ax, ay⟩ ⟨bx, by'⟩ = ⟨ax - bx, ay - by'⟩ := by unfold sb2; rw [if_pos h]
    rw [e1]; clear e1; dsimp only
    have hb : ((-1048576 ≤ ax ∧ ax ≤ 1048576) ∧ (-1048576 ≤ ay ∧ ay ≤ 1048576)) ∧ ((-1048576 ≤ bx ∧ bx ≤ 1048576) ∧ (-1048576 ≤ by' ∧ by' ≤ 1048576)) := by
      unfold nn2 at h; rw [Bool.and_eq_true, nr2_iff, nr2_iff] at h; exact h
    obtain ⟨⟨⟨x1, x2⟩, ⟨y1, y2⟩⟩, ⟨⟨u1, u2⟩, ⟨v1, v2⟩⟩⟩ := hb
    have hall : [(⟨ax, ay⟩ : P2), ⟨bx, by'⟩].all nr2 = true := by unfold nn2 at h; simpa using h
    have HA := Lib.hid hall; clear hall h
    go_enter Try.func26, Try.ntmps26
    go_wp2_with fail
    refine (is2_any _ _ _ [⟨ax, ay⟩, ⟨bx, by'⟩] _ (by exact IsP2s.of_blk2 (Blk.new (by simp))) HI.out).mono ?_; rintro e w1 ⟨rfl, hg1⟩; rw [HA.out]
    have A := Blk.gr (b := w.heap.size) (vs := [.int .i64 ax, .int .i64 ay]) (by repeat (first | (refine Blk.new ?_; simp; done) | apply Blk.alloc | apply Blk.drew)) hg1
    have B := Blk.gr (b := w.heap.size + 1) (vs := [.int .i64 bx, .int .i64 by']) (by repeat (first | (refine Blk.new ?_; simp; done) | apply Blk.alloc | apply Blk.drew)) hg1
    have C := Blk.gr (b := w.heap.size + 1 + 1) (vs := [.int .i64 0, .int .i64 0]) (by repeat (first | (refine Blk.new ?_; simp; done) | apply Blk.alloc | apply Blk.drew)) hg1
    have hgg : Gr w w1 := by repeat (first | exact Gr.refl _ | refine Gr.trans ?_ hg1 | apply Gr.alloc)
    have hsz := hgg.size
    clear hg1
    obtain ⟨la, a0, a1⟩ := A.two
    obtain ⟨lb, b0, b1⟩ := B.two
    obtain ⟨lc, c0, c1⟩ := C.two
    have c3 := C.free 0 rfl
    have c4 := C.free 1 rfl
    go_wp2
    obtain ⟨_, d0, d1⟩ := (C.set2 (.int .i64 (ax - bx)) (.int .i64 (ay - by'))).two
    refine bodyPost_ret (v := .agg #[.int .i64 (ax - bx), .int .i64 (ay - by')]) (by simp [results, Try.results26, go_sem, d0, d1]) rfl ⟨rfl, ?_⟩
    exact (hgg.setCell (by simp; omega) _).setCell (by simp; omega) _
  · have e1 : sb2 ⟨ax, ay⟩ ⟨bx, by'⟩ = ⟨0, 0⟩ := by unfold sb2; rw [if_neg h]
    rw [e1]; clear e1; dsimp only
    rw [Bool.not_eq_true] at h
    have hall : [(⟨ax, ay⟩ : P2), ⟨bx, by'⟩].all nr2 = false := by unfold nn2 at h; simpa using h
    have HA := Lib.hid hall; clear hall h
    go_enter Try.func26, Try.ntmps26
    go_wp2_with fail
    refine (is2_any _ _ _ [⟨ax, ay⟩, ⟨bx, by'⟩] _ (by exact IsP2s.of_blk2 (Blk.new (by simp))) HI.out).mono ?_; rintro e w1 ⟨rfl, hg1⟩; rw [HA.out]
    have C := Blk.gr (b := w.heap.size + 1 + 1) (vs := [.int .i64 0, .int .i64 0]) (by repeat (first | (refine Blk.new ?_; simp; done) | apply Blk.alloc | apply Blk.drew)) hg1
    have hgg : Gr w w1 := by repeat (first | exact Gr.refl _ | refine Gr.trans ?_ hg1 | apply Gr.alloc)
    have hsz := hgg.size
    clear hg1
    obtain ⟨lc, c0, c1⟩ := C.two
    have c3 := C.free 0 rfl
    have c4 := C.free 1 rfl
    go_wp2
    obtain ⟨_, d0, d1⟩ := (C.set2 (.int .i64 0) (.int .i64 0)).two
    refine bodyPost_ret (v := .agg #[.int .i64 0, .int .i64 0]) (by simp [results, Try.results26, go_sem, d0, d1]) rfl ⟨rfl, ?_⟩
    exact (hgg.setCell (by simp; omega) _).setCell (by simp; omega) _

theorem cross2_any (ax ay bx by' : Int) (ia : I ax ∧ I ay) (ib : I bx ∧ I by') (w : World) :
    Calls Try.prog 17 #[.agg #[.int .i64 ax, .int .i64 ay], .agg #[.int .i64 bx, .int .i64 by']] w fun e w' =>
      e = .returned (.tuple #[.int .i64 (cr2 ⟨ax, ay⟩ ⟨bx, by'⟩), .int .i64 (ne2 ⟨ax, ay⟩ ⟨bx, by'⟩)]) ∧ Gr w w' := by
  have hin : ∀ p ∈ [(⟨ax, ay⟩ : P2), ⟨bx, by'⟩], I p.x ∧ I p.y := by
    intro p hp; simp at hp; rcases hp with rfl | rfl
    · exact ia
    · exact ib
  have HI := Lib.hid hin; clear hin ia ib
  by_cases h : nn2 ⟨ax, ay⟩ ⟨bx, by'⟩ = true
  · have e1 : cr2 ⟨ax, ay⟩ ⟨bx, by'⟩ = ax * by' - ay * bx := by unfold cr2; rw [if_pos h]
    have e2 : ne2 ⟨ax, ay⟩ ⟨bx, by'⟩ = 0 := by unfold ne2; rw [if_pos h]
    rw [e1, e2]; clear e1 e2
    have hb : ((-1048576 ≤ ax ∧ ax ≤ 1048576) ∧ (-1048576 ≤ ay ∧ ay ≤ 1048576)) ∧ ((-1048576 ≤ bx ∧ bx ≤ 1048576) ∧ (-1048576 ≤ by' ∧ by' ≤ 1048576)) := by
      unfold nn2 at h; rw [Bool.and_eq_true, nr2_iff, nr2_iff] at h; exact h
    obtain ⟨⟨⟨x1, x2⟩, ⟨y1, y2⟩⟩, ⟨⟨u1, u2⟩, ⟨v1, v2⟩⟩⟩ := hb
    obtain ⟨m0a, m0b⟩ := mul_bd (x := ax) (y := by') (M := 1048576) (N := 1048576) 1099511627776 (by decide) ⟨x1, x2⟩ ⟨v1, v2⟩
    obtain ⟨m1a, m1b⟩ := mul_bd (x := ay) (y := bx) (M := 1048576) (N := 1048576) 1099511627776 (by decide) ⟨y1, y2⟩ ⟨u1, u2⟩
    have hall : [(⟨ax, ay⟩ : P2), ⟨bx, by'⟩].all nr2 = true := by unfold nn2 at h; simpa using h
    have HA := Lib.hid hall; clear hall h
    go_enter Try.func17, Try.ntmps17
    go_wp2_with fail
    refine (is2_any _ _ _ [⟨ax, ay⟩, ⟨bx, by'⟩] _ (by exact IsP2s.of_blk2 (Blk.new (by simp))) HI.out).mono ?_; rintro e w1 ⟨rfl, hg1⟩; rw [HA.out]
    have A := Blk.gr (b := w.heap.size) (vs := [.int .i64 ax, .int .i64 ay]) (by repeat (first | (refine Blk.new ?_; simp; done) | apply Blk.alloc | apply Blk.drew)) hg1
    have B := Blk.gr (b := w.heap.size + 1) (vs := [.int .i64 bx, .int .i64 by']) (by repeat (first | (refine Blk.new ?_; simp; done) | apply Blk.alloc | apply Blk.drew)) hg1
    have hgg : Gr w w1 := by repeat (first | exact Gr.refl _ | refine Gr.trans ?_ hg1 | apply Gr.alloc)
    clear hg1
    obtain ⟨la, a0, a1⟩ := A.two
    obtain ⟨lb, b0, b1⟩ := B.two
    go_wp2
    go_ret2
    exact ⟨rfl, hgg⟩
  · have e1 : cr2 ⟨ax, ay⟩ ⟨bx, by'⟩ = 0 := by unfold cr2; rw [if_neg h]
    have e2 : ne2 ⟨ax, ay⟩ ⟨bx, by'⟩ = 5 := by unfold ne2; rw [if_neg h]
    rw [e1, e2]; clear e1 e2
    rw [Bool.not_eq_true] at h
    have hall : [(⟨ax, ay⟩ : P2), ⟨bx, by'⟩].all nr2 = false := by unfold nn2 at h; simpa using h
    have HA := Lib.hid hall; clear hall h
    go_enter Try.func17, Try.ntmps17
    go_wp2_with fail
    refine (is2_any _ _ _ [⟨ax, ay⟩, ⟨bx, by'⟩] _ (by exact IsP2s.of_blk2 (Blk.new (by simp))) HI.out).mono ?_; rintro e w1 ⟨rfl, hg1⟩; rw [HA.out]
    have hgg : Gr w w1 := by repeat (first | exact Gr.refl _ | refine Gr.trans ?_ hg1 | apply Gr.alloc)
    clear hg1
    go_wp2
    go_ret2
    exact ⟨rfl, hgg⟩

/-- As far from 0, not above it. -/
def lw (n : Int) : Int := if 0 < n then -n else n
theorem low_any (n : Int) (h : I n) (w : World) :
    Calls Try.prog 54 #[.int .i64 n] w fun e w' => e = .returned (.int .i64 (lw n)) ∧ w = w' := by
  obtain ⟨h1, h2⟩ := h
  have hl : lw n = if 0 < n then -n else n := rfl
  by_cases h0 : 0 < n
  · rw [hl, if_pos h0]; clear hl
    go_enter Try.func54, Try.ntmps54
    go_wp2
    go_ret
    exact ⟨rfl, rfl⟩
  · rw [hl, if_neg h0]; clear hl
    go_enter Try.func54, Try.ntmps54
    go_wp2
    go_ret
    exact ⟨rfl, rfl⟩

/-- The axis: a part that is farthest from 0, the first of such. -/
def axn (x y z : Int) : Nat := if lw z < (if lw y < lw x then lw y else lw x) then 2 else if lw y < lw x then 1 else 0

set_option maxHeartbeats 1000000 in
theorem axis_any (x y z : Int) (ix : I x) (iy : I y) (iz : I z) (w : World) :
    Calls Try.prog 21 #[.agg #[.int .i64 x, .int .i64 y, .int .i64 z]] w fun e w' => e = .returned (.int .i64 (axn x y z)) ∧ Gr w w' := by
  have IX := Lib.hid ix; have IY := Lib.hid iy; have IZ := Lib.hid iz; clear ix iy iz
  go_enter Try.func21, Try.ntmps21
  go_wp2_with (go_at_call 49; refine (parts_any _ _ _ _).mono ?_; rintro e w' ⟨rfl, rfl⟩)
  have P := Blk.new (w := (((w.alloc (Obj.cells #[Value.int IntKind.i64 x, Value.int IntKind.i64 y, Value.int IntKind.i64 z] 23)).alloc (Obj.cells #[Value.int IntKind.i64 x, Value.int IntKind.i64 y, Value.int IntKind.i64 z] 23)).alloc (Obj.cells #[Value.int IntKind.i64 x, Value.int IntKind.i64 y, Value.int IntKind.i64 z] 60))) (b := w.heap.size + 1 + 1 + 1) (vs := [.int .i64 x, .int .i64 y, .int .i64 z]) (T := 60) (by simp)
  have hg : Gr w _ := ((((Gr.refl w).alloc (Obj.cells #[Value.int IntKind.i64 x, Value.int IntKind.i64 y, Value.int IntKind.i64 z] 23)).alloc (Obj.cells #[Value.int IntKind.i64 x, Value.int IntKind.i64 y, Value.int IntKind.i64 z] 23)).alloc (Obj.cells #[Value.int IntKind.i64 x, Value.int IntKind.i64 y, Value.int IntKind.i64 z] 60)).alloc (Obj.cells #[Value.int IntKind.i64 x, Value.int IntKind.i64 y, Value.int IntKind.i64 z] 60)
  go_loopw [4, 8] (fun b i wr => ∃ k c : Nat, k ≤ 3 ∧ i = .int .i64 k ∧ b = .int .i64 c ∧ Blk wr (w.heap.size + 1 + 1 + 1) [.int .i64 x, .int .i64 y, .int .i64 z] ∧ Gr w wr ∧
     (k ≤ 1 → c = 0) ∧ (k = 2 → c = if lw y < lw x then 1 else 0) ∧ (k = 3 → c = axn x y z)) (fun _ i _ => 3 - (intOf i).toNat)
  case atStart => exact ⟨0, 0, by omega, rfl, rfl, P, hg, fun _ => rfl, by omega, by omega⟩
  case round =>
    clear P hg
    obtain ⟨k, c, hk, rfl, rfl, P, hg, h1, h2, h3⟩ := hrel
    obtain ⟨_, p0, p1, p2⟩ := P.three
    have hkk : k = 0 ∨ k = 1 ∨ k = 2 ∨ k = 3 := by omega
    rcases hkk with rfl | rfl | rfl | rfl
    · obtain rfl := h1 (by omega)
      clear h1 h2 h3
      go_wp2
      go_quiet ((go_at_call 54; exact Calls.quiet_of_same ((low_any _ (by first | exact IX.out | exact IY.out | exact IZ.out) _).mono fun e w' h => ⟨h.1, h.2.symm⟩)))
      go_wp2
      go_roundw
      case rel => exact ⟨1, 0, by omega, rfl, rfl, P.dn _, hg.dn _, fun _ => rfl, by omega, by omega⟩
      case measure => simp [intOf]
    · obtain rfl := h1 (by omega)
      clear h1 h2 h3
      by_cases h : lw y < lw x
      · go_wp2
        go_quiet ((go_at_call 54; exact Calls.quiet_of_same ((low_any _ (by first | exact IX.out | exact IY.out | exact IZ.out) _).mono fun e w' h => ⟨h.1, h.2.symm⟩)))
        go_wp2
        go_roundw
        case rel => exact ⟨2, 1, by omega, rfl, rfl, P.dn _, hg.dn _, by omega, fun _ => (by rw [if_pos (by omega)]), by omega⟩
        case measure => simp [intOf]
      · go_wp2
        go_quiet ((go_at_call 54; exact Calls.quiet_of_same ((low_any _ (by first | exact IX.out | exact IY.out | exact IZ.out) _).mono fun e w' h => ⟨h.1, h.2.symm⟩)))
        go_wp2
        go_roundw
        case rel => exact ⟨2, 0, by omega, rfl, rfl, P.dn _, hg.dn _, by omega, fun _ => (by rw [if_neg (by omega)]), by omega⟩
        case measure => simp [intOf]
    · have hc := h2 rfl
      clear h1 h2 h3
      by_cases h : lw y < lw x
      · rw [if_pos h] at hc; subst hc
        by_cases h' : lw z < lw y
        · have hax : axn x y z = 2 := by unfold axn; simp [h, h']
          have HAX := Lib.hid hax; clear hax
          go_wp2
          go_quiet ((go_at_call 54; exact Calls.quiet_of_same ((low_any _ (by first | exact IX.out | exact IY.out | exact IZ.out) _).mono fun e w' h => ⟨h.1, h.2.symm⟩)))
          go_wp2
          go_roundw
          case rel => exact ⟨3, 2, by omega, rfl, rfl, P.dn _, hg.dn _, by omega, by omega, fun _ => HAX.out.symm⟩
          case measure => simp [intOf]
        · have hax : axn x y z = 1 := by unfold axn; simp [h, h']
          have HAX := Lib.hid hax; clear hax
          go_wp2
          go_quiet ((go_at_call 54; exact Calls.quiet_of_same ((low_any _ (by first | exact IX.out | exact IY.out | exact IZ.out) _).mono fun e w' h => ⟨h.1, h.2.symm⟩)))
          go_wp2
          go_roundw
          case rel => exact ⟨3, 1, by omega, rfl, rfl, P.dn _, hg.dn _, by omega, by omega, fun _ => HAX.out.symm⟩
          case measure => simp [intOf]
      · rw [if_neg h] at hc; subst hc
        by_cases h' : lw z < lw x
        · have hax : axn x y z = 2 := by unfold axn; simp [h, h']
          have HAX := Lib.hid hax; clear hax
          go_wp2
          go_quiet ((go_at_call 54; exact Calls.quiet_of_same ((low_any _ (by first | exact IX.out | exact IY.out | exact IZ.out) _).mono fun e w' h => ⟨h.1, h.2.symm⟩)))
          go_wp2
          go_roundw
          case rel => exact ⟨3, 2, by omega, rfl, rfl, P.dn _, hg.dn _, by omega, by omega, fun _ => HAX.out.symm⟩
          case measure => simp [intOf]
        · have hax : axn x y z = 0 := by unfold axn; simp [h, h']
          have HAX := Lib.hid hax; clear hax
          go_wp2
          go_quiet ((go_at_call 54; exact Calls.quiet_of_same ((low_any _ (by first | exact IX.out | exact IY.out | exact IZ.out) _).mono fun e w' h => ⟨h.1, h.2.symm⟩)))
          go_wp2
          go_roundw
          case rel => exact ⟨3, 0, by omega, rfl, rfl, P.dn _, hg.dn _, by omega, by omega, fun _ => HAX.out.symm⟩
          case measure => simp [intOf]
    · obtain rfl := h3 rfl
      clear h1 h2 h3
      go_wp2
      go_ret
      exact ⟨rfl, hg⟩

/-- A part by its axis, and the two behind it. -/
def pa (x y z : Int) (k : Nat) : Int := if k = 0 then x else if k = 1 then y else z

set_option maxHeartbeats 1000000 in
theorem drop_no (x y z a : Int) (h : a < 0 ∨ 2 < a) (w : World) :
    Calls Try.prog 16 #[.agg #[.int .i64 x, .int .i64 y, .int .i64 z], .int .i64 a] w fun e w' => e = .returned (.tuple #[.agg #[.int .i64 0, .int .i64 0], .int .i64 1]) ∧ Gr w w' := by
  rcases h with h | h
  all_goals
    go_enter Try.func16, Try.ntmps16
    go_wp2
    refine bodyPost_ret (v := .tuple #[.agg #[.int .i64 0, .int .i64 0], .int .i64 1]) (by simp [results, Try.results16, go_sem]) rfl ⟨rfl, ?_⟩
    exact (((Gr.refl _).alloc _).alloc _)

set_option maxHeartbeats 1000000 in
theorem drop_ok (x y z : Int) (k : Nat) (hk : k ≤ 2) (w : World) :
    Calls Try.prog 16 #[.agg #[.int .i64 x, .int .i64 y, .int .i64 z], .int .i64 k] w fun e w' =>
      e = .returned (.tuple #[.agg #[.int .i64 (pa x y z ((k + 1) % 3)), .int .i64 (pa x y z ((k + 2) % 3))], .int .i64 0]) ∧ Gr w w' := by
  have hkk : k = 0 ∨ k = 1 ∨ k = 2 := by omega
  rcases hkk with rfl | rfl | rfl
  · go_enter Try.func16, Try.ntmps16
    go_wp2_with (go_at_call 49; refine (parts_any _ _ _ _).mono ?_; rintro e w' ⟨rfl, rfl⟩)
    go_region
    go_wp2
    refine bodyPost_ret (v := .tuple #[.agg #[.int .i64 y, .int .i64 z], .int .i64 0]) (by simp [results, Try.results16, go_sem]) rfl ⟨rfl, ?_⟩
    exact ((((((Gr.refl _).alloc _).alloc _).alloc _).alloc _).alloc _).drew
  · go_enter Try.func16, Try.ntmps16
    go_wp2_with (go_at_call 49; refine (parts_any _ _ _ _).mono ?_; rintro e w' ⟨rfl, rfl⟩)
    go_region
    go_wp2
    refine bodyPost_ret (v := .tuple #[.agg #[.int .i64 z, .int .i64 x], .int .i64 0]) (by simp [results, Try.results16, go_sem]) rfl ⟨rfl, ?_⟩
    exact ((((((Gr.refl _).alloc _).alloc _).alloc _).alloc _).alloc _).drew
  · go_enter Try.func16, Try.ntmps16
    go_wp2_with (go_at_call 49; refine (parts_any _ _ _ _).mono ?_; rintro e w' ⟨rfl, rfl⟩)
    go_region
    go_wp2
    refine bodyPost_ret (v := .tuple #[.agg #[.int .i64 x, .int .i64 y], .int .i64 0]) (by simp [results, Try.results16, go_sem]) rfl ⟨rfl, ?_⟩
    exact ((((((Gr.refl _).alloc _).alloc _).alloc _).alloc _).alloc _).drew
end Vc
end Go.Proofs.Ytjnnonhapjdjoaa
