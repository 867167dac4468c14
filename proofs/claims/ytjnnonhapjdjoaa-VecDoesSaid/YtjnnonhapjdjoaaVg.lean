/- The contracts of vec.Less3 and what it stands on. -/
import Derived.Test.YtjnnonhapjdjoaaVc
import Derived.StillTailTactics
set_option linter.unusedVariables false
namespace Go.Proofs.Ytjnnonhapjdjoaa
open Go.RowKit
namespace Vc

/-- How two numbers stand: -1, 0, 1. -/
def cm (a b : Int) : Int := if a < b then -1 else if b < a then 1 else 0

theorem isNaN_any (a : Int) (w : World) :
    Calls Try.prog 63 #[.int .i64 a] w fun e w' => e = .returned (.bool false) ∧ w = w' := by
  go_enter Try.func63, Try.ntmps63
  go_wp2
  go_ret
  exact ⟨retb (by simp), rfl⟩

theorem compare_any (a b : Int) (w : World) :
    Calls Try.prog 53 #[.int .i64 a, .int .i64 b] w fun e w' => e = .returned (.int .i64 (cm a b)) ∧ w = w' := by
  have hc : cm a b = if a < b then -1 else if b < a then 1 else 0 := rfl
  by_cases h1 : a < b
  · rw [hc, if_pos h1]; clear hc
    go_enter Try.func53, Try.ntmps53
    go_wp2_with (go_at_call 63; refine (isNaN_any _ _).mono ?_; rintro e w' ⟨rfl, rfl⟩)
    go_ret
    exact ⟨rfl, rfl⟩
  · by_cases h2 : b < a
    · rw [hc, if_neg h1, if_pos h2]; clear hc
      go_enter Try.func53, Try.ntmps53
      go_wp2_with (go_at_call 63; refine (isNaN_any _ _).mono ?_; rintro e w' ⟨rfl, rfl⟩)
      go_ret
      exact ⟨rfl, rfl⟩
    · rw [hc, if_neg h1, if_neg h2]; clear hc
      go_enter Try.func53, Try.ntmps53
      go_wp2_with (go_at_call 63; refine (isNaN_any _ _).mono ?_; rintro e w' ⟨rfl, rfl⟩)
      go_ret
      exact ⟨rfl, rfl⟩

/-- The first of three that is not 0. -/
def or3 (a b c : Int) : Int := if a = 0 then (if b = 0 then c else b) else a

theorem or_any (a b c : Int) (p cap : Nat) (w : World) (P : Blk w p [.int .i64 a, .int .i64 b, .int .i64 c]) :
    Calls Try.prog 52 #[.slice (some ⟨p, 0, none⟩) 3 cap] w fun e w' => e = .returned (.int .i64 (or3 a b c)) ∧ w = w' := by
  obtain ⟨_, p0, p1, p2⟩ := P.three
  clear P
  go_enter Try.func52, Try.ntmps52
  go_wp2
  go_loop [8] (fun i => ∃ k : Nat, k ≤ 3 ∧ i = .int .i64 k ∧ (0 < k → a = 0) ∧ (1 < k → b = 0) ∧ (2 < k → c = 0)) (fun i => 3 - (intOf i).toNat)
  case atStart => exact ⟨0, by omega, rfl, by omega, by omega, by omega⟩
  case round =>
    obtain ⟨k, hk, rfl, ha, hb, hc⟩ := hrel
    have hkk : k = 0 ∨ k = 1 ∨ k = 2 ∨ k = 3 := by omega
    rcases hkk with rfl | rfl | rfl | rfl
    · clear ha hb hc
      by_cases h : a = 0
      · have hd : (a != 0) = false := by simp [h]
        have H := Lib.hid h; clear h
        go_wp2
        go_round
        case rel => exact ⟨1, by omega, rfl, fun _ => H.out, by omega, by omega⟩
        case measure => simp [intOf]
      · have hd : (a != 0) = true := by simp [h]
        have H := Lib.hid h; clear h
        go_wp2
        go_ret
        exact ⟨ret1 (by unfold or3; rw [if_neg H.out]), rfl⟩
    · have HA := Lib.hid (ha (by omega))
      clear ha hb hc
      by_cases h : b = 0
      · have hd : (b != 0) = false := by simp [h]
        have H := Lib.hid h; clear h
        go_wp2
        go_round
        case rel => exact ⟨2, by omega, rfl, fun _ => HA.out, fun _ => H.out, by omega⟩
        case measure => simp [intOf]
      · have hd : (b != 0) = true := by simp [h]
        have H := Lib.hid h; clear h
        go_wp2
        go_ret
        exact ⟨ret1 (by unfold or3; rw [if_pos HA.out, if_neg H.out]), rfl⟩
    · have HA := Lib.hid (ha (by omega)); have HB := Lib.hid (hb (by omega))
      clear ha hb hc
      by_cases h : c = 0
      · have hd : (c != 0) = false := by simp [h]
        have H := Lib.hid h; clear h
        go_wp2
        go_round
        case rel => exact ⟨3, by omega, rfl, fun _ => HA.out, fun _ => HB.out, fun _ => H.out⟩
        case measure => simp [intOf]
      · have hd : (c != 0) = true := by simp [h]
        have H := Lib.hid h; clear h
        go_wp2
        go_ret
        exact ⟨ret1 (by unfold or3; rw [if_pos HA.out, if_pos HB.out]), rfl⟩
    · have HA := Lib.hid (ha (by omega)); have HB := Lib.hid (hb (by omega)); have HC := Lib.hid (hc (by omega))
      clear ha hb hc
      go_wp2
      go_ret
      exact ⟨ret1 (by unfold or3; rw [if_pos HA.out, if_pos HB.out]; exact HC.out.symm), rfl⟩

def ls (a b : P3) : Bool := decide (or3 (cm a.x b.x) (cm a.y b.y) (cm a.z b.z) < 0)

theorem less3_any (ax ay az bx by' bz : Int) (w : World) :
    Calls Try.prog 20 #[.agg #[.int .i64 ax, .int .i64 ay, .int .i64 az], .agg #[.int .i64 bx, .int .i64 by', .int .i64 bz]] w fun e w' => e = .returned (.bool (ls ⟨ax, ay, az⟩ ⟨bx, by', bz⟩)) ∧ Gr w w' := by
  go_enter Try.func20, Try.ntmps20
  go_wp2
  refine wp_region_still_tail 15 (by kernel_rfl) (by kernel_rfl) ?_
  generalize hW : ((w.alloc (Obj.cells #[Value.int IntKind.i64 ax, Value.int IntKind.i64 ay, Value.int IntKind.i64 az] 23)).alloc (Obj.cells #[Value.int IntKind.i64 bx, Value.int IntKind.i64 by', Value.int IntKind.i64 bz] 23)) = W
  have A : Blk W w.heap.size [.int .i64 ax, .int .i64 ay, .int .i64 az] := by rw [← hW]; exact Blk.alloc (Blk.new rfl)
  have B : Blk W (w.heap.size + 1) [.int .i64 bx, .int .i64 by', .int .i64 bz] := by rw [← hW]; exact Blk.new (by simp)
  have hg : Gr w W := by rw [← hW]; exact ((Gr.refl _).alloc _).alloc _
  clear hW
  change wpStill _ _ W.drew (fun a' => wpList _ _ _ _ a' W.drew) _ _
  obtain ⟨a0, a1, a2, a3⟩ := (A.drew).three
  obtain ⟨b0, b1, b2, b3⟩ := (B.drew).three
  have hg2 := hg.drew
  generalize W.drew = V at *
  clear hg A B
  simp only [List.take_succ_cons, List.take_zero, List.drop_succ_cons, List.drop_zero]
  repeat still_step
  still_call ((compare_any _ _ _).mono fun e w' h => ⟨h.1, h.2.symm⟩)
  repeat still_step
  still_call ((compare_any _ _ _).mono fun e w' h => ⟨h.1, h.2.symm⟩)
  repeat still_step
  still_call ((compare_any _ _ _).mono fun e w' h => ⟨h.1, h.2.symm⟩)
  refine wpStill_nil ?_
  go_wp2_with fail
  refine (or_any _ _ _ _ _ _ (by exact Blk.new rfl)).mono ?_; rintro e w1 ⟨rfl, rfl⟩
  go_wp2_with fail
  go_ret
  exact ⟨rfl, hg2.alloc _⟩
end Vc
end Go.Proofs.Ytjnnonhapjdjoaa
