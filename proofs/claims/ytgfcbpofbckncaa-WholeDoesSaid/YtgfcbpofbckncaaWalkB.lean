/- The walk of WholeDoes: program and reference agree. -/
import Derived.Test.YtgfcbpofbckncaaPt
import Derived.Test.YtgfcbpofbckncaaRf
import Derived.Test.YtgfcbpofbckncaaRg
import Derived.Test.YtgfcbpofbckncaaOw
set_option linter.unusedVariables false
namespace Go.Proofs.Ytgfcbpofbckncaa
open Go.RowKit
open Wh

namespace Wh
noncomputable def sv (a : Int) : Int := if a < 0 then 0 else rt a
def se (a : Int) : Int := if a < 0 then 1 else 0
theorem sqrt_tot (a : Int) (h : I a) (w : World) :
    Calls Try.prog 16 #[.int .i64 a] w fun e w' => e = .returned (.tuple #[.int .i64 (sv a), .int .i64 (se a)]) ∧ Gr w w' := by
  unfold sv se
  by_cases h0 : a < 0
  · rw [if_pos h0, if_pos h0]; exact sqrt_neg a h0 w
  · rw [if_neg h0, if_neg h0]; exact sqrt_any a (by omega) h.2 w
theorem rsqrt_tot (a : Int) (h : I a) (w : World) :
    Calls Try.prog 17 #[.int .i64 a] w fun e w' => e = .returned (.tuple #[.int .i64 (sv a), .int .i64 (se a)]) ∧ w = w' := by
  unfold sv se
  by_cases h0 : a < 0
  · rw [if_pos h0, if_pos h0]; exact rsqrt_neg a h0 w
  · rw [if_neg h0, if_neg h0]; exact rsqrt_any a (by omega) h.2 w
end Wh

set_option maxHeartbeats 4000000 in
theorem walk_WholeDoes (w : World) (a : Int) (_ : I a) (b : Int) (_ : I b) (c : Int) (_ : I c) (p : Option Addr) (len cap : Nat) (zs : List Int) (hr : IsRow .i64 w p len zs) (hn : p = none → cap = 0) :
    Calls Try.prog 3 #[.int .i64 a, .int .i64 b, .int .i64 c, .slice p len cap] w fun e w' => e = .returned (.bool true) ∧ Gr w w' := by
  rename_i ha hb hc
  have hm := hr.2.1
  by_cases hl : 60 < len
  · clear ha hb hc hr hn
    go_enter Try.func3, Try.ntmps3
    go_wp2
    go_ret
    exact ⟨rfl, Gr.refl _⟩
  · have HA := Lib.hid ha; have HB := Lib.hid hb; clear ha hb hc
    have hz : zs.length = len := hr.1
    have HN := Lib.hid hn; clear hn
    have HR := Lib.hid hr; clear hr
    subst hz
    have hl2 : zs.length ≤ 1000000 := by omega
    go_enter Try.func3, Try.ntmps3
    go_wp2_with fail
    refine (Ow.own_any _ _ _ zs _ HR.out HN.out hl2).mono ?_; rintro e w1 ⟨p1, cap1, rfl, hr1, hg1⟩
    have HR1 := Lib.hid hr1; have HG1 := Lib.hid hg1; clear hr1 hg1
    go_wp2_with fail
    refine (floor_any _ _ HA.out HB.out _).mono ?_; rintro e w2 ⟨rfl, n1, rfl⟩
    go_wp2_with fail
    refine (rfloor_any _ _ HA.out HB.out _).mono ?_; rintro e w2 ⟨rfl, rfl⟩
    go_wp2_with fail
    refine (ceil_any _ _ HA.out HB.out _).mono ?_; rintro e w2 ⟨rfl, n2, rfl⟩
    go_wp2_with fail
    refine (rceil_any _ _ HA.out HB.out _).mono ?_; rintro e w2 ⟨rfl, rfl⟩
    go_wp2_with fail
    refine (gcd_any _ _ _ zs _ (by exact HR.out.later (HG1.out.dn _))).mono ?_; rintro e w2 ⟨rfl, n3, rfl⟩
    go_wp2_with fail
    refine (rgcd_any _ _ _ zs _ (by exact HR1.out.later ((Gr.refl _).dn _))).mono ?_; rintro e w2 ⟨rfl, n4, rfl⟩
    go_wp2_with fail
    refine (sqrt_tot _ HA.out _).mono ?_; rintro e w3 ⟨rfl, hg⟩
    have HG3 := Lib.hid hg; clear hg
    go_wp2_with fail
    refine (rsqrt_tot _ HA.out _).mono ?_; rintro e w2 ⟨rfl, rfl⟩
    go_wp2_with fail
    refine (clamp_any _ _ _ _).mono ?_; rintro e w2 ⟨rfl, rfl⟩
    go_wp2_with fail
    refine (rclamp_any _ _ _ _).mono ?_; rintro e w2 ⟨rfl, rfl⟩
    go_wp2_with fail
    refine (parted_any _).mono ?_; rintro e w4 ⟨rfl, hg⟩
    have HG4 := Lib.hid hg; clear hg
    go_wp2_with fail
    have hgg : Gr w1 w4 := Gr.trans (Gr.trans (Gr.dn (Gr.refl _) _) HG3.out) HG4.out
    refine (Ow.same_any _ _ _ _ _ zs _ (by exact HR.out.later (HG1.out.trans hgg)) (by exact HR1.out.later hgg)).mono ?_; rintro e w5 ⟨rfl, n5, rfl⟩
    go_wp2_with fail
    go_ret
    exact ⟨rfl, (HG1.out.trans hgg).dn _⟩
end Go.Proofs.Ytgfcbpofbckncaa
