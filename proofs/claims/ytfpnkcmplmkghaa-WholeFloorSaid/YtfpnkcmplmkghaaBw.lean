/- The contract of the reference's Same: two rows of the same ints are the same. -/
import Derived.Test.YtfpnkcmplmkghaaBu
set_option linter.unusedVariables false
namespace Go.Proofs.Ytfpnkcmplmkghaa
open Go.RowKit
namespace Ow
theorem same_any (a a2 : Option Addr) (len cap cap2 : Nat) (zs : List Int) (w : World) (hr : IsRow .i64 w a len zs) (hr2 : IsRow .i64 w a2 len zs) :
    Calls Try.prog 73 #[.slice a len cap, .slice a2 len cap2] w fun e w' => e = .returned (.bool true) ∧ Drew w w' := by
  obtain ⟨hz, hm, hwz, hr⟩ := hr
  obtain ⟨_, _, _, hr2⟩ := hr2
  clear hwz
  by_cases h0 : len = 0
  · subst h0
    clear hr hr2 hz
    go_enter Try.func73, Try.ntmps73
    go_wp2
    go_loopw [5] (fun i wr => i = .int .i64 0 ∧ w = wr) (fun _ _ => 0)
    case atStart => exact ⟨rfl, rfl⟩
    case round =>
      obtain ⟨rfl, rfl⟩ := hrel
      go_wp2
      go_ret
      exact ⟨rfl, Drew.refl _⟩
  · obtain ⟨b, off, rfl, hcell⟩ := hr (by omega)
    obtain ⟨b2, off2, rfl, hcell2⟩ := hr2 (by omega)
    clear hr hr2
    have HC := Lib.hid hcell; clear hcell
    have HC2 := Lib.hid hcell2; clear hcell2
    have HZ := Lib.hid hz; clear hz
    clear h0
    go_enter Try.func73, Try.ntmps73
    go_wp2
    go_loopw [5] (fun i wr => ∃ k : Nat, k ≤ len ∧ i = .int .i64 k ∧ Drew w wr) (fun i _ => len - (intOf i).toNat)
    case atStart => exact ⟨0, Nat.zero_le _, rfl, Drew.refl _⟩
    case round =>
      obtain ⟨k, hk, rfl, n, rfl⟩ := hrel
      by_cases hlt : k < len
      · have hc1 := HC.out k hlt
        have hc2 := HC2.out k hlt
        generalize zs.getD k 0 = z at hc1 hc2
        go_wp2
        go_quiet (fail)
        go_wp2
        go_roundw
        case rel => exact ⟨k + 1, by omega, by go_num, _, rfl⟩
        case measure => simp [intOf]; omega
      · go_wp2
        go_ret
        exact ⟨rfl, n, rfl⟩
end Ow
end Go.Proofs.Ytfpnkcmplmkghaa
