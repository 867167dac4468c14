/- The contracts of package whole: search, Sqrt. -/
import Derived.Test.YtfpnkcmplmkghaaWh
import Derived.Test.YtfpnkcmplmkghaaRt
set_option linter.unusedVariables false
namespace Go.Proofs.Ytfpnkcmplmkghaa
open Go.RowKit
namespace Wh

theorem sqrt1_any (r n : Int) (b : Nat) (w : World) (h0 : 0 ≤ r) (h1 : r ≤ 3037000499) (hc : w.cell? ⟨b, 0, none⟩ = some (.int .i64 n)) :
    Calls Try.prog 108 #[.int .i64 r, .pointer (some ⟨b, 0, none⟩)] w fun e w' => e = .returned (.bool (decide (r * r ≤ n))) ∧ w = w' := by
  obtain ⟨q0, q1⟩ := sq_bd h0 h1
  go_enter Try.func108, Try.ntmps108
  go_wp2
  go_ret
  exact ⟨rfl, rfl⟩

theorem search_any (n : Int) (h0 : 0 ≤ n) (hn : n ≤ 9223372036854775807) (b : Nat) (w : World) (hc : w.cell? ⟨b, 0, none⟩ = some (.int .i64 n)) :
    Calls Try.prog 107 #[.int .i64 3037000499, .func (.func 108) #[] #[.pointer (some ⟨b, 0, none⟩)]] w fun e w' => e = .returned (.int .i64 (rt n)) ∧ w = w' := by
  have hr := rt_root h0
  have HR := Lib.hid hr; clear hr
  go_enter Try.func107, Try.ntmps107
  go_wp2
  go_loop [5, 6] (fun lo hi => ∃ l h : Int, lo = .int .i64 l ∧ hi = .int .i64 h ∧ 0 ≤ l ∧ l ≤ h ∧ h ≤ 3037000499 ∧ l ≤ rt n ∧ rt n ≤ h) (fun lo hi => (intOf hi - intOf lo).toNat)
  case atStart =>
    obtain ⟨r0, r1⟩ := rt_le h0 hn
    exact ⟨0, 3037000499, rfl, rfl, by omega, by omega, by omega, r0, r1⟩
  case round =>
    obtain ⟨l, h, rfl, rfl, hl0, hlh, hh, hlr, hrh⟩ := hrel
    by_cases hlt : l < h
    · by_cases hm : (l + (h - l + 1) / 2) * (l + (h - l + 1) / 2) ≤ n
      · have hd : decide ((l + (h - l + 1) / 2) * (l + (h - l + 1) / 2) ≤ n) = true := by simpa using hm
        have hmr : l + (h - l + 1) / 2 ≤ rt n := by
          apply Classical.byContradiction
          intro hcc
          have := sq_mono (a := rt n + 1) (b := l + (h - l + 1) / 2) (by omega) (by omega)
          have := HR.out.2.2; omega
        have HD := Lib.hid hd; have HM := Lib.hid hmr; clear hd hmr hm
        go_wp2_with (go_at_call 108; refine (sqrt1_any _ n b _ (by omega) (by omega) hc).mono ?_; rintro e w' ⟨rfl, rfl⟩; rw [HD.out])
        go_round
        case rel => exact ⟨l + (h - l + 1) / 2, h, rfl, rfl, by omega, by omega, hh, HM.out, hrh⟩
        case measure => simp [intOf]; omega
      · have hd : decide ((l + (h - l + 1) / 2) * (l + (h - l + 1) / 2) ≤ n) = false := by simpa using hm
        have hmr : rt n ≤ l + (h - l + 1) / 2 - 1 := by
          apply Classical.byContradiction
          intro hcc
          have := sq_mono (a := l + (h - l + 1) / 2) (b := rt n) (by omega) (by omega)
          have := HR.out.2.1; omega
        have HD := Lib.hid hd; have HM := Lib.hid hmr; clear hd hmr hm
        go_wp2_with (go_at_call 108; refine (sqrt1_any _ n b _ (by omega) (by omega) hc).mono ?_; rintro e w' ⟨rfl, rfl⟩; rw [HD.out])
        go_round
        case rel => exact ⟨l, l + (h - l + 1) / 2 - 1, rfl, rfl, by omega, by omega, by omega, hlr, HM.out⟩
        case measure => simp [intOf]; omega
    · go_wp2
      go_ret
      exact ⟨ret1 (by omega), rfl⟩

theorem sqrt_any (n : Int) (h0 : 0 ≤ n) (hn : n ≤ 9223372036854775807) (w : World) :
    Calls Try.prog 68 #[.int .i64 n] w fun e w' => e = .returned (.tuple #[.int .i64 (rt n), .int .i64 0]) ∧ Gr w w' := by
  go_enter Try.func68, Try.ntmps68
  go_wp2_with (go_at_call 107; refine (search_any n h0 hn _ _ (by simp [go_sem])).mono ?_; rintro e w' ⟨rfl, rfl⟩)
  go_ret2
  exact ⟨rfl, (Gr.refl _).alloc _⟩

theorem sqrt_neg (n : Int) (h0 : n < 0) (w : World) :
    Calls Try.prog 68 #[.int .i64 n] w fun e w' => e = .returned (.tuple #[.int .i64 0, .int .i64 1]) ∧ Gr w w' := by
  go_enter Try.func68, Try.ntmps68
  go_wp2
  go_ret2
  exact ⟨rfl, (Gr.refl _).alloc _⟩
end Wh
end Go.Proofs.Ytfpnkcmplmkghaa
