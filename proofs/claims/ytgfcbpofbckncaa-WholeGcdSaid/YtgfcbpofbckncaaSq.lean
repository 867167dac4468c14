/- The contracts of package whole: search, Sqrt. -/
import Derived.Test.YtgfcbpofbckncaaWh
set_option linter.unusedVariables false
namespace Go.Proofs.Ytgfcbpofbckncaa
open Go.RowKit
namespace Wh

/-- r is the root of n. -/
def Root (n r : Int) : Prop := 0 ≤ r ∧ r * r ≤ n ∧ n < (r + 1) * (r + 1)

theorem root_exists : ∀ n : Nat, ∃ r : Int, Root n r := by
  intro n
  induction n with
  | zero => exact ⟨0, by decide, by decide, by decide⟩
  | succ n ih =>
    obtain ⟨r, h0, h1, h2⟩ := ih
    by_cases h : (r + 1) * (r + 1) ≤ ((n + 1 : Nat) : Int)
    · refine ⟨r + 1, by omega, h, ?_⟩
      have : (r + 1 + 1) * (r + 1 + 1) = (r + 1) * (r + 1) + 2 * (r + 1) + 1 := by
        rw [Int.mul_add, Int.add_mul]; omega
      omega
    · exact ⟨r, h0, by omega, by omega⟩

theorem sq_mono {a b : Int} (h0 : 0 ≤ a) (h : a ≤ b) : a * a ≤ b * b := Int.mul_le_mul h h h0 (by omega)

theorem root_unique {n r s : Int} (h : Root n r) (k : Root n s) : r = s := by
  obtain ⟨h0, h1, h2⟩ := h
  obtain ⟨k0, k1, k2⟩ := k
  apply Classical.byContradiction
  intro hne
  rcases Int.lt_or_gt_of_ne hne with hl | hl
  · have := sq_mono (a := r + 1) (b := s) (by omega) (by omega); omega
  · have := sq_mono (a := s + 1) (b := r) (by omega) (by omega); omega

theorem sq_bd {r : Int} (h0 : 0 ≤ r) (h : r ≤ 3037000499) : 0 ≤ r * r ∧ r * r ≤ 9223372030926249001 := by
  have h1 := sq_mono h0 h
  have h2 := Int.mul_nonneg h0 h0
  have h3 : (3037000499 : Int) * 3037000499 = 9223372030926249001 := by decide
  omega

/-- The root of a number from 0 on. -/
noncomputable def rt (n : Int) : Int := Classical.choose (root_exists n.toNat)
theorem rt_root {n : Int} (h : 0 ≤ n) : Root n (rt n) := by
  have t : Root (n.toNat : Int) (rt n) := Classical.choose_spec (root_exists n.toNat)
  rw [Int.toNat_of_nonneg h] at t; exact t
theorem rt_eq {n r : Int} (h : Root n r) : rt n = r := by
  have h0 : 0 ≤ n := by have := h.2.1; have := Int.mul_nonneg h.1 h.1; omega
  exact root_unique (rt_root h0) h
theorem rt_le {n : Int} (h : 0 ≤ n) (hn : n ≤ 9223372036854775807) : 0 ≤ rt n ∧ rt n ≤ 3037000499 := by
  obtain ⟨h0, h1, h2⟩ := rt_root h
  refine ⟨h0, ?_⟩
  apply Classical.byContradiction
  intro hc
  have h4 := sq_mono (a := 3037000500) (b := rt n) (by decide) (by omega)
  have h3 : (3037000500 : Int) * 3037000500 = 9223372037000250000 := by decide
  omega

theorem sqrt1_any (r n : Int) (b : Nat) (w : World) (h0 : 0 ≤ r) (h1 : r ≤ 3037000499) (hc : w.cell? ⟨b, 0, none⟩ = some (.int .i64 n)) :
    Calls Try.prog 26 #[.int .i64 r, .pointer (some ⟨b, 0, none⟩)] w fun e w' => e = .returned (.bool (decide (r * r ≤ n))) ∧ w = w' := by
  obtain ⟨q0, q1⟩ := sq_bd h0 h1
  go_enter Try.func26, Try.ntmps26
  go_wp2
  go_ret
  exact ⟨rfl, rfl⟩

theorem search_any (n : Int) (h0 : 0 ≤ n) (hn : n ≤ 9223372036854775807) (b : Nat) (w : World) (hc : w.cell? ⟨b, 0, none⟩ = some (.int .i64 n)) :
    Calls Try.prog 25 #[.int .i64 3037000499, .func (.func 26) #[] #[.pointer (some ⟨b, 0, none⟩)]] w fun e w' => e = .returned (.int .i64 (rt n)) ∧ w = w' := by
  have hr := rt_root h0
  have HR := Lib.hid hr; clear hr
  go_enter Try.func25, Try.ntmps25
  go_wp2
  go_loop [5, 6] (fun lo hi => ∃ l h : Int, lo = .int .i64 l ∧ hi = .int .i64 h ∧ 0 ≤ l ∧ l ≤ h ∧ h ≤ 3037000499 ∧ l ≤ rt n ∧ rt n ≤ h) (fun lo hi => (intOf hi - intOf lo).toNat)
  case atStart =>
    obtain ⟨r0, r1⟩ := rt_le h0 hn
    exact ⟨0, 3037000499, rfl, rfl, by omega, by omega, by omega, r0, r1⟩
  case round =>
    obtain ⟨l, h, rfl, rfl, hl0, hlh, hh, hlr, hrh⟩ := hrel
    by_cases hlt : l < h
    · by_cases hm : (l + (h - l + 1) / 2) * (l + (h - l + 1) / 2) ≤ n
      · have hd : decide ((l + (h - l + 1) / 2) * (l + (h - l + 1) / 2) ≤ n) = true := by simpa using hm
        have hmr : l + (h - l + 1) / 2 ≤ rt n := by
          apply Classical.byContradiction
          intro hcc
          have := sq_mono (a := rt n + 1) (b := l + (h - l + 1) / 2) (by omega) (by omega)
          have := HR.out.2.2; omega
        have HD := Lib.hid hd; have HM := Lib.hid hmr; clear hd hmr hm
        go_wp2_with (go_at_call 26; refine (sqrt1_any _ n b _ (by omega) (by omega) hc).mono ?_; rintro e w' ⟨rfl, rfl⟩; rw [HD.out])
        go_round
        case rel => exact ⟨l + (h - l + 1) / 2, h, rfl, rfl, by omega, by omega, hh, HM.out, hrh⟩
        case measure => simp [intOf]; omega
      · have hd : decide ((l + (h - l + 1) / 2) * (l + (h - l + 1) / 2) ≤ n) = false := by simpa using hm
        have hmr : rt n ≤ l + (h - l + 1) / 2 - 1 := by
          apply Classical.byContradiction
          intro hcc
          have := sq_mono (a := l + (h - l + 1) / 2) (b := rt n) (by omega) (by omega)
          have := HR.out.2.1; omega
        have HD := Lib.hid hd; have HM := Lib.hid hmr; clear hd hmr hm
        go_wp2_with (go_at_call 26; refine (sqrt1_any _ n b _ (by omega) (by omega) hc).mono ?_; rintro e w' ⟨rfl, rfl⟩; rw [HD.out])
        go_round
        case rel => exact ⟨l, l + (h - l + 1) / 2 - 1, rfl, rfl, by omega, by omega, by omega, hlr, HM.out⟩
        case measure => simp [intOf]; omega
    · go_wp2
      go_ret
      exact ⟨ret1 (by omega), rfl⟩

theorem sqrt_any (n : Int) (h0 : 0 ≤ n) (hn : n ≤ 9223372036854775807) (w : World) :
    Calls Try.prog 16 #[.int .i64 n] w fun e w' => e = .returned (.tuple #[.int .i64 (rt n), .int .i64 0]) ∧ Gr w w' := by
  go_enter Try.func16, Try.ntmps16
  go_wp2_with (go_at_call 25; refine (search_any n h0 hn _ _ (by simp [go_sem])).mono ?_; rintro e w' ⟨rfl, rfl⟩)
  go_ret2
  exact ⟨rfl, (Gr.refl _).alloc _⟩

theorem sqrt_neg (n : Int) (h0 : n < 0) (w : World) :
    Calls Try.prog 16 #[.int .i64 n] w fun e w' => e = .returned (.tuple #[.int .i64 0, .int .i64 1]) ∧ Gr w w' := by
  go_enter Try.func16, Try.ntmps16
  go_wp2
  go_ret2
  exact ⟨rfl, (Gr.refl _).alloc _⟩
end Wh
end Go.Proofs.Ytgfcbpofbckncaa
