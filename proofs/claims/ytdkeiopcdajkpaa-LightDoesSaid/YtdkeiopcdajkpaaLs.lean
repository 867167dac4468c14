/- The contracts of light.Sum and the reference's: rows of ints. -/
import Derived.Test.YtdkeiopcdajkpaaOw
import Derived.Lib.Hide
import Derived.WalkKit
import Derived.WalkSpells
set_option linter.unusedVariables false
namespace Go.Proofs.Ytdkeiopcdajkpaa
open Go.RowKit
namespace Ls

def st (n x : Int) : Int := min (n + min (max x 0) 255) 255
def sm (zs : List Int) : Int := zs.foldl st 0
theorem sm_take_succ (zs : List Int) (k : Nat) (h : k < zs.length) : sm (zs.take (k + 1)) = st (sm (zs.take k)) (zs.getD k 0) := by
  unfold sm
  rw [List.take_succ_eq_append_getElem h, List.foldl_append]
  simp [List.getD, List.getElem?_eq_getElem h]
theorem sm_bd0 : ∀ (zs : List Int) (n : Int), 0 ≤ n ∧ n ≤ 255 → 0 ≤ zs.foldl st n ∧ zs.foldl st n ≤ 255
  | [], n, h => h
  | x :: l, n, h => sm_bd0 l _ (by unfold st; omega)
theorem sm_bd (zs : List Int) : 0 ≤ sm zs ∧ sm zs ≤ 255 := sm_bd0 zs 0 ⟨by decide, by decide⟩
theorem vi {x y : Int} (h : x = y) : Value.int .i64 x = .int .i64 y := by rw [h]

theorem sum_any (a : Option Addr) (len cap : Nat) (zs : List Int) (w : World) (hr : IsRow .i64 w a len zs) :
    Calls Try.prog 33 #[.slice a len cap] w fun e w' => e = .returned (.int .i64 (sm zs)) ∧ w = w' := by
  obtain ⟨hz, hm, hwz, hr⟩ := hr
  by_cases h0 : len = 0
  · subst h0
    have : zs = [] := List.eq_nil_of_length_eq_zero hz
    subst this
    clear hr hwz hz
    go_enter Try.func33, Try.ntmps33
    go_wp2
    go_loopw [3, 8] (fun g i wr => i = .int .i64 0 ∧ g = .int .i64 0 ∧ w = wr) (fun _ i _ => 0)
    case atStart => exact ⟨rfl, rfl, rfl⟩
    case round =>
      obtain ⟨rfl, rfl, rfl⟩ := hrel
      go_wp2
      go_ret
      exact ⟨rfl, rfl⟩
  · obtain ⟨b, off, rfl, hcell⟩ := hr (by omega)
    clear hr
    have HZ := Lib.hid hz; have HC := Lib.hid hcell; have HW := Lib.hid hwz; clear hcell hwz
    clear hz h0
    go_enter Try.func33, Try.ntmps33
    go_wp2
    go_loopw [3, 8] (fun g i wr => ∃ k : Nat, k ≤ len ∧ i = .int .i64 k ∧ g = .int .i64 (sm (zs.take k)) ∧ w = wr) (fun _ i _ => len - (intOf i).toNat)
    case atStart => exact ⟨0, Nat.zero_le _, rfl, rfl, rfl⟩
    case round =>
      obtain ⟨k, hk, rfl, rfl, rfl⟩ := hrel
      by_cases hlt : k < len
      · have hkl : k < zs.length := by rw [HZ.out]; omega
        have hkc : w.cell? ⟨b, off + k, none⟩ = some (.int .i64 (zs.getD k 0)) := HC.out k hlt
        have hg1 := sm_bd (zs.take k)
        have hg2 := sm_take_succ zs k hkl
        generalize zs.getD k 0 = z at hkc hg2
        have HG2 := Lib.hid hg2; clear hg2
        clear hkl
        generalize sm (zs.take k) = G at hg1 HG2
        obtain ⟨g0, g1⟩ := hg1
        go_wp2
        all_goals
          go_roundw
          case rel => exact ⟨k + 1, by omega, by go_num, vi (by rw [HG2.out]; unfold st; omega), by first | rfl | trivial⟩
          case measure => simp [intOf]; omega
      · have hkl : k = len := by omega
        subst hkl
        rw [List.take_of_length_le (Nat.le_of_eq HZ.out)]
        go_wp2
        go_ret
        exact ⟨rfl, rfl⟩
theorem rsum_any (a : Option Addr) (len cap : Nat) (zs : List Int) (w : World) (hr : IsRow .i64 w a len zs) :
    Calls Try.prog 34 #[.slice a len cap] w fun e w' => e = .returned (.int .i64 (sm zs)) ∧ w = w' := by
  obtain ⟨hz, hm, hwz, hr⟩ := hr
  by_cases h0 : len = 0
  · subst h0
    have : zs = [] := List.eq_nil_of_length_eq_zero hz
    subst this
    clear hr hwz hz
    go_enter Try.func34, Try.ntmps34
    go_wp2
    go_loopw [3, 4] (fun g i wr => i = .int .i64 0 ∧ g = .int .i64 255 ∧ w = wr) (fun _ i _ => 0)
    case atStart => exact ⟨rfl, rfl, rfl⟩
    case round =>
      obtain ⟨rfl, rfl, rfl⟩ := hrel
      go_wp2
      go_ret
      exact ⟨rfl, rfl⟩
  · obtain ⟨b, off, rfl, hcell⟩ := hr (by omega)
    clear hr
    have HZ := Lib.hid hz; have HC := Lib.hid hcell; have HW := Lib.hid hwz; clear hcell hwz
    clear hz h0
    go_enter Try.func34, Try.ntmps34
    go_wp2
    go_loopw [3, 4] (fun g i wr => ∃ k : Nat, k ≤ len ∧ i = .int .i64 k ∧ g = .int .i64 (255 - sm (zs.take k)) ∧ w = wr) (fun _ i _ => len - (intOf i).toNat)
    case atStart => exact ⟨0, Nat.zero_le _, rfl, rfl, rfl⟩
    case round =>
      obtain ⟨k, hk, rfl, rfl, rfl⟩ := hrel
      by_cases hlt : k < len
      · have hkl : k < zs.length := by rw [HZ.out]; omega
        have hkc : w.cell? ⟨b, off + k, none⟩ = some (.int .i64 (zs.getD k 0)) := HC.out k hlt
        have hg1 := sm_bd (zs.take k)
        have hg2 := sm_take_succ zs k hkl
        generalize zs.getD k 0 = z at hkc hg2
        have HG2 := Lib.hid hg2; clear hg2
        clear hkl
        generalize sm (zs.take k) = G at hg1 HG2
        obtain ⟨g0, g1⟩ := hg1
        by_cases hz : 0 < z
        · go_wp2
          all_goals
            go_roundw
            case rel => exact ⟨k + 1, by omega, by go_num, vi (by rw [HG2.out]; unfold st; omega), by first | rfl | trivial⟩
            case measure => simp [intOf]; omega
        · go_wp2
          all_goals
            go_roundw
            case rel => exact ⟨k + 1, by omega, by go_num, vi (by rw [HG2.out]; unfold st; omega), by first | rfl | trivial⟩
            case measure => simp [intOf]; omega
      · have hkl : k = len := by omega
        subst hkl
        rw [List.take_of_length_le (Nat.le_of_eq HZ.out)]
        have hb := sm_bd zs
        obtain ⟨b0, b1⟩ := hb
        go_wp2
        go_ret
        exact ⟨congrArg (fun x => Ending.returned (Value.int .i64 x)) (by omega), rfl⟩
end Ls
end Go.Proofs.Ytdkeiopcdajkpaa
