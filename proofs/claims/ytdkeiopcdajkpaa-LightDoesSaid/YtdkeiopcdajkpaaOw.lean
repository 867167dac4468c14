/- The contracts of the reference's Own and Same: a row of ints is laid anew; two rows of the same ints are the same. -/
import Derived.Test.YtdkeiopcdajkpaaRows
import Derived.Test.YtdkeiopcdajkpaaCm
set_option linter.unusedVariables false
namespace Go.Proofs.Ytdkeiopcdajkpaa
open Go.RowKit
namespace Ow

theorem infoInt : (Try.prog.info? 3).map (fun i => (i.zero, i.size, i.bytes)) = some (some (.int .i64 0), 1, 8) := by kernel_rfl

def Laid (zs : List Int) (w : World) (e : Ending) (w' : World) : Prop :=
  ∃ a cap, e = .returned (.slice a zs.length cap) ∧ IsRow .i64 w' a zs.length zs ∧ Gr w w'

theorem own_any (a : Option Addr) (len cap : Nat) (zs : List Int) (w : World) (hr : IsRow .i64 w a len zs) (hn : a = none → cap = 0) (hl : len ≤ 1000000) :
    Calls Try.prog 25 #[.slice a len cap] w (Laid zs w) := by
  obtain ⟨hz, hm, hwz, hr⟩ := hr
  obtain ⟨i0, hi, hz0, hz1, hz2⟩ := info_parts infoInt
  by_cases h0 : len = 0
  · subst h0
    have : zs = [] := List.eq_nil_of_length_eq_zero hz
    subst this
    clear hr hwz hz
    cases a with
    | none =>
      have hcap := hn rfl
      subst hcap
      go_enter Try.func25, Try.ntmps25
      go_wp2
      go_ret
      exact ⟨none, 0, rfl, IsRow.nil _ _ _, Gr.refl _⟩
    | some x =>
      go_enter Try.func25, Try.ntmps25
      go_wp2_with (first
        | (at_builtin; refine wpList_append_own _ rfl _ _ 37 rfl w.heap.size 3 i0 (.int .i64 0) 1 8 Try.underlying37 hi hz0 hz1 hz2 rfl (by decide) _ 0 [] rfl (World.ownsRow_nil _ _ _ _) x 0 cap [] rfl ?c1 ?c2 ?c3 ?c4 ?c5 ?c6 ?_))
      case c1 => rfl
      case c2 => intro j u hj; simp at hj
      case c3 => intro u hu; simp at hu
      case c4 => unfold maxLen; omega
      case c5 => omega
      case c6 => exact Nat.le_refl _
      intro v' w1 hown hgrow _
      have hg : Gr w w1 := (Below.refl _ _).grown hgrow (Nat.le_refl _) (fun k hk => by simp [Value.ownBlock] at hk)
      obtain ⟨a', cap', rfl, hrow⟩ := row_owned (zs := []) hown (by simp) (by simp)
      have HG := Lib.hid hg; have HR := Lib.hid hrow
      clear hg hrow hown hgrow
      go_wp2
      go_ret
      exact ⟨_, _, rfl, HR.out, HG.out⟩
  · obtain ⟨b, off, rfl, hcell⟩ := hr (by omega)
    clear hr hn
    have HC := Lib.hid hcell; clear hcell
    have HZ := Lib.hid hz; clear hz
    go_enter Try.func25, Try.ntmps25
    go_wp2_with (first
      | (at_builtin; refine wpList_append_own _ rfl _ _ 37 rfl w.heap.size 3 i0 (.int .i64 0) 1 8 Try.underlying37 hi hz0 hz1 hz2 rfl (by decide) _ 0 [] rfl (World.ownsRow_nil _ _ _ _) ⟨b, off, none⟩ len cap (zs.map (Value.int .i64)) rfl ?c1 ?c2 ?c3 ?c4 ?c5 ?c6 ?_))
    case c1 => simpa using HZ.out
    case c2 =>
      intro j u hj
      rw [List.getElem?_map] at hj
      have hjl : j < zs.length := by
        apply Classical.byContradiction; intro hc
        rw [List.getElem?_eq_none (by omega)] at hj; simp at hj
      rw [List.getElem?_eq_getElem hjl] at hj
      simp at hj; subst hj
      rw [add_none, HC.out j (by rw [← HZ.out]; exact hjl)]
      simp [List.getD, List.getElem?_eq_getElem hjl]
    case c3 => intro u hu; simp at hu; obtain ⟨x, _, rfl⟩ := hu; rfl
    case c4 => unfold maxLen; omega
    case c5 => omega
    case c6 => exact Nat.le_refl _
    intro v' w1 hown hgrow _
    have hg : Gr w w1 := (Below.refl _ _).grown hgrow (Nat.le_refl _) (fun k hk => by simp [Value.ownBlock] at hk)
    obtain ⟨a', cap', rfl, hrow⟩ := row_owned (zs := zs) (by rw [HZ.out]; simpa using hown) (by rw [HZ.out]; exact hm) hwz
    have HG := Lib.hid hg; have HR := Lib.hid hrow
    clear hg hrow hown hgrow hwz
    go_wp2
    go_ret
    exact ⟨a', cap', rfl, HR.out, HG.out⟩

theorem same_any (a a2 : Option Addr) (len cap cap2 : Nat) (zs : List Int) (w : World) (hr : IsRow .i64 w a len zs) (hr2 : IsRow .i64 w a2 len zs) :
    Calls Try.prog 35 #[.slice a len cap, .slice a2 len cap2] w fun e w' => e = .returned (.bool true) ∧ Drew w w' := by
  obtain ⟨hz, hm, hwz, hr⟩ := hr
  obtain ⟨_, _, _, hr2⟩ := hr2
  clear hwz
  by_cases h0 : len = 0
  · subst h0
    clear hr hr2 hz
    go_enter Try.func35, Try.ntmps35
    go_wp2
    go_loopw [5] (fun i wr => i = .int .i64 0 ∧ w = wr) (fun _ _ => 0)
    case atStart => exact ⟨rfl, rfl⟩
    case round =>
      obtain ⟨rfl, rfl⟩ := hrel
      go_wp2
      go_ret
      exact ⟨rfl, Drew.refl _⟩
  · obtain ⟨b, off, rfl, hcell⟩ := hr (by omega)
    obtain ⟨b2, off2, rfl, hcell2⟩ := hr2 (by omega)
    clear hr hr2
    have HC := Lib.hid hcell; clear hcell
    have HC2 := Lib.hid hcell2; clear hcell2
    have HZ := Lib.hid hz; clear hz
    clear h0
    go_enter Try.func35, Try.ntmps35
    go_wp2
    go_loopw [5] (fun i wr => ∃ k : Nat, k ≤ len ∧ i = .int .i64 k ∧ Drew w wr) (fun i _ => len - (intOf i).toNat)
    case atStart => exact ⟨0, Nat.zero_le _, rfl, Drew.refl _⟩
    case round =>
      obtain ⟨k, hk, rfl, n, rfl⟩ := hrel
      by_cases hlt : k < len
      · have hc1 := HC.out k hlt
        have hc2 := HC2.out k hlt
        generalize zs.getD k 0 = z at hc1 hc2
        go_wp2
        go_quiet (fail)
        go_wp2
        go_roundw
        case rel => exact ⟨k + 1, by omega, by go_num, _, rfl⟩
        case measure => simp [intOf]; omega
      · go_wp2
        go_ret
        exact ⟨rfl, n, rfl⟩
end Ow
end Go.Proofs.Ytdkeiopcdajkpaa
