/- Numbers in digits: digit, trim, walked. -/
import Derived.Test.YtfpnkcmplmkghaaBg
import Derived.Test.YtfpnkcmplmkghaaAp
import Derived.Test.YtfpnkcmplmkghaaCn
import Derived.Test.YtfpnkcmplmkghaaC0
import Derived.WalkKit
import Derived.WalkSpells
import Derived.Deep.QuietTactic
import Derived.BigQuiet
import Derived.Lib.Hide
set_option linter.unusedVariables false
set_option linter.unusedSimpArgs false
namespace Go.Proofs.Ytfpnkcmplmkghaa
open Go.RowKit
namespace Bg
theorem digit_any (b : Bool) (a : Option Addr) (len cap : Nat) (zs : List Int) (i : Nat) (w : World) (hr : IsRow .i64 w a len zs) (hi : (i : Int) ≤ 9223372036854775807) :
    Calls Try.prog 131 #[NumV b a len cap, .int .i64 i] w fun e w' => e = .returned (.int .i64 (zs.getD i 0)) ∧ Gr w w' := by
  obtain ⟨hz, hm, hwz, hr⟩ := hr
  unfold NumV
  by_cases hlt : i < len
  · obtain ⟨bk, off, rfl, hcell⟩ := hr (by omega)
    have hc := hcell i hlt
    have lt := lt_of_cell hc
    have ne : ¬ bk = w.heap.size := by simp only at lt; omega
    clear hcell hr hwz
    generalize zs.getD i 0 = z at *
    go_enter Try.func131, Try.ntmps131
    go_wp2
    go_ret
    exact ⟨rfl, (Gr.refl w).alloc _⟩
  · have e : zs.getD i 0 = 0 := by simp [List.getD, List.getElem?_eq_none (show zs.length ≤ i by omega)]
    rw [e]
    clear hr hwz e
    go_enter Try.func131, Try.ntmps131
    go_wp2
    go_ret
    exact ⟨rfl, (Gr.refl w).alloc _⟩
theorem results_blk {P : Program} {fn : Func} {q : Tmp} {ty : TypeId} (h : fn.results = #[.cell q ty]) {tmps : Array Value} {w : World} {b : Nat} {vs : List Value} {ti : Sx.TI} (ht : Sx.TyOk P ty ti) (ha : ti.agg = true)
    (hp : tmps.getD q undef = .pointer (some ⟨b, 0, none⟩)) (hb : Blk w b vs) (hl : vs.length = ti.size) : (results fn tmps).run P w = .ok (.agg vs.toArray) w := by
  have h1 : (loadVar ty ⟨b, 0, none⟩).run P w = .ok (.agg vs.toArray) w := by
    unfold loadVar
    have := run_loadCells_list (P := P) w ⟨b, 0, none⟩ vs (fun j v hj => by rw [add_none, Nat.zero_add]; exact hb.cell j hj)
    rw [hl] at this
    simp [Sem.run_bind, ht.isAgg', ha, ht.size, this]
  simp only [results, h]
  have hp2 : tmps[q]?.getD undef = .pointer (some ⟨b, 0, none⟩) := by rw [← hp]; simp
  simp [Sem.run_bind, hp2, asAddr, h1, Result.andThen]
set_option maxHeartbeats 1000000 in
theorem trim_any (b : Bool) (a : Option Addr) (len cap : Nat) (zs : List Int) (w : World) (hr : IsRow .i64 w a len zs) (hd : Dg zs) (hcap : len ≤ cap) (hn : a = none → cap = 0) :
    Calls Try.prog 109 #[.bool b, .slice a len cap] w fun e w' => ∃ n, n ≤ len ∧ e = .returned (NumV (b && decide (0 < n)) a n cap) ∧ Canon (zs.take n) ∧ val (zs.take n) = val zs ∧ Gr w w' := by
  obtain ⟨hz, hm, hwz, hr⟩ := hr
  have HR := Lib.hid hr; have HD := Lib.hid hd; have HZ := Lib.hid hz; have HN := Lib.hid hn
  clear hr hd hz hwz hn
  go_enter Try.func109, Try.ntmps109
  go_wp2_with fail
  go_loopw [5] (fun v5 wr => ∃ n : Nat, n ≤ len ∧ v5 = .int .i64 n ∧ (∀ d ∈ zs.drop n, d = 0) ∧ wr = w.alloc (.cells #[.bool false, .slice none 0 0] 88)) (fun v _ => (intOf v).toNat)
  case atStart => exact ⟨len, Nat.le_refl _, rfl, fun d h => by rw [List.drop_eq_nil_of_le (by rw [HZ.out]; exact Nat.le_refl _)] at h; simp at h, rfl⟩
  case round =>
    obtain ⟨n, hn, rfl, hzr, rfl⟩ := hrel
    have fin : (n = 0 ∨ zs.getD (n - 1) 0 ≠ 0) → Canon (zs.take n) ∧ val (zs.take n) = val zs := fun h => canon_take HD.out (by rw [HZ.out]; exact hn) hzr h
    cases n with
    | zero =>
      have hf := fin (.inl rfl)
      have HF := Lib.hid hf; clear fin hf hzr
      have hb : Blk ((w.alloc (.cells #[.bool false, .slice none 0 0] 88))) w.heap.size [.bool false, .slice none 0 0] := Blk.new (vs := [.bool false, .slice none 0 0]) rfl
      cases b <;> cases a
      all_goals
        go_wp2
        refine ⟨rfl, _, results_blk rfl Sx.ty88 rfl rfl (Blk.new (vs := [.bool false, .slice _ 0 cap]) rfl) rfl, ?_⟩
        exact ⟨0, hn, rfl, HF.out.1, HF.out.2, (Gr.refl w).alloc _⟩
    | succ k =>
      obtain ⟨bk, off, rfl, hcell⟩ := HR.out (by omega)
      have hc := hcell k (by omega)
      have lt := lt_of_cell hc
      have ne : ¬ bk = w.heap.size := by simp only at lt; omega
      clear hcell
      by_cases hz0 : zs.getD k 0 = 0
      · rw [hz0] at hc
        have hzr2 := drop_zero (by rw [HZ.out]; omega) hzr hz0
        have HZ2 := Lib.hid hzr2
        clear fin hzr hz0 hzr2
        go_wp2
        go_roundw
        case rel => exact ⟨k, by omega, by go_num, HZ2.out, trivial⟩
        case measure => simp [intOf]
      · have hf := fin (.inr (by simpa using hz0))
        have HF := Lib.hid hf; clear fin hf hzr
        have hz1 : (zs.getD k 0 == 0) = false := by simpa using hz0
        clear hz0
        generalize zs.getD k 0 = z at *
        cases b
        all_goals
          go_wp2
          refine ⟨rfl, _, results_blk rfl Sx.ty88 rfl rfl (Blk.new (vs := [.bool _, .slice _ (k + 1) cap]) rfl) rfl, ?_⟩
          exact ⟨k + 1, hn, by unfold NumV; simp, HF.out.1, HF.out.2, (Gr.refl w).alloc _⟩
end Bg
end Go.Proofs.Ytfpnkcmplmkghaa
