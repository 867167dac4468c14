/- The reference's Own and Same of chapter 12: rows of triangles. -/
import Derived.Test.YtfpnkcmplmkghaaOr
import Derived.Test.YtfpnkcmplmkghaaEk
import Derived.Test.YtfpnkcmplmkghaaC0
import Derived.Test.YtfpnkcmplmkghaaCn
import Derived.WalkKit
import Derived.WalkSpells
import Derived.Deep.QuietTactic
import Derived.BigQuiet
import Derived.Lib.Hide
set_option linter.unusedVariables false
namespace Go.Proofs.Ytfpnkcmplmkghaa
open Go.RowKit
namespace Ho
theorem infoT : (Try.prog.info? 30).map (fun i => (i.zero, i.size, i.bytes)) = some (some (.agg #[.int .i64 0, .int .i64 0, .int .i64 0, .int .i64 0, .int .i64 0, .int .i64 0, .int .i64 0, .int .i64 0, .int .i64 0]), 9, 72) := by kernel_rfl
/-- The cells of rows, one behind the other. -/
def fl (zs : List (List Int)) : List Value := zs.flatMap fun z => z.map (Value.int .i64)
theorem fl_len : ∀ (zs : List (List Int)), (∀ z ∈ zs, z.length = 9) → (fl zs).length = zs.length * 9
  | [], _ => rfl
  | z :: zs, h => by
    have h1 := h z (by simp)
    have h2 := fl_len zs (fun y hy => h y (by simp [hy]))
    unfold fl at *
    simp only [List.flatMap_cons, List.length_append, List.length_map, List.length_cons, h1, h2]; omega
theorem fl_get : ∀ (zs : List (List Int)), (∀ z ∈ zs, z.length = 9) → ∀ i j, i < zs.length → j < 9 → (fl zs)[i * 9 + j]? = some (.int .i64 ((zs.getD i []).getD j 0))
  | [], _, i, j, hi, _ => by simp at hi
  | z :: zs, h, i, j, hi, hj => by
    have h1 := h z (by simp)
    have e : fl (z :: zs) = z.map (Value.int .i64) ++ fl zs := by simp [fl]
    rw [e]
    cases i with
    | zero =>
      rw [Nat.zero_mul, Nat.zero_add, List.getElem?_append_left (by simp; omega)]
      simp [List.getD, List.getElem?_eq_getElem (show j < z.length by omega)]
    | succ i =>
      rw [List.getElem?_append_right (by simp; omega)]
      have := fl_get zs (fun y hy => h y (by simp [hy])) i j (by simpa using hi) hj
      rw [show (i + 1) * 9 + j - (z.map (Value.int .i64)).length = i * 9 + j by simp; omega, this]
      rfl
theorem fl_one {zs : List (List Int)} : ∀ u ∈ fl zs, u.oneCell' = true := by
  intro u hu
  unfold fl at hu
  rw [List.mem_flatMap] at hu
  obtain ⟨z, _, hz⟩ := hu
  rw [List.mem_map] at hz
  obtain ⟨x, _, rfl⟩ := hz
  rfl
theorem rows_owned {w : World} {base n : Nat} {e : TypeId} {v : Value} {zs : List (List Int)} (h : w.ownsRow base e 9 v zs.length (fl zs)) (hl : zs.length ≤ 9223372036854775807) (hz : ∀ z ∈ zs, z.length = 9 ∧ ∀ x ∈ z, I x) :
    ∃ a cap, v = .slice a zs.length cap ∧ Oi.IsRows 9 w a zs.length zs := by
  have h' := h
  obtain ⟨h1, h2⟩ := h
  rcases h2 with ⟨hv, h0⟩ | ⟨g, cap, cur, hv, hrest⟩
  · have : zs = [] := List.eq_nil_of_length_eq_zero h0
    subst this
    exact ⟨none, 0, hv, Oi.IsRows.nil _ _ _⟩
  · refine ⟨some ⟨g, 0, none⟩, cap, hv, rfl, hl, hz, fun _ => ⟨_, _, rfl, fun i j hi hj => ?_⟩⟩
    have hc : ∀ j u, (fl zs)[j]? = some u → w.cell? ((⟨g, 0, none⟩ : Addr).add j) = some u := World.ownsRow.cells h' (by rw [hv]; rfl)
    have := hc (i * 9 + j) _ (fl_get zs (fun z hz' => (hz z hz').1) i j hi hj)
    rw [add_none] at this
    exact this
def Laid (len : Nat) (zs : List (List Int)) (w : World) (e : Ending) (w' : World) : Prop := ∃ a' cap', e = .returned (.slice a' len cap') ∧ Oi.IsRows 9 w' a' len zs ∧ Gr w w'
theorem own_any (a : Option Addr) (len cap : Nat) (zs : List (List Int)) (w : World) (hr : Oi.IsRows 9 w a len zs) (hn : a = none → cap = 0) (hl : len ≤ 1000000) :
    Calls Try.prog 17 #[.slice a len cap] w (Laid len zs w) := by
  obtain ⟨hz, hm, hwz, hr⟩ := hr
  obtain ⟨i0, hi, hz0, hz1, hz2⟩ := info_parts infoT
  by_cases h0 : len = 0
  · subst h0
    have : zs = [] := List.eq_nil_of_length_eq_zero hz
    subst this
    clear hr hwz hz
    cases a with
    | none =>
      have hcap := hn rfl
      subst hcap
      go_enter Try.func17, Try.ntmps17
      go_wp2
      go_ret
      exact ⟨none, 0, rfl, Oi.IsRows.nil _ _ _, Gr.refl _⟩
    | some x =>
      go_enter Try.func17, Try.ntmps17
      go_wp2_with (first
        | (at_builtin; refine wpList_append_own _ rfl _ _ 31 rfl w.heap.size 30 i0 (.agg #[.int .i64 0, .int .i64 0, .int .i64 0, .int .i64 0, .int .i64 0, .int .i64 0, .int .i64 0, .int .i64 0, .int .i64 0]) 9 72 Try.underlying31 hi hz0 hz1 hz2 rfl (by decide) _ 0 [] rfl (World.ownsRow_nil _ _ _ _) x 0 cap [] rfl ?c1 ?c2 ?c3 ?c4 ?c5 ?c6 ?_))
      case c1 => rfl
      case c2 => intro j u hj; simp at hj
      case c3 => intro u hu; simp at hu
      case c4 => unfold maxLen; omega
      case c5 => omega
      case c6 => exact Nat.le_refl _
      intro v' w1 hown hgrow _
      have hg : Gr w w1 := (Below.refl _ _).grown hgrow (Nat.le_refl _) (fun k hk => by simp [Value.ownBlock] at hk)
      obtain ⟨a', cap', rfl, hrow⟩ := rows_owned (n := 0) (zs := []) hown (by simp) (by simp)
      have HG := Lib.hid hg; have HR := Lib.hid hrow
      clear hg hrow hown hgrow
      go_wp2
      go_ret
      exact ⟨_, _, rfl, HR.out, HG.out⟩
  · obtain ⟨b, off, rfl, hcell⟩ := hr (by omega)
    clear hr hn
    have HC := Lib.hid hcell; clear hcell
    have HZ := Lib.hid hz; clear hz
    have HW := Lib.hid hwz; clear hwz
    go_enter Try.func17, Try.ntmps17
    go_wp2_with (first
      | (at_builtin; refine wpList_append_own _ rfl _ _ 31 rfl w.heap.size 30 i0 (.agg #[.int .i64 0, .int .i64 0, .int .i64 0, .int .i64 0, .int .i64 0, .int .i64 0, .int .i64 0, .int .i64 0, .int .i64 0]) 9 72 Try.underlying31 hi hz0 hz1 hz2 rfl (by decide) _ 0 [] rfl (World.ownsRow_nil _ _ _ _) ⟨b, off, none⟩ len cap (fl zs) rfl ?c1 ?c2 ?c3 ?c4 ?c5 ?c6 ?_))
    case c1 => rw [fl_len zs (fun z hz => (HW.out z hz).1), HZ.out]
    case c2 =>
      intro j u hj
      have hlt : j < len * 9 := by
        apply Classical.byContradiction; intro hc
        rw [List.getElem?_eq_none (by rw [fl_len zs (fun z hz => (HW.out z hz).1), HZ.out]; omega)] at hj; cases hj
      have hij : j = j / 9 * 9 + j % 9 := by omega
      have h1 := fl_get zs (fun z hz => (HW.out z hz).1) (j / 9) (j % 9) (by rw [HZ.out]; omega) (by omega)
      rw [← hij, hj] at h1
      have h2 := HC.out (j / 9) (j % 9) (by omega) (by omega)
      rw [← hij] at h2
      rw [add_none, h2, ← h1]
    case c3 => exact fl_one
    case c4 => unfold maxLen; omega
    case c5 => omega
    case c6 => exact Nat.le_refl _
    intro v' w1 hown hgrow _
    have hg : Gr w w1 := (Below.refl _ _).grown hgrow (Nat.le_refl _) (fun k hk => by simp [Value.ownBlock] at hk)
    obtain ⟨a', cap', rfl, hrow⟩ := rows_owned (n := 0) (zs := zs) (by rw [HZ.out]; simpa using hown) (by rw [HZ.out]; exact hm) HW.out
    have HG := Lib.hid hg; have HR := Lib.hid hrow
    clear hg hrow hown hgrow
    go_wp2
    go_ret
    exact ⟨a', cap', by rw [HZ.out]; rfl, by have h := HR.out; rw [HZ.out] at h; exact h, HG.out⟩
theorem eqItems_same {P : Program} {d : Nat} {e : TypeId} {c : Nat} {xs : Array Value} {w : World} : ∀ (is : List Nat), (∀ i ∈ is, ∃ a, (Go.part e xs (i * c)).run P w = .ok a w ∧ (Op.equalIn d e a a).run P w = .ok true w) → (Op.eqItems d e c xs xs is).run P w = .ok true w
  | [], _ => by simp [Op.eqItems]
  | i :: is, h => by
    obtain ⟨a, h1, h2⟩ := h i (by simp)
    have ih := eqItems_same is (fun j hj => h j (by simp [hj]))
    simp only [Op.eqItems, Sem.run_bind, h1, h2, Result.andThen_ok]
    simpa using ih
theorem eqI_same : ∀ l, Sx.eqI l l = true
  | [] => rfl
  | x :: l => by simp [Sx.eqI, eqI_same l]
theorem v3_same (w : World) (x y z : Int) : (Op.equalIn 9999 29 (.agg #[.int .i64 x, .int .i64 y, .int .i64 z]) (.agg #[.int .i64 x, .int .i64 y, .int .i64 z])).run Try.prog w = .ok true w := by
  have hu' : Try.prog.underlying 29 = some (.struct (Try.prog.fieldsOf 29)) := by unfold Program.fieldsOf; rw [Try.underlying29]
  have e := run_equalIn_struct (P := Try.prog) w 9998 29 #[.int .i64 x, .int .i64 y, .int .i64 z] #[.int .i64 x, .int .i64 y, .int .i64 z] hu' (by kernel_rfl)
  rw [e]
  have h := Sx.run_eqFields (P := Try.prog) (d := 9997) w (Try.prog.fieldsOf 29).toList 0 [x, y, z] [x, y, z] (by unfold Program.fieldsOf; rw [Try.underlying29]; exact ⟨by decide, Try.underlying3, rfl, by decide, Try.underlying3, rfl, by decide, Try.underlying3, rfl, trivial⟩) (by kernel_rfl) (by kernel_rfl)
  rw [List.drop_zero, eqI_same] at h
  exact h
theorem info3 : (Try.prog.info? 29).map (fun i => i.size) = some 3 := by kernel_rfl
theorem part3 (w : World) (x0 x1 x2 x3 x4 x5 x6 x7 x8 : Int) (i : Nat) (hi : i ∈ List.range 3) : ∃ x y z : Int,
    (Go.part 29 #[.int .i64 x0, .int .i64 x1, .int .i64 x2, .int .i64 x3, .int .i64 x4, .int .i64 x5, .int .i64 x6, .int .i64 x7, .int .i64 x8] (i * 3)).run Try.prog w = .ok (.agg #[.int .i64 x, .int .i64 y, .int .i64 z]) w := by
  have hs : (Go.sizeOf 29).run Try.prog w = .ok 3 w := by
    have := info3
    cases h : Try.prog.info? 29 with
    | none => rw [h] at this; cases this
    | some i => rw [h] at this; simp at this; simp [Go.sizeOf, typeInfo, program, Sem.run, h, this]
  have ha : (isAgg 29).run Try.prog w = .ok true w := by
    unfold isAgg; rw [Sem.run_bind, run_underlying Try.underlying29]; rfl
  unfold Go.part
  simp only [Sem.run_bind, ha, Result.andThen_ok, if_true, hs, Sem.run_pure]
  simp only [List.mem_range] at hi
  match i, hi with
  | 0, _ => exact ⟨x0, x1, x2, rfl⟩
  | 1, _ => exact ⟨x3, x4, x5, rfl⟩
  | 2, _ => exact ⟨x6, x7, x8, rfl⟩
theorem neq_same (w : World) (x y : Operand) (V : Array Value) (hV : ∃ x0 x1 x2 x3 x4 x5 x6 x7 x8 : Int, V = #[.int .i64 x0, .int .i64 x1, .int .i64 x2, .int .i64 x3, .int .i64 x4, .int .i64 x5, .int .i64 x6, .int .i64 x7, .int .i64 x8]) :
    (do eqGuard .neq 30 x y (.agg V) (.agg V); binOp .neq 30 (.agg V) (.agg V)).run Try.prog w = .ok (.bool false) w := by
  obtain ⟨x0, x1, x2, x3, x4, x5, x6, x7, x8, rfl⟩ := hV
  obtain ⟨i, hi⟩ : ∃ i, Try.prog.info? 29 = some i := by
    cases h : Try.prog.info? 29 with
    | none => have := info3; rw [h] at this; cases this
    | some i => exact ⟨i, rfl⟩
  rw [Sem.run_bind, run_eqGuard_agg w _ _ _ _ _ _ (by kernel_rfl), Result.andThen_ok, run_neq_struct, run_equalIn_array (P := Try.prog) (w := w) 9999 _ _ Try.underlying30 hi,
    show Try.prog.cellsOf 29 = 3 by kernel_rfl, eqItems_same _ (fun i hi => by
      obtain ⟨x, y, z, h⟩ := part3 w x0 x1 x2 x3 x4 x5 x6 x7 x8 i hi
      exact ⟨_, h, v3_same w x y z⟩)]
  rfl
theorem quiet_neq {P : Program} {o : Oper} {t yt : TypeId} {x y : Operand} (ho : o.op = .binOp .neq t x y yt) {a : Act} {C : World → Prop} {w : World} {v X Y : Value} (hx : a.eval x = X) (hy : a.eval y = Y)
    (h : (do eqGuard .neq t x y X Y; binOp .neq t X Y : Sem Value).run P w = .ok v w) : o.quietAt P a C w v := by
  have h2 : (execOp a.eval o).run P w = .ok (.value v) w := by
    obtain ⟨o1, o2, o3, o4, o5, o6⟩ := o
    simp only at ho
    subst ho
    subst hx
    subst hy
    exact Sx.run_v h
  unfold Oper.quietAt; rw [h2]; exact ⟨rfl, rfl⟩
set_option maxRecDepth 100000 in
set_option maxHeartbeats 4000000 in
theorem same_any (a a2 : Option Addr) (len cap cap2 : Nat) (zs : List (List Int)) (w : World) (hr : Oi.IsRows 9 w a len zs) (hr2 : Oi.IsRows 9 w a2 len zs) :
    Calls Try.prog 25 #[.slice a len cap, .slice a2 len cap2] w fun e w' => e = .returned (.bool true) ∧ Drew w w' := by
  obtain ⟨hz, hm, hwz, hr⟩ := hr
  obtain ⟨_, _, _, hr2⟩ := hr2
  by_cases h0 : len = 0
  · subst h0
    clear hr hr2 hz
    go_enter Try.func25, Try.ntmps25
    go_wp2
    go_loopw [5] (fun i wr => i = .int .i64 0 ∧ w = wr) (fun _ _ => 0)
    case atStart => exact ⟨rfl, rfl⟩
    case round =>
      obtain ⟨rfl, rfl⟩ := hrel
      go_wp2
      go_ret
      exact ⟨rfl, Drew.refl _⟩
  · obtain ⟨b, off, rfl, hcell⟩ := hr (by omega)
    obtain ⟨b2, off2, rfl, hcell2⟩ := hr2 (by omega)
    clear hr hr2
    have HC := Lib.hid hcell; clear hcell
    have HC2 := Lib.hid hcell2; clear hcell2
    have HZ := Lib.hid hz; clear hz
    have HW := Lib.hid hwz; clear hwz
    clear h0
    go_enter Try.func25, Try.ntmps25
    go_wp2
    go_loopw [5] (fun i wr => ∃ k : Nat, k ≤ len ∧ i = .int .i64 k ∧ Drew w wr) (fun i _ => len - (intOf i).toNat)
    case atStart => exact ⟨0, Nat.zero_le _, rfl, Drew.refl _⟩
    case round =>
      obtain ⟨k, hk, rfl, n, rfl⟩ := hrel
      by_cases hlt : k < len
      · have hc1 : ∀ j, j < 9 → w.cell? ⟨b, off + (k * 9 + j), none⟩ = some (.int .i64 ((zs.getD k []).getD j 0)) := fun j hj => HC.out k j hlt hj
        have hc2 : ∀ j, j < 9 → w.cell? ⟨b2, off2 + (k * 9 + j), none⟩ = some (.int .i64 ((zs.getD k []).getD j 0)) := fun j hj => HC2.out k j hlt hj
        have hz9 : (zs.getD k []).length = 9 := by
          rw [List.getD_eq_getElem?_getD, List.getElem?_eq_getElem (by rw [HZ.out]; exact hlt)]
          exact (HW.out _ (List.getElem_mem _)).1
        generalize zs.getD k [] = z at hz9 hc1 hc2
        obtain ⟨t0, l1, rfl, e1⟩ := Sx.cut1 hz9
        obtain ⟨t1, l2, rfl, e2⟩ := Sx.cut1 e1
        obtain ⟨t2, l3, rfl, e3⟩ := Sx.cut1 e2
        obtain ⟨t3, l4, rfl, e4⟩ := Sx.cut1 e3
        obtain ⟨t4, l5, rfl, e5⟩ := Sx.cut1 e4
        obtain ⟨t5, l6, rfl, e6⟩ := Sx.cut1 e5
        obtain ⟨t6, l7, rfl, e7⟩ := Sx.cut1 e6
        obtain ⟨t7, l8, rfl, e8⟩ := Sx.cut1 e7
        obtain ⟨t8, l9, rfl, e9⟩ := Sx.cut1 e8
        obtain rfl := Sx.cut0 e9
        clear hz9 e1 e2 e3 e4 e5 e6 e7 e8 e9
        have c0 : w.cell? ⟨b, off + k * 9, none⟩ = some (.int .i64 t0) := hc1 0 (by decide)
        have c1 : w.cell? ⟨b, off + k * 9 + 1, none⟩ = some (.int .i64 t1) := hc1 1 (by decide)
        have c2 : w.cell? ⟨b, off + k * 9 + 2, none⟩ = some (.int .i64 t2) := hc1 2 (by decide)
        have c3 : w.cell? ⟨b, off + k * 9 + 3, none⟩ = some (.int .i64 t3) := hc1 3 (by decide)
        have c4 : w.cell? ⟨b, off + k * 9 + 4, none⟩ = some (.int .i64 t4) := hc1 4 (by decide)
        have c5 : w.cell? ⟨b, off + k * 9 + 5, none⟩ = some (.int .i64 t5) := hc1 5 (by decide)
        have c6 : w.cell? ⟨b, off + k * 9 + 6, none⟩ = some (.int .i64 t6) := hc1 6 (by decide)
        have c7 : w.cell? ⟨b, off + k * 9 + 7, none⟩ = some (.int .i64 t7) := hc1 7 (by decide)
        have c8 : w.cell? ⟨b, off + k * 9 + 8, none⟩ = some (.int .i64 t8) := hc1 8 (by decide)
        have d0 : w.cell? ⟨b2, off2 + k * 9, none⟩ = some (.int .i64 t0) := hc2 0 (by decide)
        have d1 : w.cell? ⟨b2, off2 + k * 9 + 1, none⟩ = some (.int .i64 t1) := hc2 1 (by decide)
        have d2 : w.cell? ⟨b2, off2 + k * 9 + 2, none⟩ = some (.int .i64 t2) := hc2 2 (by decide)
        have d3 : w.cell? ⟨b2, off2 + k * 9 + 3, none⟩ = some (.int .i64 t3) := hc2 3 (by decide)
        have d4 : w.cell? ⟨b2, off2 + k * 9 + 4, none⟩ = some (.int .i64 t4) := hc2 4 (by decide)
        have d5 : w.cell? ⟨b2, off2 + k * 9 + 5, none⟩ = some (.int .i64 t5) := hc2 5 (by decide)
        have d6 : w.cell? ⟨b2, off2 + k * 9 + 6, none⟩ = some (.int .i64 t6) := hc2 6 (by decide)
        have d7 : w.cell? ⟨b2, off2 + k * 9 + 7, none⟩ = some (.int .i64 t7) := hc2 7 (by decide)
        have d8 : w.cell? ⟨b2, off2 + k * 9 + 8, none⟩ = some (.int .i64 t8) := hc2 8 (by decide)
        clear hc1 hc2
        go_wp2_with fail
        refine wp_region_quiet_lit (by kernel_rfl) (by kernel_rfl) ?_
        repeat (go_big_quiet_step (fail))
        go_big_quiet_want
        refine ⟨.bool false, fun w' hw' => ?_, ?_⟩
        · have h := neq_same w' (.tmp 20) (.tmp 24) #[.int .i64 t0, .int .i64 t1, .int .i64 t2, .int .i64 t3, .int .i64 t4, .int .i64 t5, .int .i64 t6, .int .i64 t7, .int .i64 t8] ⟨t0, t1, t2, t3, t4, t5, t6, t7, t8, rfl⟩
          exact quiet_neq rfl rfl rfl h
        go_big_quiet_on
        refine wpQuiet_nil ?_
        rintro _ ⟨n', rfl⟩
        go_wp2
        go_roundw
        case rel => exact ⟨k + 1, by omega, by go_num, _, rfl⟩
        case measure => simp [intOf]; omega
      · go_wp2
        go_ret
        exact ⟨rfl, n, rfl⟩
end Ho
end Go.Proofs.Ytfpnkcmplmkghaa
