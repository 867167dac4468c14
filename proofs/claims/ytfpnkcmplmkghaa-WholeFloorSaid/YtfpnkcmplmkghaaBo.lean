/- Numbers in digits: that of an int, walked. -/
import Derived.Test.YtfpnkcmplmkghaaBn
set_option linter.unusedVariables false
set_option linter.unusedSimpArgs false
namespace Go.Proofs.Ytfpnkcmplmkghaa
open Go.RowKit
namespace Bg
theorem p10_lt {a b : Nat} (h : p10 a < p10 b) : a < b := by
  apply Classical.byContradiction; intro hn
  have := p10_mono (show b ≤ a by omega); omega
theorem infoInt : (Try.prog.info? 3).map (fun i => (i.zero, i.size, i.bytes)) = some (some (.int .i64 0), 1, 8) := by kernel_rfl
theorem owned_row {w : World} {base : Nat} {e : TypeId} {v : Value} {zs : List Int} (h : w.ownsRow base e 1 v zs.length (zs.map (Value.int .i64))) (hl : zs.length ≤ 9223372036854775807) (hw : ∀ n ∈ zs, (Lit.int .i64 n).wf = true) :
    ∃ a cap, v = .slice a zs.length cap ∧ IsRow .i64 w a zs.length zs ∧ zs.length ≤ cap ∧ (a = none → cap = 0) ∧ (∀ ad, a = some ad → base ≤ ad.block) := by
  obtain ⟨a, cap, hv, hr⟩ := row_owned h hl hw
  obtain ⟨h1, h2⟩ := h
  rcases h2 with ⟨hv2, h0⟩ | ⟨g, cap2, cur, hv2, hg, hh, hn, hc, hs, ht⟩
  · rw [hv] at hv2
    simp only [Value.slice.injEq] at hv2
    obtain ⟨rfl, q1, rfl⟩ := hv2
    exact ⟨none, 0, hv, hr, by omega, fun _ => rfl, fun ad h => by cases h⟩
  · have hv3 := hv2
    rw [hv] at hv2
    simp only [Value.slice.injEq] at hv2
    obtain ⟨rfl, q1, rfl⟩ := hv2
    exact ⟨_, _, hv, hr, hn, (fun h => by cases h), (fun ad h => by cases h; exact hg)⟩
theorem IsRow.cut {w : World} {a : Option Addr} {len : Nat} {zs : List Int} (h : IsRow .i64 w a len zs) {k : Nat} (hk : k ≤ len) : IsRow .i64 w a k (zs.take k) := by
  obtain ⟨h1, h2, h3, h4⟩ := h
  refine ⟨by rw [List.length_take]; omega, by omega, fun n hn => h3 n (List.mem_of_mem_take hn), fun h0 => ?_⟩
  obtain ⟨b, off, e, hc⟩ := h4 (by omega)
  refine ⟨b, off, e, fun i hi => ?_⟩
  rw [hc i (by omega)]
  simp [List.getD, List.getElem?_take_of_lt hi]
theorem IsRow.set {w : World} {a : Option Addr} {len : Nat} {zs : List Int} (h : IsRow .i64 w a len zs) {p : Addr} (hp : ∀ ad, a = some ad → 0 < len → ad.block ≠ p.block) (x : Value) : IsRow .i64 (w.setCell p x) a len zs := by
  obtain ⟨h1, h2, h3, h4⟩ := h
  refine ⟨h1, h2, h3, fun h0 => ?_⟩
  obtain ⟨b, off, e, hc⟩ := h4 h0
  subst e
  refine ⟨b, off, rfl, fun i hi => ?_⟩
  rw [World.cell?_setCell_other (h := fun e => hp _ rfl h0 (by rw [e]))]
  exact hc i hi
theorem IsNum.set {w : World} {b : Bool} {a : Option Addr} {len cap : Nat} {m : Int} (h : IsNum w (NumV b a len cap) m) {p : Addr} (hp : ∀ ad, a = some ad → 0 < len → ad.block ≠ p.block) (x : Value) : IsNum (w.setCell p x) (NumV b a len cap) m := by
  obtain ⟨a', len', cap', zs, h1, h2, h3, h4, h5⟩ := h
  unfold NumV at h1
  simp only [Value.agg.injEq, Array.mk.injEq, List.cons.injEq, Value.slice.injEq, Value.bool.injEq] at h1
  obtain ⟨rfl, ⟨rfl, rfl, rfl⟩, _⟩ := h1
  exact ⟨a, len, cap, zs, rfl, IsRow.set h2 hp x, h3, h4, h5⟩
/-- What 'trim' hands back is a number. -/
theorem num_of {w : World} {a : Option Addr} {len cap k : Nat} {ds : List Int} {b : Bool} {n : Int} (hr : IsRow .i64 w a len ds) (hk : k ≤ len) (hc : Canon (ds.take k)) (hv : val (ds.take k) = (n.natAbs : Int)) (hb : n ≠ 0 → b = decide (n < 0)) (hcap : len ≤ cap) (hnone : a = none → cap = 0) :
    IsNum w (NumV (b && decide (0 < k)) a k cap) n := by
  refine ⟨a, k, cap, ds.take k, ?_, IsRow.cut hr hk, hc, hv, by omega, hnone⟩
  congr 1
  by_cases hn : n = 0
  · subst hn
    have : k = 0 := by
      apply Classical.byContradiction; intro hne
      have hp := hc.pos (by intro e; have := congrArg List.length e; rw [List.length_take, hr.1] at this; simp at this; omega)
      rw [hv] at hp; simp at hp
    subst this; simp
  · have hk0 : 0 < k := by
      apply Classical.byContradiction; intro hne
      have : k = 0 := by omega
      subst this
      simp [val] at hv; omega
    rw [hb hn]; simp [hk0]
/-- One digit more. -/
theorem step_int {n m : Int} {ds : List Int} (h : val ds + p10 ds.length * (m.natAbs : Int) = (n.natAbs : Int)) : val (ds ++ [((m.natAbs % 10 : Nat) : Int)]) + p10 (ds ++ [((m.natAbs % 10 : Nat) : Int)]).length * ((m.tdiv 10).natAbs : Int) = (n.natAbs : Int) := by
  rw [val_snoc, List.length_append, List.length_singleton]
  have e : (m.tdiv 10).natAbs = m.natAbs / 10 := Int.natAbs_tdiv m 10
  rw [e, ← h]
  have e2 : (m.natAbs : Int) = ((m.natAbs % 10 : Nat) : Int) + 10 * ((m.natAbs / 10 : Nat) : Int) := by omega
  generalize ((m.natAbs % 10 : Nat) : Int) = r at *
  generalize ((m.natAbs / 10 : Nat) : Int) = q at *
  rw [e2]
  simp only [p10]
  grind
set_option maxHeartbeats 4000000 in
set_option maxRecDepth 100000 in
theorem ofInt_any (n : Int) (hn : I n) (w : World) : Calls Try.prog 72 #[.int .i64 n] w fun e w' => (∃ v, e = .returned v ∧ IsNum w' v n) ∧ Gr w w' := by
  obtain ⟨i0, hi, hz0', hz1, hz2⟩ := info_parts infoInt
  have HI := Lib.hid hn; clear hn
  go_enter Try.func72, Try.ntmps72
  go_wp2_with fail
  go_loopw [0, 3, 5] (fun v0 v3 v5 wr => ∃ (m : Int) (ds : List Int), v0 = .int .i64 m ∧ (0 ≤ n → 0 ≤ m) ∧ (n ≤ 0 → m ≤ 0) ∧ Dg ds ∧ ds.length ≤ 19 ∧ val ds + p10 ds.length * (m.natAbs : Int) = (n.natAbs : Int) ∧ wr.ownsRow (w.heap.size + 1) 3 1 v3 ds.length (ds.map (Value.int .i64)) ∧
      Gr (w.alloc (.cells #[.bool false, .slice none 0 0] 88)) wr) (fun v _ _ _ => (intOf v).natAbs)
  case atStart => exact ⟨n, [], rfl, id, id, Dg.nil, by simp, by simp [val, p10], World.ownsRow_nil _ _ _ _, Gr.refl _⟩
  case round =>
    obtain ⟨m, ds, rfl, h1, h2, hd, hl19, hv, hown, hg⟩ := hrel
    have hmI : I m := by
      have := HI.out
      have hp := p10_pos ds.length
      have hvn := val_nn hd
      have hle : (m.natAbs : Int) ≤ (n.natAbs : Int) := by
        have : 1 * (m.natAbs : Int) ≤ p10 ds.length * (m.natAbs : Int) := Int.mul_le_mul_of_nonneg_right (by omega) (by omega)
        omega
      unfold I at *; omega
    have hlen : m ≠ 0 → ds.length < 19 := fun hne => by
      have hvn := val_nn hd
      have hq : p10 ds.length * 1 ≤ p10 ds.length * (m.natAbs : Int) := Int.mul_le_mul_of_nonneg_left (by omega) (by have := p10_pos ds.length; omega)
      refine p10_lt ?_
      have := HI.out; unfold I at this
      have e : p10 19 = 10000000000000000000 := by decide
      omega
    have HD := Lib.hid hd; have HV := Lib.hid hv; have HOW := Lib.hid hown; have HG := Lib.hid hg
    by_cases hm0 : m = 0
    · subst hm0
      have hv0 : val ds = (n.natAbs : Int) := by simpa using hv
      clear hv hown hg hd hlen hmI h1 h2
      obtain ⟨a, cap, rfl, hrow, hcap, hnone, hbl⟩ := owned_row HOW.out (by omega) (wf_dg HD.out)
      have HBL := Lib.hid hbl; clear hbl
      have HR := Lib.hid hrow; have HV0 := Lib.hid hv0
      clear hrow hv0
      go_wp2_with fail
      refine (trim_any _ _ _ _ ds _ HR.out HD.out hcap hnone).mono ?_; rintro e w2 ⟨k, hk, rfl, hc, hvk, hg2⟩
      have hB : Blk w2 w.heap.size [.bool false, .slice none 0 0] := ((Blk.new (w := w) (vs := [.bool false, .slice none 0 0]) (T := 88) rfl).gr HG.out).gr hg2
      have hN : IsNum w2 (NumV (decide (n < 0) && decide (0 < k)) a k cap) n := num_of (HR.out.later hg2) hk hc (hvk.trans HV0.out) (fun _ => rfl) hcap hnone
      have hG : Gr w w2 := (((Gr.refl w).alloc _).trans HG.out).trans hg2
      have c0 := hB.cell 0 rfl; have c1 := hB.cell 1 rfl; have f0 := hB.free 0 rfl; have f1 := hB.free 1 rfl
      have HB := Lib.hid hB; have HN := Lib.hid hN; have HGG := Lib.hid hG
      clear hB hN hG hc hvk hg2 HOW HG HV HD HR HV0
      unfold NumV at *
      generalize (decide (n < 0) && decide (0 < k)) = bb at *
      go_wp2_with fail
      refine ⟨rfl, _, results_blk rfl Sx.ty88 rfl rfl (HB.out.set2 _ _) rfl, ⟨_, rfl, ?_⟩, ?_⟩
      · exact IsNum.set (IsNum.set HN.out (fun ad h _ => by have := HBL.out ad h; simp; omega) _) (fun ad h _ => by have := HBL.out ad h; simp; omega) _
      · exact (HGG.out.setCell (p := ⟨w.heap.size, 0, none⟩) (Nat.le_refl _) _).setCell (p := ⟨w.heap.size, 1, none⟩) (Nat.le_refl _) _
    · have ht1 : (m.tdiv 10).natAbs < m.natAbs := by rw [Int.natAbs_tdiv]; exact Nat.div_lt_self (by omega) (by decide)
      have hr : ((m.tmod 10).natAbs : Int) = ((m.natAbs % 10 : Nat) : Int) := by rw [Int.natAbs_tmod]; rfl
      have hq1 : 0 ≤ n → 0 ≤ m.tdiv 10 := fun h => Int.tdiv_nonneg (h1 h) (by omega)
      have hq2 : n ≤ 0 → m.tdiv 10 ≤ 0 := fun h => by have := Int.tdiv_nonneg (a := -m) (b := 10) (by have := h2 h; omega) (by omega); rw [Int.neg_tdiv] at this; omega
      have hlen2 := hlen hm0
      have hqI : I (m.tdiv 10) := by unfold I at *; omega
      have hw64 : wrap64 (m.tdiv 10) = m.tdiv 10 := IntWalk.wrap64_in _ hqI
      have HW := Lib.hid hw64
      have hst := step_int hv
      rw [← hr] at hst
      have HST := Lib.hid hst
      have hbt : -9 ≤ m.tmod 10 ∧ m.tmod 10 ≤ 9 := by omega
      clear hv hown hg hd hlen hst hqI hw64
      by_cases hlt : m.tmod 10 < 0
      · go_wp2_with (first
          | (at_builtin; refine wpList_append_own _ rfl (.tmp 16) (.tmp 18) 86 rfl (w.heap.size + 1) 3 i0 (.int .i64 0) 1 8 Try.underlying86 hi hz0' hz1 hz2 rfl (by decide) _ _ _ rfl (HOW.out.alloc _) ⟨wr.heap.size, 0, none⟩ 1 1 [_] rfl rfl (by exact one_new _ _ _) ?c3 ?c4 ?c5 ?c6 ?_))
        case c3 => first | (intro u hu; simp at hu; subst hu; rfl) | rfl
        case c4 => unfold maxLen; omega
        case c5 => omega
        case c6 => have := HG.out.size; simp at this; simp; omega
        intro v' w1 hown1 hgrow _
        have hg1 : Gr (w.alloc (.cells #[.bool false, .slice none 0 0] 88)) w1 := Below.grown (HG.out.alloc _) hgrow (HG.out.alloc _).size (fun k hk => by have := (HOW.out.lt k hk).1; simp; omega)
        have HO1 := Lib.hid hown1; have HG1 := Lib.hid hg1
        clear hown1 hgrow hg1 HOW HG
        go_wp2
        have hw64 := HW.out
        go_roundw
        case rel => exact ⟨m.tdiv 10, ds ++ [-(m.tmod 10)], by rw [hw64], hq1, hq2, HD.out.append (Dg.one (by omega)), by simp; omega, by have h := HST.out; rw [show ((m.tmod 10).natAbs : Int) = -(m.tmod 10) by omega] at h; exact h, by simpa using HO1.out, HG1.out⟩
        case measure => simpa [intOf, hw64] using ht1
      · go_wp2_with (first
          | (at_builtin; refine wpList_append_own _ rfl (.tmp 16) (.tmp 18) 86 rfl (w.heap.size + 1) 3 i0 (.int .i64 0) 1 8 Try.underlying86 hi hz0' hz1 hz2 rfl (by decide) _ _ _ rfl (HOW.out.alloc _) ⟨wr.heap.size, 0, none⟩ 1 1 [_] rfl rfl (by exact one_new _ _ _) ?c3 ?c4 ?c5 ?c6 ?_))
        case c3 => first | (intro u hu; simp at hu; subst hu; rfl) | rfl
        case c4 => unfold maxLen; omega
        case c5 => omega
        case c6 => have := HG.out.size; simp at this; simp; omega
        intro v' w1 hown1 hgrow _
        have hg1 : Gr (w.alloc (.cells #[.bool false, .slice none 0 0] 88)) w1 := Below.grown (HG.out.alloc _) hgrow (HG.out.alloc _).size (fun k hk => by have := (HOW.out.lt k hk).1; simp; omega)
        have HO1 := Lib.hid hown1; have HG1 := Lib.hid hg1
        clear hown1 hgrow hg1 HOW HG
        go_wp2
        have hw64 := HW.out
        go_roundw
        case rel => exact ⟨m.tdiv 10, ds ++ [m.tmod 10], by rw [hw64], hq1, hq2, HD.out.append (Dg.one (by omega)), by simp; omega, by have h := HST.out; rw [show ((m.tmod 10).natAbs : Int) = m.tmod 10 by omega] at h; exact h, by simpa using HO1.out, HG1.out⟩
        case measure => simpa [intOf, hw64] using ht1
end Bg
end Go.Proofs.Ytfpnkcmplmkghaa
