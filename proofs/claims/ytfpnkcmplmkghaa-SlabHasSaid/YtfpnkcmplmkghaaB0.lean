/- Texts that stood alone before, in one. -/
import Derived.Test.YtfpnkcmplmkghaaCm
import Derived.Test.YtfpnkcmplmkghaaAp
import Derived.Test.YtfpnkcmplmkghaaCn
import Derived.Test.YtfpnkcmplmkghaaC0
import Derived.WalkKit
import Derived.WalkSpells
import Derived.Deep.QuietTactic
import Derived.BigQuiet
import Derived.Lib.Hide
import Derived.Deep.RegionHeld3
import Derived.StillTailTactics
/- Numbers in digits, plain: rows of digits, the last one first. Nothing of the program. -/
set_option linter.unusedVariables false
namespace Go.Proofs.Ytfpnkcmplmkghaa.Bg

def val : List Int → Int
  | [] => 0
  | d :: l => d + 10 * val l
def Dg (l : List Int) : Prop := ∀ d ∈ l, 0 ≤ d ∧ d ≤ 9
def p10 : Nat → Int
  | 0 => 1
  | n + 1 => 10 * p10 n
theorem p10_pos : ∀ n, 0 < p10 n
  | 0 => by decide
  | n + 1 => by have := p10_pos n; simp only [p10]; omega
theorem p10_mono : ∀ {m n : Nat}, m ≤ n → p10 m ≤ p10 n
  | 0, n, _ => by have := p10_pos n; simp only [p10]; omega
  | m + 1, 0, h => by omega
  | m + 1, n + 1, h => by have := p10_mono (show m ≤ n by omega); simp only [p10]; omega
theorem p10_add (m : Nat) : ∀ n, p10 (m + n) = p10 m * p10 n
  | 0 => by simp [p10]
  | n + 1 => by rw [← Nat.add_assoc]; simp only [p10]; rw [p10_add m n]; grind
theorem Dg.tail {d : Int} {l : List Int} (h : Dg (d :: l)) : Dg l := fun x hx => h x (by simp [hx])
theorem Dg.nil : Dg [] := fun x hx => by simp at hx
theorem Dg.append {l m : List Int} (h : Dg l) (k : Dg m) : Dg (l ++ m) := fun x hx => by
  rcases List.mem_append.1 hx with q | q
  · exact h x q
  · exact k x q
theorem Dg.one {d : Int} (h : 0 ≤ d ∧ d ≤ 9) : Dg [d] := fun x hx => by simp at hx; subst hx; exact h
theorem Dg.take {l : List Int} (h : Dg l) (n : Nat) : Dg (l.take n) := fun x hx => h x (List.mem_of_mem_take hx)
theorem val_nn : ∀ {l : List Int}, Dg l → 0 ≤ val l
  | [], _ => by simp [val]
  | d :: l, h => by have := val_nn h.tail; have := h d (by simp); simp only [val]; omega
theorem val_lt : ∀ {l : List Int}, Dg l → val l < p10 l.length
  | [], _ => by simp [val, p10]
  | d :: l, h => by have := val_lt h.tail; have := h d (by simp); simp only [val, p10, List.length_cons]; omega
theorem val_append : ∀ (l m : List Int), val (l ++ m) = val l + p10 l.length * val m
  | [], m => by simp [val, p10]
  | d :: l, m => by simp only [List.cons_append, val, val_append l m, List.length_cons, p10]; grind
theorem val_snoc (l : List Int) (d : Int) : val (l ++ [d]) = val l + p10 l.length * d := by rw [val_append]; simp [val]
theorem val_zero : ∀ {l : List Int}, (∀ d ∈ l, d = 0) → val l = 0
  | [], _ => rfl
  | d :: l, h => by
    have h1 := h d (by simp)
    have h2 := val_zero (l := l) (fun x hx => h x (by simp [hx]))
    simp only [val, h1, h2]; omega
theorem val_take {l : List Int} (n : Nat) (h : ∀ d ∈ l.drop n, d = 0) : val (l.take n) = val l := by
  have e : l = l.take n ++ l.drop n := (List.take_append_drop n l).symm
  rw [e, val_append, val_zero h]
  simp
/-- No 0 ahead of others. -/
def Canon (l : List Int) : Prop := Dg l ∧ ∀ (h : l ≠ []), l.getLast h ≠ 0
theorem Canon.nil : Canon [] := ⟨Dg.nil, fun h => absurd rfl h⟩
theorem Canon.tail {d : Int} {l : List Int} (h : Canon (d :: l)) : Canon l := by
  refine ⟨h.1.tail, fun hl => ?_⟩
  have := h.2 (by simp)
  rwa [List.getLast_cons hl] at this
theorem Canon.pos : ∀ {l : List Int}, Canon l → l ≠ [] → 0 < val l
  | [d], h, _ => by
    have h1 := h.2 (by simp)
    have h2 := h.1 d (by simp)
    simp at h1
    simp [val]; omega
  | d :: e :: l, h, _ => by
    have := Canon.pos h.tail (by simp)
    have := h.1 d (by simp)
    simp only [val] at *; omega
theorem Canon.uniq : ∀ {l m : List Int}, Canon l → Canon m → val l = val m → l = m
  | [], [], _, _, _ => rfl
  | [], e :: m, _, hm, h => by have := hm.pos (by simp); simp [val] at h this; omega
  | d :: l, [], hl, _, h => by have := hl.pos (by simp); simp [val] at h this; omega
  | d :: l, e :: m, hl, hm, h => by
    have h1 := hl.1 d (by simp); have h2 := hm.1 e (by simp)
    simp only [val] at h
    have e1 : d = e := by omega
    have e2 : val l = val m := by omega
    rw [e1, Canon.uniq hl.tail hm.tail e2]
theorem Canon.len : ∀ {l : List Int}, Canon l → l ≠ [] → p10 (l.length - 1) ≤ val l
  | [d], h, _ => by have := h.pos (by simp); simp [p10]; omega
  | d :: e :: l, h, _ => by
    have h1 := Canon.len h.tail (by simp)
    have h2 := h.1 d (by simp)
    have e3 : (d :: e :: l).length - 1 = ((e :: l).length - 1) + 1 := by simp
    rw [e3]
    simp only [p10]
    have e4 : val (d :: e :: l) = d + 10 * val (e :: l) := rfl
    rw [e4]; omega
theorem Canon.len_le {l : List Int} (h : Canon l) {n : Nat} (hv : val l < p10 n) : l.length ≤ n := by
  apply Classical.byContradiction; intro hn
  have h1 := h.len (by intro e; subst e; simp at hn)
  have := p10_mono (show n ≤ l.length - 1 by omega)
  omega
/-- The first ones of which the last is no 0, the others being 0. -/
theorem canon_take {l : List Int} {n : Nat} (hd : Dg l) (hn : n ≤ l.length) (hz : ∀ d ∈ l.drop n, d = 0) (hl : n = 0 ∨ l.getD (n - 1) 0 ≠ 0) : Canon (l.take n) ∧ val (l.take n) = val l := by
  refine ⟨⟨hd.take n, fun hne => ?_⟩, val_take n hz⟩
  rcases hl with h0 | h0
  · subst h0; simp at hne
  · have hpos : 0 < n := by
      apply Classical.byContradiction; intro hc
      have : n = 0 := by omega
      subst this; simp at hne
    rw [List.getLast_eq_getElem]
    have hlen : (l.take n).length = n := by rw [List.length_take]; omega
    have e : (l.take n)[(l.take n).length - 1]'(by omega) = l.getD (n - 1) 0 := by
      rw [List.getElem_take]
      simp only [hlen]
      simp [List.getD, List.getElem?_eq_getElem (show n - 1 < l.length by omega)]
    rw [e]; exact h0
theorem drop_zero {l : List Int} {n : Nat} (hn : n < l.length) (hz : ∀ d ∈ l.drop (n + 1), d = 0) (h0 : l.getD n 0 = 0) : ∀ d ∈ l.drop n, d = 0 := by
  intro d hd
  rw [List.drop_eq_getElem_cons hn] at hd
  rcases List.mem_cons.1 hd with h | h
  · rw [h]; simpa [List.getD, List.getElem?_eq_getElem hn] using h0
  · exact hz d h
theorem wf_dg {l : List Int} (h : Dg l) : ∀ n ∈ l, (Lit.int .i64 n).wf = true := fun n hn => wf_of_I (by have := h n hn; unfold I; omega)
/-- A number as it lies in memory: below 0 or not, its digits. -/
def NumV (b : Bool) (a : Option Addr) (len cap : Nat) : Value := .agg #[.bool b, .slice a len cap]
def IsNum (w : World) (v : Value) (m : Int) : Prop :=
  ∃ a len cap zs, v = NumV (decide (m < 0)) a len cap ∧ IsRow .i64 w a len zs ∧ Canon zs ∧ val zs = (m.natAbs : Int) ∧ len ≤ cap ∧ (a = none → cap = 0)
theorem IsNum.gr {w w' : World} {v : Value} {m : Int} (h : IsNum w v m) (g : Gr w w') : IsNum w' v m := by
  obtain ⟨a, len, cap, zs, h1, h2, h3, h4, h5⟩ := h
  exact ⟨a, len, cap, zs, h1, h2.later g, h3, h4, h5⟩
end Go.Proofs.Ytfpnkcmplmkghaa.Bg
/- Numbers in digits: digit, trim, walked. -/
set_option linter.unusedVariables false
set_option linter.unusedSimpArgs false
namespace Go.Proofs.Ytfpnkcmplmkghaa
open Go.RowKit
namespace Bg
theorem digit_any (b : Bool) (a : Option Addr) (len cap : Nat) (zs : List Int) (i : Nat) (w : World) (hr : IsRow .i64 w a len zs) (hi : (i : Int) ≤ 9223372036854775807) :
    Calls Try.prog 131 #[NumV b a len cap, .int .i64 i] w fun e w' => e = .returned (.int .i64 (zs.getD i 0)) ∧ Gr w w' := by
  obtain ⟨hz, hm, hwz, hr⟩ := hr
  unfold NumV
  by_cases hlt : i < len
  · obtain ⟨bk, off, rfl, hcell⟩ := hr (by omega)
    have hc := hcell i hlt
    have lt := lt_of_cell hc
    have ne : ¬ bk = w.heap.size := by simp only at lt; omega
    clear hcell hr hwz
    generalize zs.getD i 0 = z at *
    go_enter Try.func131, Try.ntmps131
    go_wp2
    go_ret
    exact ⟨rfl, (Gr.refl w).alloc _⟩
  · have e : zs.getD i 0 = 0 := by simp [List.getD, List.getElem?_eq_none (show zs.length ≤ i by omega)]
    rw [e]
    clear hr hwz e
    go_enter Try.func131, Try.ntmps131
    go_wp2
    go_ret
    exact ⟨rfl, (Gr.refl w).alloc _⟩
theorem results_blk {P : Program} {fn : Func} {q : Tmp} {ty : TypeId} (h : fn.results = #[.cell q ty]) {tmps : Array Value} {w : World} {b : Nat} {vs : List Value} {ti : Sx.TI} (ht : Sx.TyOk P ty ti) (ha : ti.agg = true)
    (hp : tmps.getD q undef = .pointer (some ⟨b, 0, none⟩)) (hb : Blk w b vs) (hl : vs.length = ti.size) : (results fn tmps).run P w = .ok (.agg vs.toArray) w := by
  have h1 : (loadVar ty ⟨b, 0, none⟩).run P w = .ok (.agg vs.toArray) w := by
    unfold loadVar
    have := run_loadCells_list (P := P) w ⟨b, 0, none⟩ vs (fun j v hj => by rw [add_none, Nat.zero_add]; exact hb.cell j hj)
    rw [hl] at this
    simp [Sem.run_bind, ht.isAgg', ha, ht.size, this]
  simp only [results, h]
  have hp2 : tmps[q]?.getD undef = .pointer (some ⟨b, 0, none⟩) := by rw [← hp]; simp
  simp [Sem.run_bind, hp2, asAddr, h1, Result.andThen]
set_option maxHeartbeats 1000000 in
theorem trim_any (b : Bool) (a : Option Addr) (len cap : Nat) (zs : List Int) (w : World) (hr : IsRow .i64 w a len zs) (hd : Dg zs) (hcap : len ≤ cap) (hn : a = none → cap = 0) :
    Calls Try.prog 109 #[.bool b, .slice a len cap] w fun e w' => ∃ n, n ≤ len ∧ e = .returned (NumV (b && decide (0 < n)) a n cap) ∧ Canon (zs.take n) ∧ val (zs.take n) = val zs ∧ Gr w w' := by
  obtain ⟨hz, hm, hwz, hr⟩ := hr
  have HR := Lib.hid hr; have HD := Lib.hid hd; have HZ := Lib.hid hz; have HN := Lib.hid hn
  clear hr hd hz hwz hn
  go_enter Try.func109, Try.ntmps109
  go_wp2_with fail
  go_loopw [5] (fun v5 wr => ∃ n : Nat, n ≤ len ∧ v5 = .int .i64 n ∧ (∀ d ∈ zs.drop n, d = 0) ∧ wr = w.alloc (.cells #[.bool false, .slice none 0 0] 88)) (fun v _ => (intOf v).toNat)
  case atStart => exact ⟨len, Nat.le_refl _, rfl, fun d h => by rw [List.drop_eq_nil_of_le (by rw [HZ.out]; exact Nat.le_refl _)] at h; simp at h, rfl⟩
  case round =>
    obtain ⟨n, hn, rfl, hzr, rfl⟩ := hrel
    have fin : (n = 0 ∨ zs.getD (n - 1) 0 ≠ 0) → Canon (zs.take n) ∧ val (zs.take n) = val zs := fun h => canon_take HD.out (by rw [HZ.out]; exact hn) hzr h
    cases n with
    | zero =>
      have hf := fin (.inl rfl)
      have HF := Lib.hid hf; clear fin hf hzr
      have hb : Blk ((w.alloc (.cells #[.bool false, .slice none 0 0] 88))) w.heap.size [.bool false, .slice none 0 0] := Blk.new (vs := [.bool false, .slice none 0 0]) rfl
      cases b <;> cases a
      all_goals
        go_wp2
        refine ⟨rfl, _, results_blk rfl Sx.ty88 rfl rfl (Blk.new (vs := [.bool false, .slice _ 0 cap]) rfl) rfl, ?_⟩
        exact ⟨0, hn, rfl, HF.out.1, HF.out.2, (Gr.refl w).alloc _⟩
    | succ k =>
      obtain ⟨bk, off, rfl, hcell⟩ := HR.out (by omega)
      have hc := hcell k (by omega)
      have lt := lt_of_cell hc
      have ne : ¬ bk = w.heap.size := by simp only at lt; omega
      clear hcell
      by_cases hz0 : zs.getD k 0 = 0
      · rw [hz0] at hc
        have hzr2 := drop_zero (by rw [HZ.out]; omega) hzr hz0
        have HZ2 := Lib.hid hzr2
        clear fin hzr hz0 hzr2
        go_wp2
        go_roundw
        case rel => exact ⟨k, by omega, by go_num, HZ2.out, trivial⟩
        case measure => simp [intOf]
      · have hf := fin (.inr (by simpa using hz0))
        have HF := Lib.hid hf; clear fin hf hzr
        have hz1 : (zs.getD k 0 == 0) = false := by simpa using hz0
        clear hz0
        generalize zs.getD k 0 = z at *
        cases b
        all_goals
          go_wp2
          refine ⟨rfl, _, results_blk rfl Sx.ty88 rfl rfl (Blk.new (vs := [.bool _, .slice _ (k + 1) cap]) rfl) rfl, ?_⟩
          exact ⟨k + 1, hn, by unfold NumV; simp, HF.out.1, HF.out.2, (Gr.refl w).alloc _⟩
end Bg
end Go.Proofs.Ytfpnkcmplmkghaa
/- Numbers in digits: that of an int, walked. -/
set_option linter.unusedVariables false
set_option linter.unusedSimpArgs false
namespace Go.Proofs.Ytfpnkcmplmkghaa
open Go.RowKit
namespace Bg
theorem p10_lt {a b : Nat} (h : p10 a < p10 b) : a < b := by
  apply Classical.byContradiction; intro hn
  have := p10_mono (show b ≤ a by omega); omega
theorem infoInt : (Try.prog.info? 3).map (fun i => (i.zero, i.size, i.bytes)) = some (some (.int .i64 0), 1, 8) := by kernel_rfl
theorem owned_row {w : World} {base : Nat} {e : TypeId} {v : Value} {zs : List Int} (h : w.ownsRow base e 1 v zs.length (zs.map (Value.int .i64))) (hl : zs.length ≤ 9223372036854775807) (hw : ∀ n ∈ zs, (Lit.int .i64 n).wf = true) :
    ∃ a cap, v = .slice a zs.length cap ∧ IsRow .i64 w a zs.length zs ∧ zs.length ≤ cap ∧ (a = none → cap = 0) ∧ (∀ ad, a = some ad → base ≤ ad.block) := by
  obtain ⟨a, cap, hv, hr⟩ := row_owned h hl hw
  obtain ⟨h1, h2⟩ := h
  rcases h2 with ⟨hv2, h0⟩ | ⟨g, cap2, cur, hv2, hg, hh, hn, hc, hs, ht⟩
  · rw [hv] at hv2
    simp only [Value.slice.injEq] at hv2
    obtain ⟨rfl, q1, rfl⟩ := hv2
    exact ⟨none, 0, hv, hr, by omega, fun _ => rfl, fun ad h => by cases h⟩
  · have hv3 := hv2
    rw [hv] at hv2
    simp only [Value.slice.injEq] at hv2
    obtain ⟨rfl, q1, rfl⟩ := hv2
    exact ⟨_, _, hv, hr, hn, (fun h => by cases h), (fun ad h => by cases h; exact hg)⟩
theorem IsRow.cut {w : World} {a : Option Addr} {len : Nat} {zs : List Int} (h : IsRow .i64 w a len zs) {k : Nat} (hk : k ≤ len) : IsRow .i64 w a k (zs.take k) := by
  obtain ⟨h1, h2, h3, h4⟩ := h
  refine ⟨by rw [List.length_take]; omega, by omega, fun n hn => h3 n (List.mem_of_mem_take hn), fun h0 => ?_⟩
  obtain ⟨b, off, e, hc⟩ := h4 (by omega)
  refine ⟨b, off, e, fun i hi => ?_⟩
  rw [hc i (by omega)]
  simp [List.getD, List.getElem?_take_of_lt hi]
theorem IsRow.set {w : World} {a : Option Addr} {len : Nat} {zs : List Int} (h : IsRow .i64 w a len zs) {p : Addr} (hp : ∀ ad, a = some ad → 0 < len → ad.block ≠ p.block) (x : Value) : IsRow .i64 (w.setCell p x) a len zs := by
  obtain ⟨h1, h2, h3, h4⟩ := h
  refine ⟨h1, h2, h3, fun h0 => ?_⟩
  obtain ⟨b, off, e, hc⟩ := h4 h0
  subst e
  refine ⟨b, off, rfl, fun i hi => ?_⟩
  rw [World.cell?_setCell_other (h := fun e => hp _ rfl h0 (by rw [e]))]
  exact hc i hi
theorem IsNum.set {w : World} {b : Bool} {a : Option Addr} {len cap : Nat} {m : Int} (h : IsNum w (NumV b a len cap) m) {p : Addr} (hp : ∀ ad, a = some ad → 0 < len → ad.block ≠ p.block) (x : Value) : IsNum (w.setCell p x) (NumV b a len cap) m := by
  obtain ⟨a', len', cap', zs, h1, h2, h3, h4, h5⟩ := h
  unfold NumV at h1
  simp only [Value.agg.injEq, Array.mk.injEq, List.cons.injEq, Value.slice.injEq, Value.bool.injEq] at h1
  obtain ⟨rfl, ⟨rfl, rfl, rfl⟩, _⟩ := h1
  exact ⟨a, len, cap, zs, rfl, IsRow.set h2 hp x, h3, h4, h5⟩
/-- What 'trim' hands back is a number. -/
theorem num_of {w : World} {a : Option Addr} {len cap k : Nat} {ds : List Int} {b : Bool} {n : Int} (hr : IsRow .i64 w a len ds) (hk : k ≤ len) (hc : Canon (ds.take k)) (hv : val (ds.take k) = (n.natAbs : Int)) (hb : n ≠ 0 → b = decide (n < 0)) (hcap : len ≤ cap) (hnone : a = none → cap = 0) :
    IsNum w (NumV (b && decide (0 < k)) a k cap) n := by
  refine ⟨a, k, cap, ds.take k, ?_, IsRow.cut hr hk, hc, hv, by omega, hnone⟩
  congr 1
  by_cases hn : n = 0
  · subst hn
    have : k = 0 := by
      apply Classical.byContradiction; intro hne
      have hp := hc.pos (by intro e; have := congrArg List.length e; rw [List.length_take, hr.1] at this; simp at this; omega)
      rw [hv] at hp; simp at hp
    subst this; simp
  · have hk0 : 0 < k := by
      apply Classical.byContradiction; intro hne
      have : k = 0 := by omega
      subst this
      simp [val] at hv; omega
    rw [hb hn]; simp [hk0]
/-- One digit more. -/
theorem step_int {n m : Int} {ds : List Int} (h : val ds + p10 ds.length * (m.natAbs : Int) = (n.natAbs : Int)) : val (ds ++ [((m.natAbs % 10 : Nat) : Int)]) + p10 (ds ++ [((m.natAbs % 10 : Nat) : Int)]).length * ((m.tdiv 10).natAbs : Int) = (n.natAbs : Int) := by
  rw [val_snoc, List.length_append, List.length_singleton]
  have e : (m.tdiv 10).natAbs = m.natAbs / 10 := Int.natAbs_tdiv m 10
  rw [e, ← h]
  have e2 : (m.natAbs : Int) = ((m.natAbs % 10 : Nat) : Int) + 10 * ((m.natAbs / 10 : Nat) : Int) := by omega
  generalize ((m.natAbs % 10 : Nat) : Int) = r at *
  generalize ((m.natAbs / 10 : Nat) : Int) = q at *
  rw [e2]
  simp only [p10]
  grind
set_option maxHeartbeats 4000000 in
set_option maxRecDepth 100000 in
theorem ofInt_any (n : Int) (hn : I n) (w : World) : Calls Try.prog 72 #[.int .i64 n] w fun e w' => (∃ v, e = .returned v ∧ IsNum w' v n) ∧ Gr w w' := by
  obtain ⟨i0, hi, hz0', hz1, hz2⟩ := info_parts infoInt
  have HI := Lib.hid hn; clear hn
  go_enter Try.func72, Try.ntmps72
  go_wp2_with fail
  go_loopw [0, 3, 5] (fun v0 v3 v5 wr => ∃ (m : Int) (ds : List Int), v0 = .int .i64 m ∧ (0 ≤ n → 0 ≤ m) ∧ (n ≤ 0 → m ≤ 0) ∧ Dg ds ∧ ds.length ≤ 19 ∧ val ds + p10 ds.length * (m.natAbs : Int) = (n.natAbs : Int) ∧ wr.ownsRow (w.heap.size + 1) 3 1 v3 ds.length (ds.map (Value.int .i64)) ∧
      Gr (w.alloc (.cells #[.bool false, .slice none 0 0] 88)) wr) (fun v _ _ _ => (intOf v).natAbs)
  case atStart => exact ⟨n, [], rfl, id, id, Dg.nil, by simp, by simp [val, p10], World.ownsRow_nil _ _ _ _, Gr.refl _⟩
  case round =>
    obtain ⟨m, ds, rfl, h1, h2, hd, hl19, hv, hown, hg⟩ := hrel
    have hmI : I m := by
      have := HI.out
      have hp := p10_pos ds.length
      have hvn := val_nn hd
      have hle : (m.natAbs : Int) ≤ (n.natAbs : Int) := by
        have : 1 * (m.natAbs : Int) ≤ p10 ds.length * (m.natAbs : Int) := Int.mul_le_mul_of_nonneg_right (by omega) (by omega)
        omega
      unfold I at *; omega
    have hlen : m ≠ 0 → ds.length < 19 := fun hne => by
      have hvn := val_nn hd
      have hq : p10 ds.length * 1 ≤ p10 ds.length * (m.natAbs : Int) := Int.mul_le_mul_of_nonneg_left (by omega) (by have := p10_pos ds.length; omega)
      refine p10_lt ?_
      have := HI.out; unfold I at this
      have e : p10 19 = 10000000000000000000 := by decide
      omega
    have HD := Lib.hid hd; have HV := Lib.hid hv; have HOW := Lib.hid hown; have HG := Lib.hid hg
    by_cases hm0 : m = 0
    · subst hm0
      have hv0 : val ds = (n.natAbs : Int) := by simpa using hv
      clear hv hown hg hd hlen hmI h1 h2
      obtain ⟨a, cap, rfl, hrow, hcap, hnone, hbl⟩ := owned_row HOW.out (by omega) (wf_dg HD.out)
      have HBL := Lib.hid hbl; clear hbl
      have HR := Lib.hid hrow; have HV0 := Lib.hid hv0
      clear hrow hv0
      go_wp2_with fail
      refine (trim_any _ _ _ _ ds _ HR.out HD.out hcap hnone).mono ?_; rintro e w2 ⟨k, hk, rfl, hc, hvk, hg2⟩
      have hB : Blk w2 w.heap.size [.bool false, .slice none 0 0] := ((Blk.new (w := w) (vs := [.bool false, .slice none 0 0]) (T := 88) rfl).gr HG.out).gr hg2
      have hN : IsNum w2 (NumV (decide (n < 0) && decide (0 < k)) a k cap) n := num_of (HR.out.later hg2) hk hc (hvk.trans HV0.out) (fun _ => rfl) hcap hnone
      have hG : Gr w w2 := (((Gr.refl w).alloc _).trans HG.out).trans hg2
      have c0 := hB.cell 0 rfl; have c1 := hB.cell 1 rfl; have f0 := hB.free 0 rfl; have f1 := hB.free 1 rfl
      have HB := Lib.hid hB; have HN := Lib.hid hN; have HGG := Lib.hid hG
      clear hB hN hG hc hvk hg2 HOW HG HV HD HR HV0
      unfold NumV at *
      generalize (decide (n < 0) && decide (0 < k)) = bb at *
      go_wp2_with fail
      refine ⟨rfl, _, results_blk rfl Sx.ty88 rfl rfl (HB.out.set2 _ _) rfl, ⟨_, rfl, ?_⟩, ?_⟩
      · exact IsNum.set (IsNum.set HN.out (fun ad h _ => by have := HBL.out ad h; simp; omega) _) (fun ad h _ => by have := HBL.out ad h; simp; omega) _
      · exact (HGG.out.setCell (p := ⟨w.heap.size, 0, none⟩) (Nat.le_refl _) _).setCell (p := ⟨w.heap.size, 1, none⟩) (Nat.le_refl _) _
    · have ht1 : (m.tdiv 10).natAbs < m.natAbs := by rw [Int.natAbs_tdiv]; exact Nat.div_lt_self (by omega) (by decide)
      have hr : ((m.tmod 10).natAbs : Int) = ((m.natAbs % 10 : Nat) : Int) := by rw [Int.natAbs_tmod]; rfl
      have hq1 : 0 ≤ n → 0 ≤ m.tdiv 10 := fun h => Int.tdiv_nonneg (h1 h) (by omega)
      have hq2 : n ≤ 0 → m.tdiv 10 ≤ 0 := fun h => by have := Int.tdiv_nonneg (a := -m) (b := 10) (by have := h2 h; omega) (by omega); rw [Int.neg_tdiv] at this; omega
      have hlen2 := hlen hm0
      have hqI : I (m.tdiv 10) := by unfold I at *; omega
      have hw64 : wrap64 (m.tdiv 10) = m.tdiv 10 := IntWalk.wrap64_in _ hqI
      have HW := Lib.hid hw64
      have hst := step_int hv
      rw [← hr] at hst
      have HST := Lib.hid hst
      have hbt : -9 ≤ m.tmod 10 ∧ m.tmod 10 ≤ 9 := by omega
      clear hv hown hg hd hlen hst hqI hw64
      by_cases hlt : m.tmod 10 < 0
      · go_wp2_with (first
          | (at_builtin; refine wpList_append_own _ rfl (.tmp 16) (.tmp 18) 86 rfl (w.heap.size + 1) 3 i0 (.int .i64 0) 1 8 Try.underlying86 hi hz0' hz1 hz2 rfl (by decide) _ _ _ rfl (HOW.out.alloc _) ⟨wr.heap.size, 0, none⟩ 1 1 [_] rfl rfl (by exact one_new _ _ _) ?c3 ?c4 ?c5 ?c6 ?_))
        case c3 => first | (intro u hu; simp at hu; subst hu; rfl) | rfl
        case c4 => unfold maxLen; omega
        case c5 => omega
        case c6 => have := HG.out.size; simp at this; simp; omega
        intro v' w1 hown1 hgrow _
        have hg1 : Gr (w.alloc (.cells #[.bool false, .slice none 0 0] 88)) w1 := Below.grown (HG.out.alloc _) hgrow (HG.out.alloc _).size (fun k hk => by have := (HOW.out.lt k hk).1; simp; omega)
        have HO1 := Lib.hid hown1; have HG1 := Lib.hid hg1
        clear hown1 hgrow hg1 HOW HG
        go_wp2
        have hw64 := HW.out
        go_roundw
        case rel => exact ⟨m.tdiv 10, ds ++ [-(m.tmod 10)], by rw [hw64], hq1, hq2, HD.out.append (Dg.one (by omega)), by simp; omega, by have h := HST.out; rw [show ((m.tmod 10).natAbs : Int) = -(m.tmod 10) by omega] at h; exact h, by simpa using HO1.out, HG1.out⟩
        case measure => simpa [intOf, hw64] using ht1
      · go_wp2_with (first
          | (at_builtin; refine wpList_append_own _ rfl (.tmp 16) (.tmp 18) 86 rfl (w.heap.size + 1) 3 i0 (.int .i64 0) 1 8 Try.underlying86 hi hz0' hz1 hz2 rfl (by decide) _ _ _ rfl (HOW.out.alloc _) ⟨wr.heap.size, 0, none⟩ 1 1 [_] rfl rfl (by exact one_new _ _ _) ?c3 ?c4 ?c5 ?c6 ?_))
        case c3 => first | (intro u hu; simp at hu; subst hu; rfl) | rfl
        case c4 => unfold maxLen; omega
        case c5 => omega
        case c6 => have := HG.out.size; simp at this; simp; omega
        intro v' w1 hown1 hgrow _
        have hg1 : Gr (w.alloc (.cells #[.bool false, .slice none 0 0] 88)) w1 := Below.grown (HG.out.alloc _) hgrow (HG.out.alloc _).size (fun k hk => by have := (HOW.out.lt k hk).1; simp; omega)
        have HO1 := Lib.hid hown1; have HG1 := Lib.hid hg1
        clear hown1 hgrow hg1 HOW HG
        go_wp2
        have hw64 := HW.out
        go_roundw
        case rel => exact ⟨m.tdiv 10, ds ++ [m.tmod 10], by rw [hw64], hq1, hq2, HD.out.append (Dg.one (by omega)), by simp; omega, by have h := HST.out; rw [show ((m.tmod 10).natAbs : Int) = m.tmod 10 by omega] at h; exact h, by simpa using HO1.out, HG1.out⟩
        case measure => simpa [intOf, hw64] using ht1
end Bg
end Go.Proofs.Ytfpnkcmplmkghaa
/- Numbers in digits, plain: sums, differences and which is longer. Nothing of the program. -/
set_option linter.unusedVariables false
namespace Go.Proofs.Ytfpnkcmplmkghaa.Bg
theorem val_take_succ : ∀ (l : List Int) (k : Nat), val (l.take (k + 1)) = val (l.take k) + p10 k * l.getD k 0
  | [], k => by simp [val]
  | d :: l, 0 => by simp [val, p10]
  | d :: l, k + 1 => by
    have := val_take_succ l k
    simp only [List.take_succ_cons, val, p10, List.getD_cons_succ] at *
    rw [this]; grind
theorem val_split : ∀ (l : List Int) (k : Nat), val l = val (l.take k) + p10 k * val (l.drop k)
  | [], k => by simp [val]
  | d :: l, 0 => by simp [val, p10]
  | d :: l, k + 1 => by
    have := val_split l k
    simp only [List.take_succ_cons, List.drop_succ_cons, val, p10] at *
    grind
theorem drop_val : ∀ (l : List Int) (k : Nat), val (l.drop k) = l.getD k 0 + 10 * val (l.drop (k + 1))
  | [], k => by simp [val]
  | d :: l, 0 => by simp [val]
  | d :: l, k + 1 => by
    have := drop_val l k
    simpa using this
theorem Dg.dig {l : List Int} (h : Dg l) (k : Nat) : 0 ≤ l.getD k 0 ∧ l.getD k 0 ≤ 9 := by
  by_cases hk : k < l.length
  · have e : l.getD k 0 = l[k] := by simp [List.getD, List.getElem?_eq_getElem hk]
    rw [e]; exact h _ (List.getElem_mem _)
  · have e : l.getD k 0 = 0 := by simp [List.getD, List.getElem?_eq_none (show l.length ≤ k by omega)]
    rw [e]; omega
theorem take_lt {l : List Int} (h : Dg l) (k : Nat) : val (l.take k) < p10 k := by
  have h1 := val_lt (h.take k)
  have h2 := p10_mono (show (l.take k).length ≤ k by rw [List.length_take]; omega)
  omega
theorem lt_of_drop {l m : List Int} (hl : Dg l) (hm : Dg m) (k : Nat) (h : val (l.drop k) < val (m.drop k)) : val l < val m := by
  have h1 := val_split l k; have h2 := val_split m k
  have h3 := take_lt hl k; have h4 := val_nn (hm.take k)
  have h5 : p10 k * (val (l.drop k) + 1) ≤ p10 k * val (m.drop k) := Int.mul_le_mul_of_nonneg_left (by omega) (by have := p10_pos k; omega)
  rw [Int.mul_add] at h5
  omega
theorem dig_lt {l m : List Int} (hl : Dg l) (hm : Dg m) (k : Nat) (h : val (l.drop (k + 1)) = val (m.drop (k + 1))) (hd : l.getD k 0 < m.getD k 0) : val l < val m := by
  refine lt_of_drop hl hm k ?_
  rw [drop_val l k, drop_val m k, h]; omega
theorem tqr (x : Int) : x = x.tmod 10 + 10 * x.tdiv 10 := (Int.tmod_add_mul_tdiv x 10).symm
theorem plus_step {out za zb : List Int} {k : Nat} {c : Int} (h : val out + p10 k * c = val (za.take k) + val (zb.take k)) (hl : out.length = k) (x : Int) (hx : x = za.getD k 0 + zb.getD k 0 + c) :
    val (out ++ [x % 10]) + p10 (k + 1) * (x / 10) = val (za.take (k + 1)) + val (zb.take (k + 1)) := by
  rw [val_snoc, hl, val_take_succ, val_take_succ]
  have e : x = x % 10 + 10 * (x / 10) := by omega
  generalize x % 10 = r at *
  generalize x / 10 = q at *
  simp only [p10]
  grind
theorem plus_end {out za zb : List Int} {k : Nat} {c : Int} (h : val out + p10 k * c = val (za.take k) + val (zb.take k)) (ho : Dg out) (ha : Dg za) (hb : Dg zb) (hc : 0 ≤ c) (h1 : za.length < k) (h2 : zb.length < k) : val out = val za + val zb := by
  rw [List.take_of_length_le (by omega), List.take_of_length_le (by omega)] at h
  obtain ⟨j, rfl⟩ : ∃ j, k = j + 1 := ⟨k - 1, by omega⟩
  have h3 := val_lt ha; have h4 := val_lt hb
  have h5 := p10_mono (show za.length ≤ j by omega); have h6 := p10_mono (show zb.length ≤ j by omega)
  have h7 := val_nn ho
  have h8 := p10_pos j
  have : c = 0 := by
    apply Classical.byContradiction; intro hn
    have h9 : p10 (j + 1) * 1 ≤ p10 (j + 1) * c := Int.mul_le_mul_of_nonneg_left (by omega) (by have := p10_pos (j + 1); omega)
    simp only [p10] at h9 h
    omega
  subst this
  omega
theorem minus_step {out za zb : List Int} {k : Nat} {c c' d : Int} (h : val out - p10 k * c = val (za.take k) - val (zb.take k)) (hl : out.length = k) (hx : d - 10 * c' = za.getD k 0 - zb.getD k 0 - c) :
    val (out ++ [d]) - p10 (k + 1) * c' = val (za.take (k + 1)) - val (zb.take (k + 1)) := by
  rw [val_snoc, hl, val_take_succ, val_take_succ]
  simp only [p10]
  grind
theorem minus_end {out za zb : List Int} {c : Int} (h : val out - p10 za.length * c = val (za.take za.length) - val (zb.take za.length)) (ho : Dg out) (hl : out.length = za.length) (hc : 0 ≤ c) (h1 : zb.length ≤ za.length) (h2 : val zb ≤ val za) : val out = val za - val zb := by
  rw [List.take_of_length_le (by omega), List.take_of_length_le (by omega)] at h
  have h3 := val_lt ho
  rw [hl] at h3
  have : c = 0 := by
    apply Classical.byContradiction; intro hn
    have h9 : p10 za.length * 1 ≤ p10 za.length * c := Int.mul_le_mul_of_nonneg_left (by omega) (by have := p10_pos za.length; omega)
    omega
  subst this
  omega
theorem len_of_val {za zb : List Int} (hb : Canon zb) (ha : Dg za) (h : val zb ≤ val za) : zb.length ≤ za.length := hb.len_le (by have := val_lt ha; omega)
/-- Which of two is longer. -/
def sz (x y : Int) : Int := if x < y then -1 else if y < x then 1 else 0
end Go.Proofs.Ytfpnkcmplmkghaa.Bg
/- Numbers in digits: size, plus, minus, walked. -/
set_option linter.unusedVariables false
set_option linter.unusedSimpArgs false
namespace Go.Proofs.Ytfpnkcmplmkghaa
open Go.RowKit
namespace Bg
/-- A call of 'digit' behind some steps. -/
theorem digit_gw {wr : World} (b : Bool) (a : Option Addr) (len cap : Nat) (zs : List Int) (i : Nat) (hr : IsRow .i64 wr a len zs) (hi : (i : Int) ≤ 9223372036854775807) (x : GW wr) :
    Calls Try.prog 131 #[NumV b a len cap, .int .i64 i] x.val fun e w' => e = .returned (.int .i64 (zs.getD i 0)) ∧ Gr x.val w' := digit_any b a len cap zs i _ (hr.later x.gr) hi
set_option maxHeartbeats 4000000 in
set_option maxRecDepth 100000 in
theorem size_any (ba : Bool) (pa : Option Addr) (la ca : Nat) (za : List Int) (bb : Bool) (pb : Option Addr) (lb cb : Nat) (zb : List Int) (w : World) (ha : IsRow .i64 w pa la za) (hb : IsRow .i64 w pb lb zb) (da : Dg za) (db : Dg zb) (h60 : la ≤ 60) (k60 : lb ≤ 60) :
    Calls Try.prog 111 #[NumV ba pa la ca, NumV bb pb lb cb] w fun e w' => e = .returned (.int .i64 (sz (val za) (val zb))) ∧ Gr w w' := by
  have HA := Lib.hid ha; have HB := Lib.hid hb; have DA := Lib.hid da; have DB := Lib.hid db
  have za1 := Lib.hid ha.1; have zb1 := Lib.hid hb.1
  clear ha hb da db
  unfold NumV
  go_enter Try.func111, Try.ntmps111
  go_wp2_with fail
  all_goals
    go_loopw [5] (fun v5 wr => ∃ k : Nat, k ≤ max la lb ∧ v5 = .int .i64 ((k : Int) - 1) ∧ Gr w wr ∧ val (za.drop k) = val (zb.drop k)
        ∧ Blk wr w.heap.size [.bool ba, .slice pa la ca] ∧ Blk wr (w.heap.size + 1) [.bool bb, .slice pb lb cb]) (fun v _ => (intOf v + 1).toNat)
    case atStart =>
      refine ⟨max la lb, Nat.le_refl _, ?_, ((Gr.refl w).alloc _).alloc _, ?_, (Blk.new (vs := [.bool ba, .slice pa la ca]) rfl).alloc, Blk.new (vs := [.bool bb, .slice pb lb cb]) (by simp)⟩
      · go_num
      · have := za1.out; have := zb1.out
        rw [List.drop_eq_nil_of_le (by omega), List.drop_eq_nil_of_le (by omega)]
    case round =>
      obtain ⟨k, hk, rfl, hg, hv, b1, b2⟩ := hrel
      cases k with
      | zero =>
        have hf : sz (val za) (val zb) = 0 := by simp only [List.drop_zero] at hv; unfold sz; rw [hv]; simp
        have HF := Lib.hid hf; have HG := Lib.hid hg
        clear hf hv hg b1 b2
        go_wp2
        go_ret
        exact ⟨show Ending.returned (.int .i64 0) = _ by rw [HF.out], HG.out⟩
      | succ k =>
        rw [show ((k + 1 : Nat) : Int) - 1 = k by omega]
        have hlt1 : zb.getD k 0 > za.getD k 0 → sz (val za) (val zb) = -1 := fun h => by
          have := dig_lt DA.out DB.out k hv h
          unfold sz; rw [if_pos this]
        have hlt2 : za.getD k 0 > zb.getD k 0 → sz (val za) (val zb) = 1 := fun h => by
          have := dig_lt DB.out DA.out k hv.symm h
          unfold sz; rw [if_neg (by omega), if_pos this]
        have heq : za.getD k 0 = zb.getD k 0 → val (za.drop k) = val (zb.drop k) := fun h => by rw [drop_val za, drop_val zb, h, hv]
        have qa := b1.gw 0 rfl; have qb := b1.gw 1 rfl; have qc := b2.gw 0 rfl; have qd := b2.gw 1 rfl
        have ka := digit_gw ba pa la ca za k (HA.out.later hg) (by omega)
        have kb := digit_gw bb pb lb cb zb k (HB.out.later hg) (by omega)
        have b9a := DA.out.dig k; have b9b := DB.out.dig k
        unfold NumV at ka kb
        generalize za.getD k 0 = x at *
        generalize zb.getD k 0 = y at *
        have HG := Lib.hid hg; have B1 := Lib.hid b1; have B2 := Lib.hid b2
        have HL1 := Lib.hid hlt1; have HL2 := Lib.hid hlt2; have HE := Lib.hid heq
        clear hg b1 b2 hv hlt1 hlt2 heq
        go_wp2_with fail
        refine wp_region_gr (W := wr) (by kernel_rfl) (by kernel_rfl) (Gr.refl _) ?_
        repeat (go_big_quiet_step (fail))
        go_big_quiet_want; go_big_quiet_op
        go_big_quiet_call (exact Calls.cw (ka _))
        repeat (go_big_quiet_step (fail))
        go_big_quiet_want; go_big_quiet_op
        go_big_quiet_call (exact Calls.cw (kb _))
        repeat (go_big_quiet_step (fail))
        refine wpQuiet_nil ?_
        rintro _ ⟨x1, rfl⟩
        by_cases hc : x < y
        · have HF := Lib.hid (HL1.out hc)
          go_wp2
          go_ret
          exact ⟨show Ending.returned (.int .i64 (-1)) = _ by rw [HF.out], HG.out.trans x1.gr⟩
        · go_wp2_with fail
          refine wp_region_gr (W := wr) (by kernel_rfl) (by kernel_rfl) x1.gr ?_
          repeat (go_big_quiet_step (fail))
          go_big_quiet_want; go_big_quiet_op
          go_big_quiet_call (exact Calls.cw (ka _))
          repeat (go_big_quiet_step (fail))
          go_big_quiet_want; go_big_quiet_op
          go_big_quiet_call (exact Calls.cw (kb _))
          repeat (go_big_quiet_step (fail))
          refine wpQuiet_nil ?_
          rintro _ ⟨x2, rfl⟩
          by_cases hc2 : y < x
          · have HF := Lib.hid (HL2.out hc2)
            go_wp2
            go_ret
            exact ⟨show Ending.returned (.int .i64 1) = _ by rw [HF.out], HG.out.trans x2.gr⟩
          · have HE2 := Lib.hid (HE.out (by omega))
            have hx2 := x2.gr
            generalize x2.val = w2 at *
            have HX := Lib.hid hx2
            clear qa qb qc qd hx2 ka kb
            go_wp2
            go_roundw
            case rel => exact ⟨k, by omega, by go_num, HG.out.trans HX.out, HE2.out, B1.out.gr HX.out, B2.out.gr HX.out⟩
            case measure => simp [intOf]
theorem owns_gr {w w' : World} {base : Nat} {e : TypeId} {size : Nat} {v : Value} {n : Nat} {xs : List Value} (h : w.ownsRow base e size v n xs) (hg : Gr w w') : w'.ownsRow base e size v n xs := by
  refine ⟨h.1, ?_⟩
  rcases h.2 with hn | ⟨g, cap, cur, rfl, hb, hgg, rest⟩
  · exact .inl hn
  · refine .inr ⟨g, cap, cur, rfl, hb, ?_, rest⟩
    rw [hg.block g (Array.getElem?_eq_some_iff.1 hgg).1]
    exact hgg
/-- What 'plus' and 'minus' hand back: a row of digits of the call's own. -/
def Row (w w' : World) (e : Ending) (n : Int) : Prop :=
  ∃ p len cap zs, e = .returned (.slice p len cap) ∧ IsRow .i64 w' p len zs ∧ Dg zs ∧ val zs = n ∧ len ≤ cap ∧ (p = none → cap = 0) ∧ (∀ ad, p = some ad → w.heap.size ≤ ad.block) ∧ Gr w w'
set_option maxHeartbeats 4000000 in
set_option maxRecDepth 100000 in
theorem plus_any (ba : Bool) (pa : Option Addr) (la ca : Nat) (za : List Int) (bb : Bool) (pb : Option Addr) (lb cb : Nat) (zb : List Int) (w : World) (ha : IsRow .i64 w pa la za) (hb : IsRow .i64 w pb lb zb) (da : Dg za) (db : Dg zb) (h60 : la ≤ 60) (k60 : lb ≤ 60) :
    Calls Try.prog 110 #[NumV ba pa la ca, NumV bb pb lb cb] w fun e w' => Row w w' e (val za + val zb) := by
  obtain ⟨i0, hi, hz0', hz1, hz2⟩ := info_parts infoInt
  have HA := Lib.hid ha; have HB := Lib.hid hb; have DA := Lib.hid da; have DB := Lib.hid db
  have za1 := Lib.hid ha.1; have zb1 := Lib.hid hb.1
  clear ha hb da db
  unfold NumV
  go_enter Try.func110, Try.ntmps110
  go_wp2_with fail
  go_loopw [5, 6, 7] (fun v5 v6 v7 wr => ∃ (c : Int) (k : Nat) (ds : List Int), k ≤ max la lb + 1 ∧ v6 = .int .i64 c ∧ v7 = .int .i64 k ∧ ds.length = k ∧ Dg ds ∧ 0 ≤ c ∧ c ≤ 1 ∧ val ds + p10 k * c = val (za.take k) + val (zb.take k) ∧ wr.ownsRow (w.heap.size + 2) 3 1 v5 ds.length (ds.map (Value.int .i64))
      ∧ Gr ((w.alloc (.cells #[.bool ba, .slice pa la ca] 88)).alloc (.cells #[.bool bb, .slice pb lb cb] 88)) wr) (fun _ _ v _ => 62 - (intOf v).toNat)
  case atStart => exact ⟨0, 0, [], by omega, rfl, rfl, rfl, Dg.nil, by decide, by decide, by simp [val, p10], World.ownsRow_nil _ _ _ _, Gr.refl _⟩
  case round =>
    obtain ⟨c, k, ds, hk, rfl, rfl, hl, hd, hc0, hc1, hv, hown, hg⟩ := hrel
    have hg0 : Gr w wr := (((Gr.refl w).alloc _).alloc _).trans hg
    have b1 : Blk wr w.heap.size [.bool ba, .slice pa la ca] := ((Blk.new (w := w) (T := 88) (vs := [.bool ba, .slice pa la ca]) rfl).alloc).gr hg
    have b2 : Blk wr (w.heap.size + 1) [.bool bb, .slice pb lb cb] := (Blk.new (w := w.alloc (.cells #[.bool ba, .slice pa la ca] 88)) (T := 88) (vs := [.bool bb, .slice pb lb cb]) (by simp)).gr hg
    have qa := b1.gw 0 rfl; have qb := b1.gw 1 rfl; have qc := b2.gw 0 rfl; have qd := b2.gw 1 rfl
    have c0 := b1.cell 0 rfl; have c1 := b1.cell 1 rfl; have c2 := b2.cell 0 rfl; have c3 := b2.cell 1 rfl
    clear b1 b2
    by_cases hlt : k < max la lb + 1
    · have hst := plus_step hv hl _ rfl
      have ka := digit_gw ba pa la ca za k (HA.out.later hg0) (by omega)
      have kb := digit_gw bb pb lb cb zb k (HB.out.later hg0) (by omega)
      have b9a := DA.out.dig k; have b9b := DB.out.dig k
      unfold NumV at ka kb
      generalize za.getD k 0 = x at *
      generalize zb.getD k 0 = y at *
      have hx1 : 0 ≤ (x + y + c) % 10 ∧ (x + y + c) % 10 ≤ 9 := by omega
      have hx2 : 0 ≤ (x + y + c) / 10 ∧ (x + y + c) / 10 ≤ 1 := by omega
      have HG := Lib.hid hg; have HS := Lib.hid hst; have HD := Lib.hid hd; have HOW := Lib.hid hown; have HL := Lib.hid hl
      clear hg hv hst hd hown hl hg0
      go_wp2_with fail
      all_goals
        refine wp_region_gr (W := wr) (by kernel_rfl) (by kernel_rfl) (Gr.refl _) ?_
        repeat (go_big_quiet_step (fail))
        go_big_quiet_want; go_big_quiet_op
        go_big_quiet_call (exact Calls.cw (ka _))
        repeat (go_big_quiet_step (fail))
        go_big_quiet_want; go_big_quiet_op
        go_big_quiet_call (exact Calls.cw (kb _))
        repeat (go_big_quiet_step (fail))
        refine wpQuiet_nil ?_
        rintro _ ⟨x1, rfl⟩
        have hx3 := x1.gr
        generalize x1.val = w2 at *
        have HX3 := Lib.hid hx3
        have how2 := owns_gr HOW.out hx3
        have hg2 := HG.out.trans hx3
        have HOW2 := Lib.hid how2; have HG2 := Lib.hid hg2
        clear HOW how2 hg2 hx3 HG qa qb qc qd c0 c1 c2 c3 ka kb
        go_wp2_with (first
          | (at_builtin; refine wpList_append_own _ rfl (.tmp 30) (.tmp 33) 86 rfl (w.heap.size + 2) 3 i0 (.int .i64 0) 1 8 Try.underlying86 hi hz0' hz1 hz2 rfl (by decide) _ _ _ rfl (HOW2.out.alloc _) ⟨w2.heap.size, 0, none⟩ 1 1 [_] rfl rfl (by exact one_new _ _ _) ?c3 ?c4 ?c5 ?c6 ?_))
        case c3 => first | (intro u hu; simp at hu; subst hu; rfl) | rfl
        case c4 => have := HL.out; unfold maxLen; omega
        case c5 => have := HL.out; omega
        case c6 => have := HG2.out.size; simp at this; simp; omega
        intro v' w1 hown1 hgrow _
        have hg1 : Gr ((w.alloc (.cells #[.bool ba, .slice pa la ca] 88)).alloc (.cells #[.bool bb, .slice pb lb cb] 88)) w1 := Below.grown (HG2.out.alloc _) hgrow (HG2.out.alloc _).size (fun k hk => by have := (HOW2.out.lt k hk).1; simp; omega)
        have HO1 := Lib.hid hown1; have HG1 := Lib.hid hg1
        clear hown1 hgrow hg1 HOW2 HG2
        go_wp2
        go_roundw
        case rel => exact ⟨_, k + 1, ds ++ [(x + y + c) % 10], by omega, by go_num, by go_num, by simp [HL.out], HD.out.append (Dg.one hx1), hx2.1, hx2.2, HS.out, by simpa using HO1.out, HG1.out⟩
        case measure => simp [intOf]; omega
    · have hke : k = max la lb + 1 := by omega
      have hf := plus_end hv hd DA.out DB.out hc0 (by have := za1.out; omega) (by have := zb1.out; omega)
      obtain ⟨a, cap, rfl, hrow, hcap, hnone, hbl⟩ := owned_row hown (by omega) (wf_dg hd)
      have HF := Lib.hid (show Row w wr (.returned (.slice a ds.length cap)) (val za + val zb) from ⟨a, ds.length, cap, ds, rfl, hrow, hd, hf, hcap, hnone, fun ad h => by have := hbl ad h; omega, hg0⟩)
      clear hown hf hrow hcap hnone hbl hd hg hv hg0
      subst hl
      rw [hke] at HF
      go_wp2
      all_goals
        go_ret
        exact HF.out
set_option maxHeartbeats 4000000 in
set_option maxRecDepth 100000 in
theorem minus_any (ba : Bool) (pa : Option Addr) (la ca : Nat) (za : List Int) (bb : Bool) (pb : Option Addr) (lb cb : Nat) (zb : List Int) (w : World) (ha : IsRow .i64 w pa la za) (hb : IsRow .i64 w pb lb zb) (da : Dg za) (db : Canon zb) (h60 : la ≤ 60) (hle : val zb ≤ val za) :
    Calls Try.prog 112 #[NumV ba pa la ca, NumV bb pb lb cb] w fun e w' => Row w w' e (val za - val zb) := by
  obtain ⟨i0, hi, hz0', hz1, hz2⟩ := info_parts infoInt
  have HLB := Lib.hid (len_of_val db da hle); have HLE := Lib.hid hle
  have HA := Lib.hid ha; have HB := Lib.hid hb; have DA := Lib.hid da; have DB := Lib.hid db.1
  have za1 := Lib.hid ha.1; have zb1 := Lib.hid hb.1
  clear ha hb da db hle
  unfold NumV
  go_enter Try.func112, Try.ntmps112
  go_wp2_with fail
  go_loopw [5, 6, 7] (fun v5 v6 v7 wr => ∃ (c : Int) (k : Nat) (ds : List Int), k ≤ la ∧ v6 = .int .i64 c ∧ v7 = .int .i64 k ∧ ds.length = k ∧ Dg ds ∧ 0 ≤ c ∧ c ≤ 1 ∧ val ds - p10 k * c = val (za.take k) - val (zb.take k) ∧ wr.ownsRow (w.heap.size + 2) 3 1 v5 ds.length (ds.map (Value.int .i64))
      ∧ Gr ((w.alloc (.cells #[.bool ba, .slice pa la ca] 88)).alloc (.cells #[.bool bb, .slice pb lb cb] 88)) wr) (fun _ _ v _ => 62 - (intOf v).toNat)
  case atStart => exact ⟨0, 0, [], by omega, rfl, rfl, rfl, Dg.nil, by decide, by decide, by simp [val, p10], World.ownsRow_nil _ _ _ _, Gr.refl _⟩
  case round =>
    obtain ⟨c, k, ds, hk, rfl, rfl, hl, hd, hc0, hc1, hv, hown, hg⟩ := hrel
    have hg0 : Gr w wr := (((Gr.refl w).alloc _).alloc _).trans hg
    have b1 : Blk wr w.heap.size [.bool ba, .slice pa la ca] := ((Blk.new (w := w) (T := 88) (vs := [.bool ba, .slice pa la ca]) rfl).alloc).gr hg
    have b2 : Blk wr (w.heap.size + 1) [.bool bb, .slice pb lb cb] := (Blk.new (w := w.alloc (.cells #[.bool ba, .slice pa la ca] 88)) (T := 88) (vs := [.bool bb, .slice pb lb cb]) (by simp)).gr hg
    have qa := b1.gw 0 rfl; have qb := b1.gw 1 rfl; have qc := b2.gw 0 rfl; have qd := b2.gw 1 rfl
    have c0 := b1.cell 0 rfl; have c1 := b1.cell 1 rfl; have c2 := b2.cell 0 rfl; have c3 := b2.cell 1 rfl
    clear b1 b2
    by_cases hlt : k < la
    · have ka := digit_gw ba pa la ca za k (HA.out.later hg0) (by omega)
      have kb := digit_gw bb pb lb cb zb k (HB.out.later hg0) (by omega)
      have b9a := DA.out.dig k; have b9b := DB.out.dig k
      have hst : ∀ c' d : Int, d - 10 * c' = za.getD k 0 - zb.getD k 0 - c → _ := fun c' d h => minus_step hv hl h
      unfold NumV at ka kb
      generalize za.getD k 0 = x at *
      generalize zb.getD k 0 = y at *
      have HG := Lib.hid hg; have HS := Lib.hid hst; have HD := Lib.hid hd; have HOW := Lib.hid hown; have HL := Lib.hid hl
      clear hg hv hst hd hown hl hg0
      go_wp2_with fail
      refine wp_region_gr (W := wr) (by kernel_rfl) (by kernel_rfl) (Gr.refl _) ?_
      repeat (go_big_quiet_step (fail))
      go_big_quiet_want; go_big_quiet_op
      go_big_quiet_call (exact Calls.cw (ka _))
      repeat (go_big_quiet_step (fail))
      go_big_quiet_want; go_big_quiet_op
      go_big_quiet_call (exact Calls.cw (kb _))
      repeat (go_big_quiet_step (fail))
      refine wpQuiet_nil ?_
      rintro _ ⟨x1, rfl⟩
      have hx3 := x1.gr
      generalize x1.val = w2 at *
      have how2 := owns_gr HOW.out hx3
      have hg2 := HG.out.trans hx3
      have HOW2 := Lib.hid how2; have HG2 := Lib.hid hg2
      clear HOW how2 hg2 hx3 HG qa qb qc qd c0 c1 c2 c3 ka kb
      by_cases hneg : x - y - c < 0
      all_goals
        go_wp2_with (first
          | (at_builtin; refine wpList_append_own _ rfl (.tmp 29) (.tmp 31) 86 rfl (w.heap.size + 2) 3 i0 (.int .i64 0) 1 8 Try.underlying86 hi hz0' hz1 hz2 rfl (by decide) _ _ _ rfl (HOW2.out.alloc _) ⟨w2.heap.size, 0, none⟩ 1 1 [_] rfl rfl (by exact one_new _ _ _) ?c3 ?c4 ?c5 ?c6 ?_))
        case c3 => first | (intro u hu; simp at hu; subst hu; rfl) | rfl
        case c4 => have := HL.out; unfold maxLen; omega
        case c5 => have := HL.out; omega
        case c6 => have := HG2.out.size; simp at this; simp; omega
        intro v' w1 hown1 hgrow _
        have hg1 : Gr ((w.alloc (.cells #[.bool ba, .slice pa la ca] 88)).alloc (.cells #[.bool bb, .slice pb lb cb] 88)) w1 := Below.grown (HG2.out.alloc _) hgrow (HG2.out.alloc _).size (fun k hk => by have := (HOW2.out.lt k hk).1; simp; omega)
        have HO1 := Lib.hid hown1; have HG1 := Lib.hid hg1
        clear hown1 hgrow hg1 HOW2 HG2
        go_wp2
        go_roundw
        case rel =>
          first
            | exact ⟨1, k + 1, ds ++ [x - y - c + 10], by omega, by go_num, by go_num, by simp [HL.out], HD.out.append (Dg.one (by omega)), by decide, by decide, HS.out 1 _ (by omega), by simpa using HO1.out, HG1.out⟩
            | exact ⟨0, k + 1, ds ++ [x - y - c], by omega, by go_num, by go_num, by simp [HL.out], HD.out.append (Dg.one (by omega)), by decide, by decide, HS.out 0 _ (by omega), by simpa using HO1.out, HG1.out⟩
        case measure => simp [intOf]; omega
    · have hke : k = la := by omega
      have hll : ds.length = za.length := by have := za1.out; omega
      have hf := minus_end (by rw [hke, ← za1.out] at hv; exact hv) hd hll hc0 HLB.out HLE.out
      obtain ⟨a, cap, rfl, hrow, hcap, hnone, hbl⟩ := owned_row hown (by omega) (wf_dg hd)
      have HF := Lib.hid (show Row w wr (.returned (.slice a ds.length cap)) (val za - val zb) from ⟨a, ds.length, cap, ds, rfl, hrow, hd, hf, hcap, hnone, fun ad h => by have := hbl ad h; omega, hg0⟩)
      clear hown hf hrow hcap hnone hbl hd hg hv hg0 hll
      subst hl
      go_wp2
      go_ret
      exact HF.out
end Bg
end Go.Proofs.Ytfpnkcmplmkghaa
/- Numbers in digits: Other, Sum, Less, walked. -/
set_option linter.unusedVariables false
set_option linter.unusedSimpArgs false
namespace Go.Proofs.Ytfpnkcmplmkghaa
open Go.RowKit
namespace Bg
theorem len_40 {w : World} {p : Option Addr} {len : Nat} {zs : List Int} {m : Int} (hr : IsRow .i64 w p len zs) (hc : Canon zs) (hv : val zs = (m.natAbs : Int)) (h40 : (m.natAbs : Int) < p10 40) : len ≤ 60 := by
  have := hc.len_le (n := 40) (by rw [hv]; exact h40)
  rw [← hr.1]; omega
/-- The cell for the answer, whatever lies in it. -/
def Res (w : World) (b : Nat) : Prop := ∃ u v, Blk w b [u, v]
theorem Res.gr {w w' : World} {b : Nat} (h : Res w b) (g : Gr w w') : Res w' b := by obtain ⟨u, v, h⟩ := h; exact ⟨u, v, h.gr g⟩
theorem Res.set {w : World} {b : Nat} (h : Res w b) (x y : Value) : Res ((w.setCell ⟨b, 0, none⟩ x).setCell ⟨b, 1, none⟩ y) b := by obtain ⟨u, v, h⟩ := h; exact ⟨x, y, h.set2 x y⟩
theorem Res.lt {w : World} {b : Nat} (h : Res w b) : b < w.heap.size := by obtain ⟨u, v, h⟩ := h; exact h.1
/-- What holds throughout a region of Sum. -/
abbrev SS (w : World) (ba : Bool) (pa : Option Addr) (la ca : Nat) (bb : Bool) (pb : Option Addr) (lb cb : Nat) (x : World) : Prop :=
  (Gr w x ∧ Res x (w.heap.size + 2)) ∧ x.cell? ⟨w.heap.size, 0, none⟩ = some (.bool ba) ∧ x.cell? ⟨w.heap.size, 1, none⟩ = some (.slice pa la ca) ∧ x.cell? ⟨w.heap.size + 1, 0, none⟩ = some (.bool bb) ∧ x.cell? ⟨w.heap.size + 1, 1, none⟩ = some (.slice pb lb cb)
theorem SS.gr {w : World} {ba : Bool} {pa : Option Addr} {la ca : Nat} {bb : Bool} {pb : Option Addr} {lb cb : Nat} {x y : World} (h : SS w ba pa la ca bb pb lb cb x) (g : Gr x y) : SS w ba pa la ca bb pb lb cb y := by
  obtain ⟨⟨h1, h2⟩, h3, h4, h5, h6⟩ := h
  exact ⟨⟨h1.trans g, h2.gr g⟩, by rw [g.cell (lt_of_cell h3)]; exact h3, by rw [g.cell (lt_of_cell h4)]; exact h4, by rw [g.cell (lt_of_cell h5)]; exact h5, by rw [g.cell (lt_of_cell h6)]; exact h6⟩
theorem SS.set {w : World} {ba : Bool} {pa : Option Addr} {la ca : Nat} {bb : Bool} {pb : Option Addr} {lb cb : Nat} {x : World} (h : SS w ba pa la ca bb pb lb cb x) (u v : Value) : SS w ba pa la ca bb pb lb cb ((x.setCell ⟨w.heap.size + 2, 0, none⟩ u).setCell ⟨w.heap.size + 2, 1, none⟩ v) := by
  obtain ⟨⟨h1, h2⟩, h3, h4, h5, h6⟩ := h
  have ne : ∀ (z : World) (p q : Addr) (t : Value), p.block ≠ q.block → (z.setCell p t).cell? q = z.cell? q := fun z p q t hn => by
    have hpq : p ≠ q := fun e => hn (by rw [e])
    exact World.cell?_setCell_other z p q t hpq
  refine ⟨⟨(h1.setCell (p := ⟨w.heap.size + 2, 0, none⟩) (by simp) u).setCell (p := ⟨w.heap.size + 2, 1, none⟩) (by simp) v, h2.set u v⟩, ?_, ?_, ?_, ?_⟩
  · rw [ne _ _ _ _ (by simp), ne _ _ _ _ (by simp)]; exact h3
  · rw [ne _ _ _ _ (by simp), ne _ _ _ _ (by simp)]; exact h4
  · rw [ne _ _ _ _ (by simp), ne _ _ _ _ (by simp)]; exact h5
  · rw [ne _ _ _ _ (by simp), ne _ _ _ _ (by simp)]; exact h6
theorem parts {w : World} {v : Value} {m : Int} (h : IsNum w v m) : ∃ a len cap zs, v = NumV (decide (m < 0)) a len cap ∧ IsRow .i64 w a len zs ∧ Canon zs ∧ val zs = (m.natAbs : Int) ∧ len ≤ cap ∧ (a = none → cap = 0) := h
set_option maxHeartbeats 4000000 in
set_option maxRecDepth 100000 in
theorem other_any (v : Value) (m : Int) (w : World) (h : IsNum w v m) : Calls Try.prog 130 #[v] w fun e w' => (∃ u, e = .returned u ∧ IsNum w' u (-m)) ∧ Gr w w' := by
  obtain ⟨a, len, cap, zs, rfl, hr, hc, hv, hcap, hnone⟩ := parts h
  have HR := Lib.hid hr; have HC := Lib.hid hc; have HV := Lib.hid hv
  clear h hr hc hv
  unfold NumV
  go_enter Try.func130, Try.ntmps130
  go_wp2_with fail
  have g0 : Gr w ((w.alloc (.cells #[.bool (decide (m < 0)), .slice a len cap] 88)).alloc (.cells #[.bool false, .slice none 0 0] 88)) := ((Gr.refl w).alloc _).alloc _
  have hB : Blk ((w.alloc (.cells #[.bool (decide (m < 0)), .slice a len cap] 88)).alloc (.cells #[.bool false, .slice none 0 0] 88)) (w.heap.size + 1) [.bool false, .slice none 0 0] := Blk.new (vs := [.bool false, .slice none 0 0]) (by simp)
  have hbl : ∀ ad, a = some ad → 0 < len → ad.block < w.heap.size := fun ad e hl => by
    obtain ⟨b, off, e2, hcell⟩ := HR.out.2.2.2 hl
    have := lt_of_cell (hcell 0 hl)
    rw [e] at e2; cases e2; exact this
  refine (trim_any _ _ _ _ zs _ (HR.out.later g0) HC.out.1 hcap hnone).mono ?_; rintro e w2 ⟨k, hk, rfl, hc, hvk, hg2⟩
  have hN : IsNum w2 (NumV (!decide (m < 0) && decide (0 < k)) a k cap) (-m) := num_of ((HR.out.later g0).later hg2) hk hc (by rw [hvk, HV.out]; omega) (fun hn => by by_cases hm : m < 0 <;> simp [hm] <;> omega) hcap hnone
  have hB2 := hB.gr hg2
  have hG := g0.trans hg2
  have c0 := hB2.cell 0 rfl; have c1 := hB2.cell 1 rfl; have f0 := hB2.free 0 rfl; have f1 := hB2.free 1 rfl
  have HB := Lib.hid hB2; have HN := Lib.hid hN; have HGG := Lib.hid hG; have HBL := Lib.hid hbl; have HK := Lib.hid hk
  clear hB hB2 hN hG hc hvk hg2 HV HR hbl g0 hk
  unfold NumV at *
  generalize (!decide (m < 0) && decide (0 < k)) = bb at *
  go_wp2_with fail
  refine ⟨rfl, _, results_blk rfl Sx.ty88 rfl rfl (HB.out.set2 _ _) rfl, ⟨_, rfl, ?_⟩, ?_⟩
  · exact IsNum.set (IsNum.set HN.out (fun ad h h0 => by have := HBL.out ad h (by have := HK.out; omega); simp; omega) _) (fun ad h h0 => by have := HBL.out ad h (by have := HK.out; omega); simp; omega) _
  · exact (HGG.out.setCell (p := ⟨w.heap.size + 1, 0, none⟩) (by simp) _).setCell (p := ⟨w.heap.size + 1, 1, none⟩) (by simp) _
set_option maxHeartbeats 8000000 in
set_option maxRecDepth 100000 in
theorem sum_any (va vb : Value) (m n : Int) (w : World) (ha : IsNum w va m) (hb : IsNum w vb n) (m40 : (m.natAbs : Int) < p10 40) (n40 : (n.natAbs : Int) < p10 40) :
    Calls Try.prog 70 #[va, vb] w fun e w' => (∃ u, e = .returned u ∧ IsNum w' u (m + n)) ∧ Gr w w' := by
  obtain ⟨pa, la, ca, za, rfl, hra, hca, hva, hcapa, hnonea⟩ := parts ha
  obtain ⟨pb, lb, cb, zb, rfl, hrb, hcb, hvb, hcapb, hnoneb⟩ := parts hb
  have l60 := len_40 hra hca hva m40
  have k60 := len_40 hrb hcb hvb n40
  have HA := Lib.hid hra; have HB := Lib.hid hrb; have CA := Lib.hid hca; have CB := Lib.hid hcb; have VA := Lib.hid hva; have VB := Lib.hid hvb
  clear ha hb hra hrb hca hcb hva hvb m40 n40
  unfold NumV
  generalize hbm : decide (m < 0) = bm
  generalize hbn : decide (n < 0) = bn
  have gs : ∀ x, SS w bm pa la ca bn pb lb cb x → Gr w x := fun x h => h.1.1
  have rs : ∀ x, SS w bm pa la ca bn pb lb cb x → Res x (w.heap.size + 2) := fun x h => h.1.2
  have hS0 : SS w bm pa la ca bn pb lb cb (((w.alloc (.cells #[.bool bm, .slice pa la ca] 88)).alloc (.cells #[.bool bn, .slice pb lb cb] 88)).alloc (.cells #[.bool false, .slice none 0 0] 88)) := by
    have b1 := ((Blk.new (w := w) (T := 88) (vs := [.bool bm, .slice pa la ca]) rfl).alloc (o := .cells #[.bool bn, .slice pb lb cb] 88)).alloc (o := .cells #[.bool false, .slice none 0 0] 88)
    have b2 := (Blk.new (w := w.alloc (.cells #[.bool bm, .slice pa la ca] 88)) (b := w.heap.size + 1) (T := 88) (vs := [.bool bn, .slice pb lb cb]) (by simp)).alloc (o := .cells #[.bool false, .slice none 0 0] 88)
    exact ⟨⟨(((Gr.refl w).alloc _).alloc _).alloc _, _, _, Blk.new (vs := [.bool false, .slice none 0 0]) (by simp)⟩, b1.cell 0 rfl, b1.cell 1 rfl, b2.cell 0 rfl, b2.cell 1 rfl⟩
  have HM := Lib.hid hbm; have HN := Lib.hid hbn
  clear hbm hbn
  go_enter Try.func70, Try.ntmps70
  cases bm <;> cases bn
  · go_wp2_with fail
    go_region_held3 (fun x => (Gr w x ∧ Res x (w.heap.size + 2)) ∧ x.cell? ⟨w.heap.size, 0, none⟩ = some (.bool false) ∧ x.cell? ⟨w.heap.size, 1, none⟩ = some (.slice pa la ca) ∧ x.cell? ⟨w.heap.size + 1, 0, none⟩ = some (.bool false) ∧ x.cell? ⟨w.heap.size + 1, 1, none⟩ = some (.slice pb lb cb))
            (first | exact SS.gr hS0 (Gr.refl _).drew | exact SS.gr (by assumption) hg | exact SS.set (by assumption) _ _)
            (first
              | (go_at_call 110; refine (plus_any false pa la ca za false pb lb cb zb _ (HA.out.later (gs _ (by assumption))) (HB.out.later (gs _ (by assumption))) CA.out.1 CB.out.1 l60 k60).mono ?_; rintro e x1 ⟨p, len, cap, zs, rfl, hr, hd, hv, hcap, hnone, hbl, hg⟩; have hL1 := (rs _ (by assumption)).lt)
              | (go_at_call 109; refine (trim_any _ _ _ _ zs _ hr hd hcap hnone).mono ?_; rintro e x2 ⟨k, hk, rfl, hc, hvk, hg⟩; obtain ⟨r0, r1, hB⟩ := (rs _ (by assumption)).gr hg; have hG2 := (gs _ (by assumption)).trans hg; have q0 := hB.cell 0 rfl; have q1 := hB.cell 1 rfl; have f0 := hB.free 0 rfl; have f1 := hB.free 1 rfl; have hrk := hr.later hg; unfold NumV))
    have hNum := num_of (b := false) (n := m + n) hrk hk hc (by rw [hvk, hv, VA.out, VB.out]; have := HM.out; have := HN.out; simp only [decide_eq_true_eq, decide_eq_false_iff_not] at *; omega) (fun _ => Eq.symm (by have := HM.out; have := HN.out; simp only [decide_eq_true_eq, decide_eq_false_iff_not] at *; omega)) hcap hnone
    have hrb : ∀ ad, p = some ad → 0 < k → ad.block ≠ w.heap.size + 2 := fun ad h _ => by have := hbl ad h; omega
    clear hr hd hv hcap hnone hbl hc hvk hk hrk
    go_wp2_with fail
    refine ⟨rfl, _, results_blk rfl Sx.ty88 rfl rfl (hB.set2 _ _) rfl, ⟨_, rfl, ?_⟩, ?_⟩
    · exact IsNum.set (IsNum.set hNum hrb _) hrb _
    · exact (hG2.setCell (p := ⟨w.heap.size + 2, 0, none⟩) (by simp) _).setCell (p := ⟨w.heap.size + 2, 1, none⟩) (by simp) _
  · by_cases hle : val zb ≤ val za
    · have hsz : 0 ≤ sz (val za) (val zb) := by unfold sz; rw [if_neg (by omega)]; split <;> decide
      have HLE := Lib.hid hle; clear hle
      go_wp2_with fail
      refine (size_any _ _ _ _ za _ _ _ _ zb _ (HA.out.later (gs _ hS0)) (HB.out.later (gs _ hS0)) CA.out.1 CB.out.1 l60 k60).mono ?_; rintro e x0 ⟨rfl, hg0⟩
      replace hS0 := SS.gr hS0 hg0
      generalize sz (val za) (val zb) = sv at *
      obtain ⟨⟨hy0, hy5⟩, hy1, hy2, hy3, hy4⟩ := id hS0
      clear hg0 hy0 hy5
      go_wp2_with fail
      go_region_held3 (fun x => (Gr w x ∧ Res x (w.heap.size + 2)) ∧ x.cell? ⟨w.heap.size, 0, none⟩ = some (.bool false) ∧ x.cell? ⟨w.heap.size, 1, none⟩ = some (.slice pa la ca) ∧ x.cell? ⟨w.heap.size + 1, 0, none⟩ = some (.bool true) ∧ x.cell? ⟨w.heap.size + 1, 1, none⟩ = some (.slice pb lb cb))
              (first | exact SS.gr hS0 (Gr.refl _).drew | exact SS.gr (by assumption) hg | exact SS.set (by assumption) _ _)
              (first
                | (go_at_call 112; refine (minus_any false pa la ca za true pb lb cb zb _ (HA.out.later (gs _ (by assumption))) (HB.out.later (gs _ (by assumption))) CA.out.1 CB.out l60 HLE.out).mono ?_; rintro e x1 ⟨p, len, cap, zs, rfl, hr, hd, hv, hcap, hnone, hbl, hg⟩; have hL1 := (rs _ (by assumption)).lt)
                | (go_at_call 109; refine (trim_any _ _ _ _ zs _ hr hd hcap hnone).mono ?_; rintro e x2 ⟨k, hk, rfl, hc, hvk, hg⟩; obtain ⟨r0, r1, hB⟩ := (rs _ (by assumption)).gr hg; have hG2 := (gs _ (by assumption)).trans hg; have q0 := hB.cell 0 rfl; have q1 := hB.cell 1 rfl; have f0 := hB.free 0 rfl; have f1 := hB.free 1 rfl; have hrk := hr.later hg; unfold NumV))
      have hNum := num_of (b := false) (n := m + n) hrk hk hc (by rw [hvk, hv, VA.out, VB.out]; have := HM.out; have := HN.out; have := HLE.out; rw [VA.out, VB.out] at this; simp only [decide_eq_true_eq, decide_eq_false_iff_not] at *; omega) (fun _ => Eq.symm (by have := HM.out; have := HN.out; have := HLE.out; rw [VA.out, VB.out] at this; simp only [decide_eq_true_eq, decide_eq_false_iff_not] at *; omega)) hcap hnone
      have hrb : ∀ ad, p = some ad → 0 < k → ad.block ≠ w.heap.size + 2 := fun ad h _ => by have := hbl ad h; omega
      clear hr hd hv hcap hnone hbl hc hvk hk hrk
      go_wp2_with fail
      refine ⟨rfl, _, results_blk rfl Sx.ty88 rfl rfl (hB.set2 _ _) rfl, ⟨_, rfl, ?_⟩, ?_⟩
      · exact IsNum.set (IsNum.set hNum hrb _) hrb _
      · exact (hG2.setCell (p := ⟨w.heap.size + 2, 0, none⟩) (by simp) _).setCell (p := ⟨w.heap.size + 2, 1, none⟩) (by simp) _
    · have hsz : sz (val za) (val zb) < 0 := by unfold sz; rw [if_pos (by omega)]; decide
      have hle2 : val za ≤ val zb := by omega
      have HLE := Lib.hid hle2; clear hle hle2
      go_wp2_with fail
      refine (size_any _ _ _ _ za _ _ _ _ zb _ (HA.out.later (gs _ hS0)) (HB.out.later (gs _ hS0)) CA.out.1 CB.out.1 l60 k60).mono ?_; rintro e x0 ⟨rfl, hg0⟩
      replace hS0 := SS.gr hS0 hg0
      generalize sz (val za) (val zb) = sv at *
      obtain ⟨⟨hy0, hy5⟩, hy1, hy2, hy3, hy4⟩ := id hS0
      clear hg0 hy0 hy5
      go_wp2_with fail
      go_region_held3 (fun x => (Gr w x ∧ Res x (w.heap.size + 2)) ∧ x.cell? ⟨w.heap.size, 0, none⟩ = some (.bool false) ∧ x.cell? ⟨w.heap.size, 1, none⟩ = some (.slice pa la ca) ∧ x.cell? ⟨w.heap.size + 1, 0, none⟩ = some (.bool true) ∧ x.cell? ⟨w.heap.size + 1, 1, none⟩ = some (.slice pb lb cb))
              (first | exact SS.gr hS0 (Gr.refl _).drew | exact SS.gr (by assumption) hg | exact SS.set (by assumption) _ _)
              (first
                | (go_at_call 112; refine (minus_any true pb lb cb zb false pa la ca za _ (HB.out.later (gs _ (by assumption))) (HA.out.later (gs _ (by assumption))) CB.out.1 CA.out k60 HLE.out).mono ?_; rintro e x1 ⟨p, len, cap, zs, rfl, hr, hd, hv, hcap, hnone, hbl, hg⟩; have hL1 := (rs _ (by assumption)).lt)
                | (go_at_call 109; refine (trim_any _ _ _ _ zs _ hr hd hcap hnone).mono ?_; rintro e x2 ⟨k, hk, rfl, hc, hvk, hg⟩; obtain ⟨r0, r1, hB⟩ := (rs _ (by assumption)).gr hg; have hG2 := (gs _ (by assumption)).trans hg; have q0 := hB.cell 0 rfl; have q1 := hB.cell 1 rfl; have f0 := hB.free 0 rfl; have f1 := hB.free 1 rfl; have hrk := hr.later hg; unfold NumV))
      have hNum := num_of (b := true) (n := m + n) hrk hk hc (by rw [hvk, hv, VA.out, VB.out]; have := HM.out; have := HN.out; have := HLE.out; rw [VA.out, VB.out] at this; simp only [decide_eq_true_eq, decide_eq_false_iff_not] at *; omega) (fun _ => Eq.symm (by have := HM.out; have := HN.out; have := HLE.out; rw [VA.out, VB.out] at this; simp only [decide_eq_true_eq, decide_eq_false_iff_not] at *; omega)) hcap hnone
      have hrb : ∀ ad, p = some ad → 0 < k → ad.block ≠ w.heap.size + 2 := fun ad h _ => by have := hbl ad h; omega
      clear hr hd hv hcap hnone hbl hc hvk hk hrk
      go_wp2_with fail
      refine ⟨rfl, _, results_blk rfl Sx.ty88 rfl rfl (hB.set2 _ _) rfl, ⟨_, rfl, ?_⟩, ?_⟩
      · exact IsNum.set (IsNum.set hNum hrb _) hrb _
      · exact (hG2.setCell (p := ⟨w.heap.size + 2, 0, none⟩) (by simp) _).setCell (p := ⟨w.heap.size + 2, 1, none⟩) (by simp) _
  · by_cases hle : val zb ≤ val za
    · have hsz : 0 ≤ sz (val za) (val zb) := by unfold sz; rw [if_neg (by omega)]; split <;> decide
      have HLE := Lib.hid hle; clear hle
      go_wp2_with fail
      refine (size_any _ _ _ _ za _ _ _ _ zb _ (HA.out.later (gs _ hS0)) (HB.out.later (gs _ hS0)) CA.out.1 CB.out.1 l60 k60).mono ?_; rintro e x0 ⟨rfl, hg0⟩
      replace hS0 := SS.gr hS0 hg0
      generalize sz (val za) (val zb) = sv at *
      obtain ⟨⟨hy0, hy5⟩, hy1, hy2, hy3, hy4⟩ := id hS0
      clear hg0 hy0 hy5
      go_wp2_with fail
      go_region_held3 (fun x => (Gr w x ∧ Res x (w.heap.size + 2)) ∧ x.cell? ⟨w.heap.size, 0, none⟩ = some (.bool true) ∧ x.cell? ⟨w.heap.size, 1, none⟩ = some (.slice pa la ca) ∧ x.cell? ⟨w.heap.size + 1, 0, none⟩ = some (.bool false) ∧ x.cell? ⟨w.heap.size + 1, 1, none⟩ = some (.slice pb lb cb))
              (first | exact SS.gr hS0 (Gr.refl _).drew | exact SS.gr (by assumption) hg | exact SS.set (by assumption) _ _)
              (first
                | (go_at_call 112; refine (minus_any true pa la ca za false pb lb cb zb _ (HA.out.later (gs _ (by assumption))) (HB.out.later (gs _ (by assumption))) CA.out.1 CB.out l60 HLE.out).mono ?_; rintro e x1 ⟨p, len, cap, zs, rfl, hr, hd, hv, hcap, hnone, hbl, hg⟩; have hL1 := (rs _ (by assumption)).lt)
                | (go_at_call 109; refine (trim_any _ _ _ _ zs _ hr hd hcap hnone).mono ?_; rintro e x2 ⟨k, hk, rfl, hc, hvk, hg⟩; obtain ⟨r0, r1, hB⟩ := (rs _ (by assumption)).gr hg; have hG2 := (gs _ (by assumption)).trans hg; have q0 := hB.cell 0 rfl; have q1 := hB.cell 1 rfl; have f0 := hB.free 0 rfl; have f1 := hB.free 1 rfl; have hrk := hr.later hg; unfold NumV))
      have hNum := num_of (b := true) (n := m + n) hrk hk hc (by rw [hvk, hv, VA.out, VB.out]; have := HM.out; have := HN.out; have := HLE.out; rw [VA.out, VB.out] at this; simp only [decide_eq_true_eq, decide_eq_false_iff_not] at *; omega) (fun _ => Eq.symm (by have := HM.out; have := HN.out; have := HLE.out; rw [VA.out, VB.out] at this; simp only [decide_eq_true_eq, decide_eq_false_iff_not] at *; omega)) hcap hnone
      have hrb : ∀ ad, p = some ad → 0 < k → ad.block ≠ w.heap.size + 2 := fun ad h _ => by have := hbl ad h; omega
      clear hr hd hv hcap hnone hbl hc hvk hk hrk
      go_wp2_with fail
      refine ⟨rfl, _, results_blk rfl Sx.ty88 rfl rfl (hB.set2 _ _) rfl, ⟨_, rfl, ?_⟩, ?_⟩
      · exact IsNum.set (IsNum.set hNum hrb _) hrb _
      · exact (hG2.setCell (p := ⟨w.heap.size + 2, 0, none⟩) (by simp) _).setCell (p := ⟨w.heap.size + 2, 1, none⟩) (by simp) _
    · have hsz : sz (val za) (val zb) < 0 := by unfold sz; rw [if_pos (by omega)]; decide
      have hle2 : val za ≤ val zb := by omega
      have HLE := Lib.hid hle2; clear hle hle2
      go_wp2_with fail
      refine (size_any _ _ _ _ za _ _ _ _ zb _ (HA.out.later (gs _ hS0)) (HB.out.later (gs _ hS0)) CA.out.1 CB.out.1 l60 k60).mono ?_; rintro e x0 ⟨rfl, hg0⟩
      replace hS0 := SS.gr hS0 hg0
      generalize sz (val za) (val zb) = sv at *
      obtain ⟨⟨hy0, hy5⟩, hy1, hy2, hy3, hy4⟩ := id hS0
      clear hg0 hy0 hy5
      go_wp2_with fail
      go_region_held3 (fun x => (Gr w x ∧ Res x (w.heap.size + 2)) ∧ x.cell? ⟨w.heap.size, 0, none⟩ = some (.bool true) ∧ x.cell? ⟨w.heap.size, 1, none⟩ = some (.slice pa la ca) ∧ x.cell? ⟨w.heap.size + 1, 0, none⟩ = some (.bool false) ∧ x.cell? ⟨w.heap.size + 1, 1, none⟩ = some (.slice pb lb cb))
              (first | exact SS.gr hS0 (Gr.refl _).drew | exact SS.gr (by assumption) hg | exact SS.set (by assumption) _ _)
              (first
                | (go_at_call 112; refine (minus_any false pb lb cb zb true pa la ca za _ (HB.out.later (gs _ (by assumption))) (HA.out.later (gs _ (by assumption))) CB.out.1 CA.out k60 HLE.out).mono ?_; rintro e x1 ⟨p, len, cap, zs, rfl, hr, hd, hv, hcap, hnone, hbl, hg⟩; have hL1 := (rs _ (by assumption)).lt)
                | (go_at_call 109; refine (trim_any _ _ _ _ zs _ hr hd hcap hnone).mono ?_; rintro e x2 ⟨k, hk, rfl, hc, hvk, hg⟩; obtain ⟨r0, r1, hB⟩ := (rs _ (by assumption)).gr hg; have hG2 := (gs _ (by assumption)).trans hg; have q0 := hB.cell 0 rfl; have q1 := hB.cell 1 rfl; have f0 := hB.free 0 rfl; have f1 := hB.free 1 rfl; have hrk := hr.later hg; unfold NumV))
      have hNum := num_of (b := false) (n := m + n) hrk hk hc (by rw [hvk, hv, VA.out, VB.out]; have := HM.out; have := HN.out; have := HLE.out; rw [VA.out, VB.out] at this; simp only [decide_eq_true_eq, decide_eq_false_iff_not] at *; omega) (fun _ => Eq.symm (by have := HM.out; have := HN.out; have := HLE.out; rw [VA.out, VB.out] at this; simp only [decide_eq_true_eq, decide_eq_false_iff_not] at *; omega)) hcap hnone
      have hrb : ∀ ad, p = some ad → 0 < k → ad.block ≠ w.heap.size + 2 := fun ad h _ => by have := hbl ad h; omega
      clear hr hd hv hcap hnone hbl hc hvk hk hrk
      go_wp2_with fail
      refine ⟨rfl, _, results_blk rfl Sx.ty88 rfl rfl (hB.set2 _ _) rfl, ⟨_, rfl, ?_⟩, ?_⟩
      · exact IsNum.set (IsNum.set hNum hrb _) hrb _
      · exact (hG2.setCell (p := ⟨w.heap.size + 2, 0, none⟩) (by simp) _).setCell (p := ⟨w.heap.size + 2, 1, none⟩) (by simp) _
  · go_wp2_with fail
    go_region_held3 (fun x => (Gr w x ∧ Res x (w.heap.size + 2)) ∧ x.cell? ⟨w.heap.size, 0, none⟩ = some (.bool true) ∧ x.cell? ⟨w.heap.size, 1, none⟩ = some (.slice pa la ca) ∧ x.cell? ⟨w.heap.size + 1, 0, none⟩ = some (.bool true) ∧ x.cell? ⟨w.heap.size + 1, 1, none⟩ = some (.slice pb lb cb))
            (first | exact SS.gr hS0 (Gr.refl _).drew | exact SS.gr (by assumption) hg | exact SS.set (by assumption) _ _)
            (first
              | (go_at_call 110; refine (plus_any true pa la ca za true pb lb cb zb _ (HA.out.later (gs _ (by assumption))) (HB.out.later (gs _ (by assumption))) CA.out.1 CB.out.1 l60 k60).mono ?_; rintro e x1 ⟨p, len, cap, zs, rfl, hr, hd, hv, hcap, hnone, hbl, hg⟩; have hL1 := (rs _ (by assumption)).lt)
              | (go_at_call 109; refine (trim_any _ _ _ _ zs _ hr hd hcap hnone).mono ?_; rintro e x2 ⟨k, hk, rfl, hc, hvk, hg⟩; obtain ⟨r0, r1, hB⟩ := (rs _ (by assumption)).gr hg; have hG2 := (gs _ (by assumption)).trans hg; have q0 := hB.cell 0 rfl; have q1 := hB.cell 1 rfl; have f0 := hB.free 0 rfl; have f1 := hB.free 1 rfl; have hrk := hr.later hg; unfold NumV))
    have hNum := num_of (b := true) (n := m + n) hrk hk hc (by rw [hvk, hv, VA.out, VB.out]; have := HM.out; have := HN.out; simp only [decide_eq_true_eq, decide_eq_false_iff_not] at *; omega) (fun _ => Eq.symm (by have := HM.out; have := HN.out; simp only [decide_eq_true_eq, decide_eq_false_iff_not] at *; omega)) hcap hnone
    have hrb : ∀ ad, p = some ad → 0 < k → ad.block ≠ w.heap.size + 2 := fun ad h _ => by have := hbl ad h; omega
    clear hr hd hv hcap hnone hbl hc hvk hk hrk
    go_wp2_with fail
    refine ⟨rfl, _, results_blk rfl Sx.ty88 rfl rfl (hB.set2 _ _) rfl, ⟨_, rfl, ?_⟩, ?_⟩
    · exact IsNum.set (IsNum.set hNum hrb _) hrb _
    · exact (hG2.setCell (p := ⟨w.heap.size + 2, 0, none⟩) (by simp) _).setCell (p := ⟨w.heap.size + 2, 1, none⟩) (by simp) _
end Bg
end Go.Proofs.Ytfpnkcmplmkghaa
/- Numbers in digits: Less, walked. -/
set_option linter.unusedVariables false
set_option linter.unusedSimpArgs false
namespace Go.Proofs.Ytfpnkcmplmkghaa
open Go.RowKit
namespace Bg
set_option maxHeartbeats 8000000 in
set_option maxRecDepth 100000 in
theorem less_any (va vb : Value) (m n : Int) (w : World) (ha : IsNum w va m) (hb : IsNum w vb n) (m40 : (m.natAbs : Int) < p10 40) (n40 : (n.natAbs : Int) < p10 40) :
    Calls Try.prog 97 #[va, vb] w fun e w' => e = .returned (.bool (decide (m < n))) ∧ Gr w w' := by
  obtain ⟨pa, la, ca, za, rfl, hra, hca, hva, hcapa, hnonea⟩ := parts ha
  obtain ⟨pb, lb, cb, zb, rfl, hrb, hcb, hvb, hcapb, hnoneb⟩ := parts hb
  have HA := Lib.hid ha; have HB := Lib.hid hb
  clear ha hb hra hrb hca hcb hva hvb
  unfold NumV at *
  generalize hbm : decide (m < 0) = bm at *
  generalize hbn : decide (n < 0) = bn at *
  clear hbm hbn
  go_enter Try.func97, Try.ntmps97
  go_wp2_with fail
  have hdec : decide (m + -n < 0) = decide (m < n) := by
    by_cases h : m < n
    · rw [decide_eq_true h, decide_eq_true (by omega)]
    · rw [decide_eq_false h, decide_eq_false (by omega)]
  have HDEC := Lib.hid hdec; clear hdec
  have N40 := Lib.hid (show ((-n).natAbs : Int) < p10 40 by rw [Int.natAbs_neg]; exact n40)
  have M40 := Lib.hid m40; clear m40 n40
  have g0 : Gr w ((w.alloc (.cells #[.bool bm, .slice pa la ca] 88)).alloc (.cells #[.bool bn, .slice pb lb cb] 88)) := ((Gr.refl w).alloc _).alloc _
  have b1 := (Blk.new (w := w) (T := 88) (vs := [.bool bm, .slice pa la ca]) rfl).alloc (o := .cells #[.bool bn, .slice pb lb cb] 88)
  have b2 := Blk.new (w := w.alloc (.cells #[.bool bm, .slice pa la ca] 88)) (b := w.heap.size + 1) (T := 88) (vs := [.bool bn, .slice pb lb cb]) (by simp)
  have hsz : ((w.alloc (.cells #[.bool bm, .slice pa la ca] 88)).alloc (.cells #[.bool bn, .slice pb lb cb] 88)).heap.size = w.heap.size + 2 := by simp
  simp only [List.toArray] at b1 b2
  generalize ((w.alloc (.cells #[.bool bm, .slice pa la ca] 88)).alloc (.cells #[.bool bn, .slice pb lb cb] 88)) = W at *
  have mk : ∀ x, Gr W x → (Gr W x ∧ x.cell? ⟨w.heap.size, 0, none⟩ = some (.bool bm) ∧ x.cell? ⟨w.heap.size, 1, none⟩ = some (.slice pa la ca) ∧ x.cell? ⟨w.heap.size + 1, 0, none⟩ = some (.bool bn) ∧ x.cell? ⟨w.heap.size + 1, 1, none⟩ = some (.slice pb lb cb)) :=
    fun x h => ⟨h, (b1.gr h).cell 0 rfl, (b1.gr h).cell 1 rfl, (b2.gr h).cell 0 rfl, (b2.gr h).cell 1 rfl⟩
  have gs : ∀ x, (Gr W x ∧ x.cell? ⟨w.heap.size, 0, none⟩ = some (.bool bm) ∧ x.cell? ⟨w.heap.size, 1, none⟩ = some (.slice pa la ca) ∧ x.cell? ⟨w.heap.size + 1, 0, none⟩ = some (.bool bn) ∧ x.cell? ⟨w.heap.size + 1, 1, none⟩ = some (.slice pb lb cb)) → Gr W x := fun x h => h.1
  clear b1 b2
  have HSZ := Lib.hid hsz; clear hsz; have MK := Lib.hid mk; have GS := Lib.hid gs; clear mk gs
  go_region_held3 (fun x => Gr W x ∧ x.cell? ⟨w.heap.size, 0, none⟩ = some (.bool bm) ∧ x.cell? ⟨w.heap.size, 1, none⟩ = some (.slice pa la ca) ∧ x.cell? ⟨w.heap.size + 1, 0, none⟩ = some (.bool bn) ∧ x.cell? ⟨w.heap.size + 1, 1, none⟩ = some (.slice pb lb cb))
    (first | exact MK.out _ (Gr.refl _).drew | exact MK.out _ ((Gr.refl _).alloc _).drew | exact MK.out _ ((GS.out _ (by assumption)).trans hg) | exact MK.out _ (Gr.alloc (by assumption) _) | exact MK.out _ (((GS.out _ (by assumption)).setCell (by first | exact Nat.le_refl _ | assumption | omega) _).setCell (by first | exact Nat.le_refl _ | assumption | omega) _))
    (first
      | (go_at_call 130; refine (other_any _ n _ (HB.out.gr (g0.trans (GS.out _ (by assumption))))).mono ?_; rintro e x1 ⟨⟨u, rfl, hn1⟩, hg⟩; have hG1 := (GS.out _ (by assumption)).trans hg; have hsz1 := hG1.size; have hcs := hg.cells; have hfs := hg.frozens; have hss := hg.size; simp at hss; try (have hst : W.heap.size < x1.heap.size := Nat.lt_of_succ_le hss))
      | (go_at_call 70; refine (sum_any _ _ m (-n) _ (HA.out.gr (g0.trans (GS.out _ (by assumption)))) (hn1.gr (by first | exact Gr.refl _ | exact (Gr.refl _).alloc _)) M40.out N40.out).mono ?_; rintro e x2 ⟨⟨u2, rfl, hn2⟩, hg⟩; have hG2 := (GS.out _ (by assumption)).trans hg; have hsz2 := hG2.size; have hcs2 := hg.cells; have hfs2 := hg.frozens; obtain ⟨a2, len2, cap2, zs2, rfl, -⟩ := parts hn2; rw [HDEC.out] at *; unfold NumV))
  all_goals
    have hGE := GS.out _ (by assumption)
    have HGE := Lib.hid hGE
    clear hGE
    go_wp2
    go_ret
    exact ⟨rfl, g0.trans HGE.out⟩
end Bg
end Go.Proofs.Ytfpnkcmplmkghaa
/- Numbers in digits, plain: products. Nothing of the program. -/
set_option linter.unusedVariables false
namespace Go.Proofs.Ytfpnkcmplmkghaa.Bg
theorem val_set : ∀ (l : List Int) (j : Nat) (v : Int), j < l.length → val (l.set j v) = val l + p10 j * (v - l.getD j 0)
  | [], j, v, h => by simp at h
  | d :: l, 0, v, _ => by simp [val, p10]; omega
  | d :: l, j + 1, v, h => by
    have := val_set l j v (by simpa using h)
    simp only [List.set_cons_succ, val, p10, List.getD_cons_succ, this]
    grind
theorem getD_set (l : List Int) (i j : Nat) (v : Int) (h : i < l.length) : (l.set i v).getD j 0 = if j = i then v else l.getD j 0 := by
  by_cases e : j = i
  · subst e; simp [List.getD, h]
  · rw [if_neg e]; simp [List.getD, List.getElem?_set_ne (Ne.symm e)]
/-- The row while row i's digit k is at hand. -/
structure Mid (N lb i k : Nat) (os : List Int) : Prop where
  len : os.length = N
  low : ∀ j, 0 ≤ os.getD j 0
  most : ∀ j, j ≠ i + k → os.getD j 0 ≤ 9
  here : os.getD (i + k) 0 ≤ 18
  past : k < lb → ∀ j, i + lb ≤ j → os.getD j 0 = 0
  past1 : ∀ j, i + lb < j → os.getD j 0 = 0
  full : k = lb → os.getD (i + k) 0 ≤ 9
theorem Mid.nine {N lb i k : Nat} {os : List Int} (h : Mid N lb i k os) (hk : k = 0 ∨ k = lb) (h0 : k = 0 → os.getD (i + k) 0 ≤ 9) : ∀ j, os.getD j 0 ≤ 9 := fun j => by
  by_cases e : j = i + k
  · subst e
    rcases hk with q | q
    · exact h0 q
    · exact h.full q
  · exact h.most j e
def stp (os : List Int) (J : Nat) (x : Int) : List Int := ((os.set J x).set (J + 1) (os.getD (J + 1) 0 + x / 10)).set J (x % 10)
theorem stp_get (os : List Int) (J : Nat) (x : Int) (h : J + 1 < os.length) (j : Nat) : (stp os J x).getD j 0 = if j = J then x % 10 else if j = J + 1 then os.getD (J + 1) 0 + x / 10 else os.getD j 0 := by
  unfold stp
  rw [getD_set _ _ _ _ (by simp; omega), getD_set _ _ _ _ (by simp; omega), getD_set _ _ _ _ (by omega)]
  by_cases e : j = J
  · rw [if_pos e, if_pos e]
  · rw [if_neg e, if_neg e, if_neg e]
theorem stp_len (os : List Int) (J : Nat) (x : Int) : (stp os J x).length = os.length := by simp [stp]
theorem stp_val (os : List Int) (J : Nat) (x : Int) (h : J + 1 < os.length) : val (stp os J x) = val os + p10 J * (x - os.getD J 0) := by
  unfold stp
  have a1 := val_set os J x (by omega)
  have a2 := val_set (os.set J x) (J + 1) (os.getD (J + 1) 0 + x / 10) (by rw [List.length_set]; omega)
  have a3 := val_set ((os.set J x).set (J + 1) (os.getD (J + 1) 0 + x / 10)) J (x % 10) (by rw [List.length_set, List.length_set]; omega)
  rw [getD_set os J (J + 1) x (by omega), if_neg (by omega)] at a2
  rw [getD_set (os.set J x) (J + 1) J _ (by rw [List.length_set]; omega), if_neg (by omega), getD_set os J J x (by omega), if_pos rfl] at a3
  rw [a3, a2, a1]
  have e : x = x % 10 + 10 * (x / 10) := by omega
  generalize x % 10 = r at *
  generalize x / 10 = q at *
  simp only [p10]
  grind
theorem Mid.step {N lb i k : Nat} {os : List Int} (h : Mid N lb i k os) (hk : k < lb) (hN : i + lb + 1 ≤ N) {a b : Int} (ha : 0 ≤ a ∧ a ≤ 9) (hb : 0 ≤ b ∧ b ≤ 9) :
    Mid N lb i (k + 1) (stp os (i + k) (os.getD (i + k) 0 + a * b)) := by
  have hL : i + k + 1 < os.length := by rw [h.len]; omega
  have hab : 0 ≤ a * b ∧ a * b ≤ 81 := by
    have h1 : 0 ≤ a * b := Int.mul_nonneg ha.1 hb.1
    have h2 : a * b ≤ 9 * 9 := Int.mul_le_mul ha.2 hb.2 hb.1 (by omega)
    omega
  have h3 := h.low (i + k); have h4 := h.here; have h5 := h.most (i + k + 1) (by omega); have h6 := h.low (i + k + 1)
  generalize a * b = p at *
  have hg := stp_get os (i + k) (os.getD (i + k) 0 + p) hL
  refine ⟨by rw [stp_len, h.len], fun j => ?_, fun j hj => ?_, ?_, fun hk1 j hj => ?_, fun j hj => ?_, fun hk1 => ?_⟩
  · rw [hg]
    have := h.low j
    split
    · omega
    · split <;> omega
  · rw [hg]
    split
    · omega
    · split
      · omega
      · exact h.most j (by omega)
  · rw [hg, if_neg (by omega), if_pos (by omega)]; omega
  · rw [hg, if_neg (by omega), if_neg (by omega)]; exact h.past hk j hj
  · rw [hg, if_neg (by omega), if_neg (by omega)]; exact h.past1 j hj
  · rw [hg, if_neg (by omega), if_pos (by omega)]
    have := h.past hk (i + k + 1) (by omega)
    omega
/-- Between the rows. -/
theorem Mid.next {N lb i : Nat} {os : List Int} (h : Mid N lb i lb os) : Mid N lb (i + 1) 0 os := by
  have h9 := h.nine (.inr rfl) (fun e => by have := h.full rfl; exact this)
  exact ⟨h.len, h.low, fun j _ => h9 j, by have := h9 (i + 1 + 0); omega, fun _ j hj => h.past1 j (by omega), fun j hj => h.past1 j (by omega), fun _ => h9 _⟩
theorem Mid.first (N lb : Nat) : Mid N lb 0 0 (List.replicate N 0) := by
  have e : ∀ j, (List.replicate N (0 : Int)).getD j 0 = 0 := fun j => by
    by_cases h : j < N
    · simp [List.getD, h]
    · simp [List.getD, h]
  exact ⟨by simp, fun j => by rw [e]; omega, fun j _ => by rw [e]; omega, by rw [e]; omega, fun _ j _ => e j, fun j _ => e j, fun _ => by rw [e]; omega⟩
theorem Mid.dg {N lb i : Nat} {os : List Int} (h : Mid N lb i 0 os) (h9 : ∀ j, os.getD j 0 ≤ 9) : Dg os := fun d hd => by
  obtain ⟨j, hj, rfl⟩ := List.getElem_of_mem hd
  have e : os.getD j 0 = os[j] := by simp [List.getD, List.getElem?_eq_getElem hj]
  rw [← e]; exact ⟨h.low j, h9 j⟩
theorem val_rep (N : Nat) : val (List.replicate N 0) = 0 := val_zero (fun d h => (List.mem_replicate.1 h).2)
/-- One digit more of the second one. -/
theorem inner_val {za zb os : List Int} {i k : Nat} (h : val os = val (za.take i) * val zb + p10 i * za.getD i 0 * val (zb.take k)) (hL : i + k + 1 < os.length) :
    val (stp os (i + k) (os.getD (i + k) 0 + za.getD i 0 * zb.getD k 0)) = val (za.take i) * val zb + p10 i * za.getD i 0 * val (zb.take (k + 1)) := by
  rw [stp_val _ _ _ hL, h, val_take_succ, p10_add]
  grind
theorem outer_val {za zb os : List Int} {i : Nat} (h : val os = val (za.take i) * val zb + p10 i * za.getD i 0 * val (zb.take zb.length)) : val os = val (za.take (i + 1)) * val zb := by
  rw [h, val_take_succ, List.take_length]
  grind
/-- The last pass turns nothing. -/
theorem same_set {os : List Int} {j : Nat} {v : Int} (h : v = os.getD j 0) : os.set j v = os := by
  subst h
  by_cases hj : j < os.length
  · refine List.ext_getElem (by simp) fun n h1 h2 => ?_
    by_cases e : j = n
    · subst e; simp [List.getD, List.getElem?_eq_getElem hj]
    · simp [List.getElem_set_ne e]
  · exact List.set_eq_of_length_le (by omega)
theorem sign_mul {m n : Int} (h : m * n ≠ 0) : (!(decide (m < 0) == decide (n < 0))) = decide (m * n < 0) := by
  have h1 : m ≠ 0 := fun e => h (by rw [e, Int.zero_mul])
  have h2 : n ≠ 0 := fun e => h (by rw [e, Int.mul_zero])
  by_cases hm : m < 0 <;> by_cases hn : n < 0
  · have := Int.mul_pos_of_neg_of_neg hm hn
    have h3 : ¬ m * n < 0 := by omega
    simp [hm, hn, h3]
  · have := Int.mul_neg_of_neg_of_pos hm (show 0 < n by omega)
    simp [hm, hn, this]
  · have := Int.mul_neg_of_pos_of_neg (show 0 < m by omega) hn
    simp [hm, hn, this]
  · have := Int.mul_pos (show 0 < m by omega) (show 0 < n by omega)
    have h3 : ¬ m * n < 0 := by omega
    simp [hm, hn, h3]
end Go.Proofs.Ytfpnkcmplmkghaa.Bg
/- Numbers in digits: Times, walked. -/
set_option linter.unusedVariables false
set_option linter.unusedSimpArgs false
namespace Go.Proofs.Ytfpnkcmplmkghaa
open Go.RowKit
namespace Bg
/-- The world while Times is at work. -/
structure TW (w : World) (ba : Bool) (pa : Option Addr) (la ca : Nat) (bb : Bool) (pb : Option Addr) (lb cb : Nat) (N : Nat) (os : List Int) (x : World) : Prop where
  own : x.ownsRow (w.heap.size + 3) 3 1 (.slice (some ⟨w.heap.size + 3, 0, none⟩) N N) N (os.map (Value.int .i64))
  gr : Gr w x
  a : Blk x w.heap.size [.bool ba, .slice pa la ca]
  b : Blk x (w.heap.size + 1) [.bool bb, .slice pb lb cb]
  r : Blk x (w.heap.size + 2) [.bool false, .slice none 0 0]
section
variable {w : World} {ba : Bool} {pa : Option Addr} {la ca : Nat} {bb : Bool} {pb : Option Addr} {lb cb : Nat} {N : Nat} {os : List Int} {x : World}
theorem TW.set (h : TW w ba pa la ca bb pb lb cb N os x) (j : Nat) (v : Int) : TW w ba pa la ca bb pb lb cb N (os.set j v) (x.setCell ⟨w.heap.size + 3, j, none⟩ (.int .i64 v)) := by
  refine ⟨?_, h.gr.setCell (p := ⟨w.heap.size + 3, j, none⟩) (by simp) _, h.a.set_other (by simp) _, h.b.set_other (by simp) _, h.r.set_other (by simp) _⟩
  have := (World.ownsRow.stored h.own j (.int .i64 v)).1
  rwa [List.map_set]
theorem TW.drew (h : TW w ba pa la ca bb pb lb cb N os x) : TW w ba pa la ca bb pb lb cb N os x.drew := ⟨h.own, h.gr.drew, h.a.gr (Gr.refl _).drew, h.b.gr (Gr.refl _).drew, h.r.gr (Gr.refl _).drew⟩
theorem TW.cell (h : TW w ba pa la ca bb pb lb cb N os x) (hl : os.length = N) (j : Nat) (hj : j < N) : x.cell? ⟨w.heap.size + 3, j, none⟩ = some (.int .i64 (os.getD j 0)) := by
  have hj2 : j < os.length := by omega
  rw [World.ownsRow.cellAt h.own j (by omega)]
  simp [List.getD, hj2]
theorem TW.free (h : TW w ba pa la ca bb pb lb cb N os x) (j : Nat) : x.frozen? ⟨w.heap.size + 3, j, none⟩ = false := World.ownsRow.frozenAt h.own j
end
set_option maxHeartbeats 8000000 in
set_option maxRecDepth 100000 in
theorem times_any (va vb : Value) (m n : Int) (w : World) (ha : IsNum w va m) (hb : IsNum w vb n) (m40 : (m.natAbs : Int) < p10 40) (n40 : (n.natAbs : Int) < p10 40) :
    Calls Try.prog 71 #[va, vb] w fun e w' => (∃ u, e = .returned u ∧ IsNum w' u (m * n)) ∧ Gr w w' := by
  obtain ⟨i0, hi, hz0', hz1, hz2⟩ := info_parts infoInt
  obtain ⟨pa, la, ca, za, rfl, hra, hca, hva, hcapa, hnonea⟩ := parts ha
  obtain ⟨pb, lb, cb, zb, rfl, hrb, hcb, hvb, hcapb, hnoneb⟩ := parts hb
  have l60 := len_40 hra hca hva m40
  have k60 := len_40 hrb hcb hvb n40
  have HA := Lib.hid hra; have HB := Lib.hid hrb; have CA := Lib.hid hca; have CB := Lib.hid hcb; have VA := Lib.hid hva; have VB := Lib.hid hvb
  have za1 := Lib.hid hra.1; have zb1 := Lib.hid hrb.1
  clear ha hb hra hrb hca hcb hva hvb m40 n40
  unfold NumV
  generalize hbm : decide (m < 0) = bm
  generalize hbn : decide (n < 0) = bn
  have HM := Lib.hid hbm; have HN := Lib.hid hbn
  clear hbm hbn
  go_enter Try.func71, Try.ntmps71
  go_wp2_with (first
    | (refine wpList_make_full _ rfl (.tmp 16) (.tmp 16) 86 rfl (w.heap.size + 3) 3 i0 (.int .i64 0) 1 Try.underlying86 hi hz0' hz1 .i64 .i64 _ _ (la + lb + 1) rfl rfl ?c1 ?c2 ?c3 ?c4 ?c5 ?_))
  case c1 => go_num
  case c2 => go_num
  case c3 => rw [hz2]; omega
  case c4 => unfold maxLen; omega
  case c5 => simp
  intro w1 hown hgrow
  have g0 : Gr w w1 := ((((Gr.refl w).alloc (.cells #[.bool bm, .slice pa la ca] 88)).alloc (.cells #[.bool bn, .slice pb lb cb] 88)).alloc (.cells #[.bool false, .slice none 0 0] 88)).trans (Below.grown (Gr.refl _) hgrow (Nat.le_refl _) (fun k hk => by simp at hk))
  have gg : Gr (((w.alloc (.cells #[.bool bm, .slice pa la ca] 88)).alloc (.cells #[.bool bn, .slice pb lb cb] 88)).alloc (.cells #[.bool false, .slice none 0 0] 88)) w1 := Below.grown (Gr.refl _) hgrow (Nat.le_refl _) (fun k hk => by simp at hk)
  have hT : TW w bm pa la ca bn pb lb cb (la + lb + 1) (List.replicate (la + lb + 1) 0) w1 := by
    refine ⟨?_, g0, ?_, ?_, ?_⟩
    · rw [toList_madeCells_one] at hown
      simpa using hown
    · exact (((Blk.new (w := w) (T := 88) (vs := [.bool bm, .slice pa la ca]) rfl).alloc).alloc).gr gg
    · exact ((Blk.new (w := w.alloc (.cells #[.bool bm, .slice pa la ca] 88)) (b := w.heap.size + 1) (T := 88) (vs := [.bool bn, .slice pb lb cb]) (by simp)).alloc).gr gg
    · exact (Blk.new (w := (w.alloc (.cells #[.bool bm, .slice pa la ca] 88)).alloc (.cells #[.bool bn, .slice pb lb cb] 88)) (b := w.heap.size + 2) (T := 88) (vs := [.bool false, .slice none 0 0]) (by simp)).gr gg
  have HT := Lib.hid hT
  clear hown hgrow g0 gg hT
  go_wp2_with fail
  go_loopw [6, 7] (fun v6 v7 wr => ∃ (i : Nat) (os : List Int), i ≤ la ∧ v6 = .int .i64 i ∧ Mid (la + lb + 1) lb i 0 os ∧ (∀ j, os.getD j 0 ≤ 9) ∧ val os = val (za.take i) * val zb ∧ TW w bm pa la ca bn pb lb cb (la + lb + 1) os wr) (fun v _ _ => 61 - (intOf v).toNat)
  case atStart =>
    exact ⟨0, List.replicate (la + lb + 1) 0, Nat.zero_le _, rfl, Mid.first _ _, fun j => (Mid.first (la + lb + 1) lb).nine (.inl rfl) (fun _ => (by have := (Mid.first (la + lb + 1) 0).full rfl; exact this)) j, by rw [val_rep]; simp [val], HT.out⟩
  case round =>
    obtain ⟨i, os, hi1, rfl, hmid, h9, hv, hT⟩ := hrel
    clear HT
    have c0 := hT.a.cell 0 rfl; have c1 := hT.a.cell 1 rfl; have c2 := hT.b.cell 0 rfl; have c3 := hT.b.cell 1 rfl
    have HT := Lib.hid hT; have HMI := Lib.hid hmid; have H9 := Lib.hid h9; have HV := Lib.hid hv
    clear hT hmid h9 hv
    by_cases hlt : i < la
    · go_wp2_with fail
      go_loopw [7] (fun v7 wr => ∃ (k : Nat) (os : List Int), k ≤ lb ∧ v7 = .int .i64 k ∧ Mid (la + lb + 1) lb i k os ∧ val os = val (za.take i) * val zb + p10 i * za.getD i 0 * val (zb.take k) ∧ TW w bm pa la ca bn pb lb cb (la + lb + 1) os wr) (fun v _ => 61 - (intOf v).toNat)
      case atStart => exact ⟨0, os, Nat.zero_le _, rfl, HMI.out, by rw [HV.out]; simp [val], HT.out⟩
      case round =>
        clear HT HMI H9 HV c0 c1 c2 c3
        obtain ⟨k, os, hk1, rfl, hmid, hv, hT⟩ := hrel
        have c0 := hT.a.cell 0 rfl; have c1 := hT.a.cell 1 rfl; have c2 := hT.b.cell 0 rfl; have c3 := hT.b.cell 1 rfl
        by_cases hlt2 : k < lb
        · obtain ⟨ab, aoff, rfl, hca⟩ := (HA.out.later hT.gr).2.2.2 (by omega)
          obtain ⟨bb, boff, rfl, hcb⟩ := (HB.out.later hT.gr).2.2.2 (by omega)
          have hx := hca i hlt; have hy := hcb k hlt2
          have d1 := CA.out.1.dig i; have d2 := CB.out.1.dig k
          have hst := hmid.step hlt2 (by omega) d1 d2
          have hvs := inner_val hv (by rw [hmid.len]; omega)
          have e1 : wr.cell? ⟨w.heap.size + 1 + 1 + 1, i + k, none⟩ = some (.int .i64 (os.getD (i + k) 0)) := hT.cell hmid.len (i + k) (by omega)
          have e2 : wr.cell? ⟨w.heap.size + 1 + 1 + 1, i + k + 1, none⟩ = some (.int .i64 (os.getD (i + k + 1) 0)) := hT.cell hmid.len (i + k + 1) (by omega)
          have f1 : wr.frozen? ⟨w.heap.size + 1 + 1 + 1, i + k, none⟩ = false := hT.free (i + k); have f2 : wr.frozen? ⟨w.heap.size + 1 + 1 + 1, i + k + 1, none⟩ = false := hT.free (i + k + 1)
          have b1 := hmid.low (i + k); have b2 := hmid.here; have b3 := hmid.low (i + k + 1); have b4 := hmid.most (i + k + 1) (by omega)
          have HT := Lib.hid hT; have HMI := Lib.hid hmid; have HST := Lib.hid hst; have HVS := Lib.hid hvs
          have HCA := Lib.hid hca; have HCB := Lib.hid hcb
          clear hT hmid hst hvs hv hca hcb
          generalize hpe : os.getD (i + k) 0 = p at *
          generalize hqe : os.getD (i + k + 1) 0 = q at *
          have HPE := Lib.hid hpe; have HQE := Lib.hid hqe; clear hpe hqe
          generalize za.getD i 0 = x at *
          generalize zb.getD k 0 = y at *
          have hp : 0 ≤ x * y ∧ x * y ≤ 81 := by
            have h1 : 0 ≤ x * y := Int.mul_nonneg d1.1 d2.1
            have h2 : x * y ≤ 9 * 9 := Int.mul_le_mul d1.2 d2.2 d2.1 (by omega)
            omega
          have hs4 : IntKind.i64.wrap (x * y) = x * y := IntWalk.i64_in _ (by omega)
          have hs5 : IntKind.i64.wrap (p + x * y) = p + x * y := IntWalk.i64_in _ (by omega)
          have hs0 : IntKind.i64.wrap ((i : Int) + k) = (i : Int) + k := IntWalk.i64_in _ (by omega)
          have hs1 : (0 : Int) ≤ (i : Int) + k := by omega
          have hs2 : (i : Int) + k < (la : Int) + lb + 1 := by omega
          have hs3 : ((i : Int) + k).toNat = i + k := by omega
          go_wp2_with fail
          go_still_tail 23, (by kernel_rfl)
          have hz1' : 0 ≤ p + x * y ∧ p + x * y ≤ 99 := by omega
          have hT2 : TW w bm (some ⟨ab, aoff, none⟩) la ca bn (some ⟨bb, boff, none⟩) lb cb (la + lb + 1) (os.set (i + k) (p + x * y)) ((wr.setCell ⟨w.heap.size + 1 + 1 + 1, i + k, none⟩ (.int .i64 (p + x * y))).drew) := (HT.out.set (i + k) (p + x * y)).drew
          have HT2 := Lib.hid hT2
          have hlen := HMI.out.len
          clear hT2
          change wpList _ _ _ _ _ wr.drew
          go_wp2_with fail
          clear e1 e2 f1 f2 c0 c1 c2 c3 hx hy hs4 hs5
          generalize p + x * y = z at *
          generalize (wr.setCell ⟨w.heap.size + 1 + 1 + 1, i + k, none⟩ (.int .i64 z)).drew = w2 at *
          clear HT
          have hT2 := HT2.out
          have e1 : w2.cell? ⟨w.heap.size + 1 + 1 + 1, i + k, none⟩ = some (.int .i64 z) := by
            have := hT2.cell (by rw [List.length_set]; exact hlen) (i + k) (by omega)
            rw [getD_set _ _ _ _ (by omega), if_pos rfl] at this; exact this
          have e2 : w2.cell? ⟨w.heap.size + 1 + 1 + 1, i + k + 1, none⟩ = some (.int .i64 q) := by
            have := hT2.cell (by rw [List.length_set]; exact hlen) (i + k + 1) (by omega)
            rw [getD_set _ _ _ _ (by omega), if_neg (by omega), HQE.out] at this; exact this
          have f1 : w2.frozen? ⟨w.heap.size + 1 + 1 + 1, i + k, none⟩ = false := hT2.free (i + k)
          have f2 : w2.frozen? ⟨w.heap.size + 1 + 1 + 1, i + k + 1, none⟩ = false := hT2.free (i + k + 1)
          have c0 := hT2.a.cell 0 rfl; have c1 := hT2.a.cell 1 rfl; have c2 := hT2.b.cell 0 rfl; have c3 := hT2.b.cell 1 rfl
          have ht1 : z.tdiv 10 = z / 10 := Int.tdiv_eq_ediv_of_nonneg hz1'.1
          have ht2 : z.tmod 10 = z % 10 := Int.tmod_eq_emod_of_nonneg hz1'.1
          have ht3 : IntKind.i64.wrap (z / 10) = z / 10 := IntWalk.i64_in _ (by omega)
          have ht4 : IntKind.i64.wrap (q + z / 10) = q + z / 10 := IntWalk.i64_in _ (by omega)
          have hs6 : IntKind.i64.wrap ((i : Int) + k + 1) = (i : Int) + k + 1 := IntWalk.i64_in _ (by omega)
          have hs7 : (0 : Int) ≤ (i : Int) + k + 1 := by omega
          have hs8 : (i : Int) + k + 1 < (la : Int) + lb + 1 := by omega
          have hs9 : ((i : Int) + k + 1).toNat = i + k + 1 := by omega
          clear hT2
          go_still_tail 21, (by kernel_rfl)
          change wpList _ _ _ _ _ w2.drew
          clear ht3 ht4 hs6
          go_wp2_with fail
          go_roundw
          case rel =>
            refine ⟨k + 1, stp os (i + k) z, by omega, by go_num, HST.out, HVS.out, ?_⟩
            unfold stp
            rw [HQE.out]
            exact ((HT2.out.set (i + k + 1) (q + z / 10)).set (i + k) (z % 10)).drew
          case measure => simp [intOf]; omega
        · have hke : k = lb := by omega
          rw [hke] at hmid
          have h9 := hmid.nine (.inr rfl) (fun _ => hmid.full rfl)
          have hn := hmid.next
          rw [hke, ← zb1.out] at hv
          have hv2 := outer_val hv
          have HT := Lib.hid hT; have HMI := Lib.hid hn; have H9 := Lib.hid h9; have HV := Lib.hid hv2
          clear hT hmid hn h9 hv hv2
          go_wp2
          go_roundw
          case rel => exact ⟨i + 1, os, by omega, by go_num, HMI.out, H9.out, HV.out, HT.out⟩
          case measure => simp [intOf]; omega
    · have hie : la = i := by omega
      subst hie
      have hdg := HMI.out.dg H9.out
      have hlen := HMI.out.len
      have hvv : val os = val za * val zb := by
        have := HV.out
        rwa [← za1.out, List.take_length] at this
      have HDG := Lib.hid hdg; have HVV := Lib.hid hvv
      clear hdg hvv HMI HV
      go_wp2_with fail
      go_loopw [8] (fun v8 wr => ∃ j : Nat, j ≤ la + lb ∧ v8 = .int .i64 j ∧ TW w bm pa la ca bn pb lb cb (la + lb + 1) os wr) (fun v _ => 121 - (intOf v).toNat)
      case atStart => exact ⟨0, by omega, rfl, HT.out⟩
      case round =>
        clear HT c0 c1 c2 c3
        obtain ⟨j, hj, rfl, hT⟩ := hrel
        have c0 := hT.a.cell 0 rfl; have c1 := hT.a.cell 1 rfl; have c2 := hT.b.cell 0 rfl; have c3 := hT.b.cell 1 rfl
        by_cases hlt2 : j < la + lb
        · have e1 : wr.cell? ⟨w.heap.size + 1 + 1 + 1, j, none⟩ = some (.int .i64 (os.getD j 0)) := hT.cell hlen j (by omega)
          have e2 : wr.cell? ⟨w.heap.size + 1 + 1 + 1, j + 1, none⟩ = some (.int .i64 (os.getD (j + 1) 0)) := hT.cell hlen (j + 1) (by omega)
          have f1 : wr.frozen? ⟨w.heap.size + 1 + 1 + 1, j, none⟩ = false := hT.free j
          have f2 : wr.frozen? ⟨w.heap.size + 1 + 1 + 1, j + 1, none⟩ = false := hT.free (j + 1)
          have d1 := HDG.out.dig j; have d2 := HDG.out.dig (j + 1)
          have hT2 : TW w bm pa la ca bn pb lb cb (la + lb + 1) os (((wr.setCell ⟨w.heap.size + 1 + 1 + 1, j + 1, none⟩ (.int .i64 (os.getD (j + 1) 0))).setCell ⟨w.heap.size + 1 + 1 + 1, j, none⟩ (.int .i64 (os.getD j 0))).drew) := by
            have := ((hT.set (j + 1) (os.getD (j + 1) 0)).set j (os.getD j 0)).drew
            rwa [same_set rfl, same_set rfl] at this
          have HT2 := Lib.hid hT2
          clear hT hT2
          generalize hpe : os.getD j 0 = p at *
          generalize hqe : os.getD (j + 1) 0 = q at *
          have HPE := Lib.hid hpe; have HQE := Lib.hid hqe; clear hpe hqe
          have hs0 : IntKind.i64.wrap ((j : Int) + 1) = (j : Int) + 1 := IntWalk.i64_in _ (by omega)
          have hs1 : (0 : Int) ≤ (j : Int) + 1 := by omega
          have hs2 : (j : Int) + 1 < (la : Int) + lb + 1 := by omega
          have hs3 : ((j : Int) + 1).toNat = j + 1 := by omega
          have hs4 : (j : Int) < (la : Int) + lb + 1 := by omega
          have hs5 : (0 : Int) ≤ (j : Int) := by omega
          have ht1 : p.tdiv 10 = 0 := by rw [Int.tdiv_eq_ediv_of_nonneg d1.1]; omega
          have ht2 : p.tmod 10 = p := by rw [Int.tmod_eq_emod_of_nonneg d1.1]; omega
          have ht3 : IntKind.i64.wrap q = q := IntWalk.i64_in _ (by omega)
          have ht4 : IntKind.i64.wrap 0 = 0 := IntWalk.i64_in _ (by omega)
          have ht5 : p / 10 = 0 := by omega
          have ht6 : p % 10 = p := by omega
          go_wp2_with fail
          go_still_tail 15, (by kernel_rfl)
          change wpList _ _ _ _ _ wr.drew
          clear ht3 ht4 hs0
          go_wp2_with fail
          go_roundw
          case rel => exact ⟨j + 1, by omega, by go_num, HT2.out⟩
          case measure => simp [intOf]; omega
        · have HT := Lib.hid hT
          clear hT
          obtain ⟨ap, acap, hav, hrow, hcap, hnone, hbl⟩ := owned_row (zs := os) (by rw [hlen]; exact HT.out.own) (by omega) (wf_dg HDG.out)
          simp only [Value.slice.injEq] at hav
          obtain ⟨rfl, hla, rfl⟩ := hav
          have HR := Lib.hid hrow; have HBL := Lib.hid hbl; have HLEN := Lib.hid hlen
          clear hrow hbl hla hlen
          have hje : j = la + lb := by omega
          subst hje
          go_wp2_with fail
          have hrw : IsRow .i64 wr (some ⟨w.heap.size + 3, 0, none⟩) (la + lb + 1) os := by have := HR.out; rw [HLEN.out] at this; exact this
          refine (trim_any _ _ _ _ os _ hrw HDG.out (Nat.le_refl _) hnone).mono ?_; rintro e w2 ⟨k, hk, rfl, hc, hvk, hg2⟩
          have hsg : m * n ≠ 0 → (!(bm == bn)) = decide (m * n < 0) := fun h => by rw [← HM.out, ← HN.out]; exact sign_mul h
          have hNum := num_of (b := !(bm == bn)) (n := m * n) (hrw.later hg2) hk hc (by rw [hvk, HVV.out, VA.out, VB.out, Int.natAbs_mul]; push_cast; rfl) hsg (Nat.le_refl _) hnone
          have hB2 := HT.out.r.gr hg2
          have hG := HT.out.gr.trans hg2
          have q0 := hB2.cell 0 rfl; have q1 := hB2.cell 1 rfl; have f0 := hB2.free 0 rfl; have f1 := hB2.free 1 rfl
          have HB2 := Lib.hid hB2; have HNU := Lib.hid hNum; have HG2 := Lib.hid hG
          clear hB2 hNum hG hc hvk hg2 hrw hsg HR HVV HDG hcap hnone c0 c1 c2 c3
          unfold NumV at *
          generalize ((!(bm == bn)) && decide (0 < k)) = sb at *
          go_wp2_with fail
          refine ⟨rfl, _, results_blk rfl Sx.ty88 rfl rfl (HB2.out.set2 _ _) rfl, ⟨_, rfl, ?_⟩, ?_⟩
          · exact IsNum.set (IsNum.set HNU.out (fun ad h _ => by cases h; simp) _) (fun ad h _ => by cases h; simp) _
          · exact (HG2.out.setCell (p := ⟨w.heap.size + 2, 0, none⟩) (by simp) _).setCell (p := ⟨w.heap.size + 2, 1, none⟩) (by simp) _
end Bg
end Go.Proofs.Ytfpnkcmplmkghaa
/- The contract of the reference's Same: two rows of the same ints are the same. -/
set_option linter.unusedVariables false
namespace Go.Proofs.Ytfpnkcmplmkghaa
open Go.RowKit
namespace Ow
theorem same_any (a a2 : Option Addr) (len cap cap2 : Nat) (zs : List Int) (w : World) (hr : IsRow .i64 w a len zs) (hr2 : IsRow .i64 w a2 len zs) :
    Calls Try.prog 73 #[.slice a len cap, .slice a2 len cap2] w fun e w' => e = .returned (.bool true) ∧ Drew w w' := by
  obtain ⟨hz, hm, hwz, hr⟩ := hr
  obtain ⟨_, _, _, hr2⟩ := hr2
  clear hwz
  by_cases h0 : len = 0
  · subst h0
    clear hr hr2 hz
    go_enter Try.func73, Try.ntmps73
    go_wp2
    go_loopw [5] (fun i wr => i = .int .i64 0 ∧ w = wr) (fun _ _ => 0)
    case atStart => exact ⟨rfl, rfl⟩
    case round =>
      obtain ⟨rfl, rfl⟩ := hrel
      go_wp2
      go_ret
      exact ⟨rfl, Drew.refl _⟩
  · obtain ⟨b, off, rfl, hcell⟩ := hr (by omega)
    obtain ⟨b2, off2, rfl, hcell2⟩ := hr2 (by omega)
    clear hr hr2
    have HC := Lib.hid hcell; clear hcell
    have HC2 := Lib.hid hcell2; clear hcell2
    have HZ := Lib.hid hz; clear hz
    clear h0
    go_enter Try.func73, Try.ntmps73
    go_wp2
    go_loopw [5] (fun i wr => ∃ k : Nat, k ≤ len ∧ i = .int .i64 k ∧ Drew w wr) (fun i _ => len - (intOf i).toNat)
    case atStart => exact ⟨0, Nat.zero_le _, rfl, Drew.refl _⟩
    case round =>
      obtain ⟨k, hk, rfl, n, rfl⟩ := hrel
      by_cases hlt : k < len
      · have hc1 := HC.out k hlt
        have hc2 := HC2.out k hlt
        generalize zs.getD k 0 = z at hc1 hc2
        go_wp2
        go_quiet (fail)
        go_wp2
        go_roundw
        case rel => exact ⟨k + 1, by omega, by go_num, _, rfl⟩
        case measure => simp [intOf]; omega
      · go_wp2
        go_ret
        exact ⟨rfl, n, rfl⟩
end Ow
end Go.Proofs.Ytfpnkcmplmkghaa
/- Numbers in digits: the reference's Times of chapter 02, walked. -/
set_option linter.unusedVariables false
set_option linter.unusedSimpArgs false
namespace Go.Proofs.Ytfpnkcmplmkghaa
open Go.RowKit
namespace Bg
theorem I_40 {n : Int} (h : I n) : (n.natAbs : Int) < p10 20 := by
  have e : p10 20 = 100000000000000000000 := by decide
  unfold I at h; omega
set_option maxHeartbeats 4000000 in
set_option maxRecDepth 100000 in
theorem rtimes_any (a b q r : Int) (ha : I a) (hb : I b) (hq : I q) (hr : I r) (h : a = b * q + r) (w : World) :
    Calls Try.prog 16 #[.int .i64 a, .int .i64 b, .int .i64 q, .int .i64 r] w fun e w' => e = .returned (.bool true) ∧ Gr w w' := by
  have IA := Lib.hid ha; have IB := Lib.hid hb; have IQ := Lib.hid hq; have IR := Lib.hid hr; have HE := Lib.hid h
  clear ha hb hq hr h
  go_enter Try.func16, Try.ntmps16
  go_wp2_with fail
  refine (ofInt_any b IB.out _).mono ?_; rintro e w1 ⟨⟨v1, rfl, hn1⟩, g1⟩
  go_wp2_with fail
  refine (ofInt_any q IQ.out _).mono ?_; rintro e w2 ⟨⟨v2, rfl, hn2⟩, g2⟩
  go_wp2_with fail
  refine (times_any _ _ b q _ (hn1.gr g2) hn2 (by have := I_40 IB.out; have := p10_mono (show 20 ≤ 40 by decide); omega) (by have := I_40 IQ.out; have := p10_mono (show 20 ≤ 40 by decide); omega)).mono ?_; rintro e w3 ⟨⟨v3, rfl, hn3⟩, g3⟩
  go_wp2_with fail
  refine (ofInt_any r IR.out _).mono ?_; rintro e w4 ⟨⟨v4, rfl, hn4⟩, g4⟩
  go_wp2_with fail
  refine (sum_any _ _ (b * q) r _ (hn3.gr g4) hn4 ?c1 ?c2).mono ?_
  case c1 =>
    have h1 := I_40 IB.out; have h2 := I_40 IQ.out
    have e1 : p10 40 = p10 20 * p10 20 := p10_add 20 20
    rw [Int.natAbs_mul, e1]
    push_cast
    have h3 : (b.natAbs : Int) * (q.natAbs : Int) ≤ (b.natAbs : Int) * p10 20 := Int.mul_le_mul_of_nonneg_left (by omega) (by omega)
    have h4 : (b.natAbs : Int) * p10 20 < p10 20 * p10 20 := Int.mul_lt_mul_of_pos_right (by omega) (p10_pos 20)
    omega
  case c2 => have := I_40 IR.out; have := p10_mono (show 20 ≤ 40 by decide); omega
  rintro e w5 ⟨⟨v5, rfl, hn5⟩, g5⟩
  obtain ⟨a1, len1, cap1, zs1, rfl, hr1, hc1, hv1, -, -⟩ := parts hn5
  unfold NumV
  go_wp2_with fail
  refine (ofInt_any a IA.out _).mono ?_; rintro e w6 ⟨⟨v6, rfl, hn6⟩, g6⟩
  obtain ⟨a2, len2, cap2, zs2, rfl, hr2, hc2, hv2, -, -⟩ := parts hn6
  have hzz : zs1 = zs2 := hc1.uniq hc2 (by rw [hv1, hv2, HE.out])
  subst hzz
  have hll : len1 = len2 := hr1.1.symm.trans hr2.1
  subst hll
  have hz : Blk w6 w5.heap.size [.bool (decide (b * q + r < 0)), .slice a1 len1 cap1] := (Blk.new (w := w5) (T := 88) (vs := [.bool (decide (b * q + r < 0)), .slice a1 len1 cap1]) rfl).gr g6
  rw [← HE.out] at hz g6
  have z0 := hz.cell 0 rfl; have z1 := hz.cell 1 rfl
  have hlt := hz.1
  have G6 : Gr w w6 := ((((((g1.trans g2).trans g3).trans g4).trans g5)).alloc _).trans g6
  have R1 : IsRow .i64 w6 a1 len1 zs1 := (hr1.later ((Gr.refl _).alloc _)).later g6
  have HR1 := Lib.hid R1; have HR2 := Lib.hid hr2; have HG6 := Lib.hid G6
  clear R1 G6 hr1 hr2 hc1 hc2 hv1 hv2 hn1 hn2 hn3 hn4 hn5 hn6 g1 g2 g3 g4 g5 hz
  unfold NumV
  rw [← HE.out]
  generalize decide (a < 0) = sb at *
  go_wp2_with fail
  refine (Ow.same_any a1 a2 len1 cap1 cap2 zs1 _ (HR1.out.later ((Gr.refl _).alloc _)) (HR2.out.later ((Gr.refl _).alloc _))).mono ?_
  rintro e w7 ⟨rfl, hd7⟩
  have g7 := hd7.gr
  clear hd7
  go_wp2
  go_ret
  exact ⟨rfl, (HG6.out.alloc _).trans g7⟩
end Bg
end Go.Proofs.Ytfpnkcmplmkghaa
