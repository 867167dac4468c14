/- Texts that stood alone before, in one. -/
import Derived.Test.YtfkgjpdipdllhaaKt
import Derived.Test.YtfkgjpdipdllhaaRo
import Derived.Laws.Cover1
import Derived.Test.YtfkgjpdipdllhaaCm
import Derived.ArgAppend
import Derived.Test.YtfkgjpdipdllhaaRows
import Derived.Maps.OwnOps
import Derived.Maps.Views
import Derived.Deep.MidRow
import Derived.StillTailTactics
/- Rows that a call owns: their block, while other blocks turn. -/
set_option linter.unusedVariables false
namespace Go.Proofs.Ytfkgjpdipdllhaa
open Go.RowKit
namespace Mt
theorem own_slice {w : World} {base : Nat} {e : TypeId} {size : Nat} {v : Value} {n : Nat} {xs : List Value} (h : w.ownsRow base e size v n xs) : ∃ a cap, v = .slice a n cap := by
  rcases h.2 with ⟨hv, h0⟩ | ⟨g, cap, cur, hv, hb, _, hc, _⟩
  · subst h0; exact ⟨none, 0, hv⟩
  · exact ⟨_, cap, hv⟩
theorem own_ks {w w' : World} {S : Nat → Prop} {base : Nat} {e : TypeId} {size : Nat} {v : Value} {n : Nat} {xs : List Value} (h : w.ownsRow base e size v n xs) (hk : Ks S w w') (hS : ∀ k, S k → k < base) : w'.ownsRow base e size v n xs := by
  obtain ⟨h1, h2⟩ := h
  refine ⟨h1, ?_⟩
  rcases h2 with h2 | ⟨g, cap, cur, hv, hb, hh, hr⟩
  · exact .inl h2
  · have hlt : g < w.heap.size := (Array.getElem?_eq_some_iff.1 hh).1
    exact .inr ⟨g, cap, cur, hv, hb, (hk.block g hlt (fun h => by have := hS g h; omega)).trans hh, hr⟩
theorem own_base {w : World} {base : Nat} {e : TypeId} {size : Nat} {v : Value} {n : Nat} {xs : List Value} (h : w.ownsRow base e size v n xs) : ∀ k, v.ownBlock = some k → base ≤ k := by
  rcases h.2 with ⟨hv, _⟩ | ⟨g, cap, cur, hv, hb, _⟩
  · intro k hk; subst hv; cases hk
  · intro k hk; subst hv; simp [Value.ownBlock] at hk; omega
theorem own_lt {w : World} {base : Nat} {e : TypeId} {size : Nat} {v : Value} {n : Nat} {xs : List Value} (h : w.ownsRow base e size v n xs) : ∀ k, v.ownBlock = some k → k < w.heap.size := by
  rcases h.2 with ⟨hv, _⟩ | ⟨g, cap, cur, hv, hb, hh, _⟩
  · intro k hk; subst hv; cases hk
  · intro k hk; subst hv; simp [Value.ownBlock] at hk; subst hk; exact (Array.getElem?_eq_some_iff.1 hh).1
theorem own_blk {w : World} {base : Nat} {e : TypeId} {g n cap : Nat} {xs : List Value} (h : w.ownsRow base e 1 (.slice (some ⟨g, 0, none⟩) n cap) n xs) : Blk w g xs := by
  rcases h.2 with ⟨hv, _⟩ | ⟨g', cap', cur, hv, hb, hh, hc, ht0⟩
  · cases hv
  · injection hv with h1 h2 h3
    injection h1 with h1; injection h1 with h1
    subst h1
    have ht := ht0.2.2
    refine ⟨(Array.getElem?_eq_some_iff.1 hh).1, fun i v hi => ?_⟩
    rw [← ht] at hi
    have hlt : i < n * 1 := by
      apply Classical.byContradiction; intro hn
      rw [List.getElem?_eq_none (by rw [List.length_take]; omega)] at hi; cases hi
    rw [List.getElem?_take_of_lt hlt] at hi
    refine ⟨?_, by simp [World.frozen?, hh]⟩
    unfold World.cell?
    rw [show (⟨g, i, none⟩ : Addr).block = g from rfl, hh]
    simpa using hi
end Mt
end Go.Proofs.Ytfkgjpdipdllhaa
/- A law on append to a row that the call itself owns, which also tells where the new row lies. Nothing of the program. -/
set_option linter.unusedVariables false
namespace Go.Proofs.Ytfkgjpdipdllhaa
open Go.RowKit

/-- The row's block is the elder one, or a new one. -/
def Moved (w : World) (v v' : Value) : Prop := v'.ownBlock = v.ownBlock ∨ ∀ k, v'.ownBlock = some k → w.heap.size ≤ k

theorem append_two {P : Program} {w : World} {ops : Array Oper} {rest : List Oper} {o : Oper} {a : Act} {Q : Exit → Act → World → Prop} (hgd : o.guard = none) (s x : Operand) (t : TypeId)
    (ho : o.op = .call { callee := .builtin .append, args := #[s, x], argTypes := #[t, t] })
    (base : Nat) (e : TypeId) (i : TypeInfo) (z : Value) (size bytes : Nat) (ht : P.underlying t = some (.slice e)) (hi : P.info? e = some i) (hz : i.zero = some z)
    (hsize : i.size = size) (hby : i.bytes = bytes) (hzs : z.cells.size = size) (hsz : 0 < size)
    (v : Value) (n : Nat) (xs : List Value) (hs : a.eval s = v) (hown : w.ownsRow base e size v n xs)
    (ad : Addr) (m c : Nat) (news : List Value) (hx : a.eval x = .slice (some ad) m c) (hl : news.length = m * size) (hnews : ∀ j u, news[j]? = some u → w.cell? (ad.add j) = some u) (h1 : ∀ u ∈ news, u.oneCell' = true)
    (hm : 0 < m) (h63 : n + m ≤ maxLen) (hbytes : (n + m) * bytes ≤ 140737488355328) (hbase : base ≤ w.heap.size)
    (h : ∀ v' w', w'.ownsRow base e size v' (n + m) (xs ++ news) → w.grownBy w' v.ownBlock → Moved w v v' → wpList P ops Q rest (a.put o.dst v') w') : wpList P ops Q (o :: rest) a w := by
  obtain ⟨h1', h2⟩ := hown
  rcases h2 with ⟨rfl, rfl⟩ | ⟨g, cap, cur, rfl, hg, hh, hn, hc, hcs, hct⟩
  · refine wpList_append_grows w hgd s x t ho e i z size bytes ht hi hz hsize hby hzs hsz none 0 0 xs hs (fun _ => ⟨rfl, rfl⟩) h1' (fun b hb => by simp at hb) ad m c news hx hl hnews h1 (by omega) h63 hbytes ?_
    intro v' w' ho' hg'
    refine h v' w' ⟨ho'.1, ?_⟩ hg' (.inr fun k hk => (ho'.lt k hk).1)
    rcases ho'.2 with q | ⟨g, cap, cur, q1, q2, q3⟩
    · exact .inl q
    · exact .inr ⟨g, cap, cur, q1, Nat.le_trans hbase q2, q3⟩
  · by_cases hr : n + m ≤ cap
    · refine wpList_append_fits w hgd s x t ho base e i size ht hi hsize g n cap xs hs ⟨h1', .inr ⟨g, cap, cur, rfl, hg, hh, hn, hc, hcs, hct⟩⟩ ad m c news hx hl hnews h1 hr ?_
      intro w' ho' hg'
      exact h _ w' ho' hg' (.inl rfl)
    · have hcell : ∀ j u, xs[j]? = some u → w.cell? ((⟨g, 0, none⟩ : Addr).add j) = some u := World.ownsRow.cells ⟨h1', .inr ⟨g, cap, cur, rfl, hg, hh, hn, hc, hcs, hct⟩⟩ rfl
      refine wpList_append_grows w hgd s x t ho e i z size bytes ht hi hz hsize hby hzs hsz (some ⟨g, 0, none⟩) n cap xs hs (fun hh => by simp at hh) h1' (fun b hb => by simp at hb; subst hb; exact hcell) ad m c news hx hl hnews h1 (by omega) h63 hbytes ?_
      intro v' w' ho' hg'
      refine h v' w' ⟨ho'.1, ?_⟩ ?_ (.inr fun k hk => (ho'.lt k hk).1)
      · rcases ho'.2 with q | ⟨g, cap, cur, q1, q2, q3⟩
        · exact .inl q
        · exact .inr ⟨g, cap, cur, q1, Nat.le_trans hbase q2, q3⟩
      · exact ⟨hg'.os, hg'.tape, hg'.output, hg'.size, fun k hk _ => hg'.block k hk (by simp)⟩

/-- Two rows that the call owns, apart from one another. -/
structure TwoRows (base : Nat) (e : TypeId) (v1 : Value) (xs1 : List Value) (v2 : Value) (xs2 : List Value) (wr : World) : Prop where
  one : wr.ownsRow base e 1 v1 xs1.length xs1
  two : wr.ownsRow base e 1 v2 xs2.length xs2
  apart : v1.ownBlock = none ∨ v1.ownBlock ≠ v2.ownBlock

theorem TwoRows.swap {base : Nat} {e : TypeId} {v1 v2 : Value} {xs1 xs2 : List Value} {wr : World} (h : TwoRows base e v1 xs1 v2 xs2 wr) : TwoRows base e v2 xs2 v1 xs1 wr := by
  refine ⟨h.two, h.one, ?_⟩
  rcases h.apart with q | q
  · cases hv : v2.ownBlock with
    | none => exact .inl rfl
    | some k => right; rw [q]; simp
  · exact .inr (Ne.symm q)

theorem TwoRows.step {base : Nat} {e : TypeId} {v1 v2 v1' : Value} {xs1 xs2 : List Value} {wr w1 : World} (h : TwoRows base e v1 xs1 v2 xs2 wr) {o : Obj} {x : Value}
    (hown : w1.ownsRow base e 1 v1' (xs1.length + 1) (xs1 ++ [x])) (hg : (wr.alloc o).grownBy w1 v1.ownBlock) (hm : Moved (wr.alloc o) v1 v1') : TwoRows base e v1' (xs1 ++ [x]) v2 xs2 w1 := by
  refine ⟨by simpa using hown, (h.two.alloc o).kept hg h.swap.apart, ?_⟩
  rcases hm with q | q
  · rw [q]; exact h.apart
  · cases hv : v1'.ownBlock with
    | none => exact .inl rfl
    | some k =>
      right
      intro hk
      have h1 := q k hv
      have h2 := (h.two.lt k hk.symm).2
      simp at h1; omega

theorem TwoRows.gr {w : World} {e : TypeId} {v1 v2 : Value} {xs1 xs2 : List Value} {wr w1 : World} (h : TwoRows w.heap.size e v1 xs1 v2 xs2 wr) {o : Obj} (hgr : Gr w wr)
    (hg : (wr.alloc o).grownBy w1 v1.ownBlock) : Gr w w1 := by
  have h1 := hgr.alloc o
  exact Below.grown h1 hg h1.size (fun k hk => (h.one.lt k hk).1)

/-- The cell of a new block that holds one value. -/
theorem one_new (w : World) (x : Value) (T : TypeId) : ∀ j u, [x][j]? = some u → (w.alloc (.cells #[x] T)).cell? ((⟨w.heap.size, 0, none⟩ : Addr).add j) = some u := by
  intro j u hj
  match j, hj with
  | 0, hj =>
    simp at hj; subst hj
    rw [add_none, World.cell?_alloc_at _ _ _ _ rfl]; rfl
  | j + 1, hj => simp at hj
end Go.Proofs.Ytfkgjpdipdllhaa
/- The contracts of the reference's Own and Same: a row of ints is laid anew; two rows of the same ints are the same. -/
set_option linter.unusedVariables false
namespace Go.Proofs.Ytfkgjpdipdllhaa
open Go.RowKit
namespace Ow

theorem infoInt : (Try.prog.info? 3).map (fun i => (i.zero, i.size, i.bytes)) = some (some (.int .i64 0), 1, 8) := by kernel_rfl

def Laid (zs : List Int) (w : World) (e : Ending) (w' : World) : Prop :=
  ∃ a cap, e = .returned (.slice a zs.length cap) ∧ IsRow .i64 w' a zs.length zs ∧ Gr w w'

theorem own_any (a : Option Addr) (len cap : Nat) (zs : List Int) (w : World) (hr : IsRow .i64 w a len zs) (hn : a = none → cap = 0) (hl : len ≤ 1000000) :
    Calls Try.prog 8 #[.slice a len cap] w (Laid zs w) := by
  obtain ⟨hz, hm, hwz, hr⟩ := hr
  obtain ⟨i0, hi, hz0, hz1, hz2⟩ := info_parts infoInt
  by_cases h0 : len = 0
  · subst h0
    have : zs = [] := List.eq_nil_of_length_eq_zero hz
    subst this
    clear hr hwz hz
    cases a with
    | none =>
      have hcap := hn rfl
      subst hcap
      go_enter Try.func8, Try.ntmps8
      go_wp2
      go_ret
      exact ⟨none, 0, rfl, IsRow.nil _ _ _, Gr.refl _⟩
    | some x =>
      go_enter Try.func8, Try.ntmps8
      go_wp2_with (first
        | (at_builtin; refine wpList_append_own _ rfl _ _ 25 rfl w.heap.size 3 i0 (.int .i64 0) 1 8 Try.underlying25 hi hz0 hz1 hz2 rfl (by decide) _ 0 [] rfl (World.ownsRow_nil _ _ _ _) x 0 cap [] rfl ?c1 ?c2 ?c3 ?c4 ?c5 ?c6 ?_))
      case c1 => rfl
      case c2 => intro j u hj; simp at hj
      case c3 => intro u hu; simp at hu
      case c4 => unfold maxLen; omega
      case c5 => omega
      case c6 => exact Nat.le_refl _
      intro v' w1 hown hgrow _
      have hg : Gr w w1 := (Below.refl _ _).grown hgrow (Nat.le_refl _) (fun k hk => by simp [Value.ownBlock] at hk)
      obtain ⟨a', cap', rfl, hrow⟩ := row_owned (zs := []) hown (by simp) (by simp)
      have HG := Lib.hid hg; have HR := Lib.hid hrow
      clear hg hrow hown hgrow
      go_wp2
      go_ret
      exact ⟨_, _, rfl, HR.out, HG.out⟩
  · obtain ⟨b, off, rfl, hcell⟩ := hr (by omega)
    clear hr hn
    have HC := Lib.hid hcell; clear hcell
    have HZ := Lib.hid hz; clear hz
    go_enter Try.func8, Try.ntmps8
    go_wp2_with (first
      | (at_builtin; refine wpList_append_own _ rfl _ _ 25 rfl w.heap.size 3 i0 (.int .i64 0) 1 8 Try.underlying25 hi hz0 hz1 hz2 rfl (by decide) _ 0 [] rfl (World.ownsRow_nil _ _ _ _) ⟨b, off, none⟩ len cap (zs.map (Value.int .i64)) rfl ?c1 ?c2 ?c3 ?c4 ?c5 ?c6 ?_))
    case c1 => simpa using HZ.out
    case c2 =>
      intro j u hj
      rw [List.getElem?_map] at hj
      have hjl : j < zs.length := by
        apply Classical.byContradiction; intro hc
        rw [List.getElem?_eq_none (by omega)] at hj; simp at hj
      rw [List.getElem?_eq_getElem hjl] at hj
      simp at hj; subst hj
      rw [add_none, HC.out j (by rw [← HZ.out]; exact hjl)]
      simp [List.getD, List.getElem?_eq_getElem hjl]
    case c3 => intro u hu; simp at hu; obtain ⟨x, _, rfl⟩ := hu; rfl
    case c4 => unfold maxLen; omega
    case c5 => omega
    case c6 => exact Nat.le_refl _
    intro v' w1 hown hgrow _
    have hg : Gr w w1 := (Below.refl _ _).grown hgrow (Nat.le_refl _) (fun k hk => by simp [Value.ownBlock] at hk)
    obtain ⟨a', cap', rfl, hrow⟩ := row_owned (zs := zs) (by rw [HZ.out]; simpa using hown) (by rw [HZ.out]; exact hm) hwz
    have HG := Lib.hid hg; have HR := Lib.hid hrow
    clear hg hrow hown hgrow hwz
    go_wp2
    go_ret
    exact ⟨a', cap', rfl, HR.out, HG.out⟩

theorem same_any (a a2 : Option Addr) (len cap cap2 : Nat) (zs : List Int) (w : World) (hr : IsRow .i64 w a len zs) (hr2 : IsRow .i64 w a2 len zs) :
    Calls Try.prog 13 #[.slice a len cap, .slice a2 len cap2] w fun e w' => e = .returned (.bool true) ∧ Drew w w' := by
  obtain ⟨hz, hm, hwz, hr⟩ := hr
  obtain ⟨_, _, _, hr2⟩ := hr2
  clear hwz
  by_cases h0 : len = 0
  · subst h0
    clear hr hr2 hz
    go_enter Try.func13, Try.ntmps13
    go_wp2
    go_loopw [5] (fun i wr => i = .int .i64 0 ∧ w = wr) (fun _ _ => 0)
    case atStart => exact ⟨rfl, rfl⟩
    case round =>
      obtain ⟨rfl, rfl⟩ := hrel
      go_wp2
      go_ret
      exact ⟨rfl, Drew.refl _⟩
  · obtain ⟨b, off, rfl, hcell⟩ := hr (by omega)
    obtain ⟨b2, off2, rfl, hcell2⟩ := hr2 (by omega)
    clear hr hr2
    have HC := Lib.hid hcell; clear hcell
    have HC2 := Lib.hid hcell2; clear hcell2
    have HZ := Lib.hid hz; clear hz
    clear h0
    go_enter Try.func13, Try.ntmps13
    go_wp2
    go_loopw [5] (fun i wr => ∃ k : Nat, k ≤ len ∧ i = .int .i64 k ∧ Drew w wr) (fun i _ => len - (intOf i).toNat)
    case atStart => exact ⟨0, Nat.zero_le _, rfl, Drew.refl _⟩
    case round =>
      obtain ⟨k, hk, rfl, n, rfl⟩ := hrel
      by_cases hlt : k < len
      · have hc1 := HC.out k hlt
        have hc2 := HC2.out k hlt
        generalize zs.getD k 0 = z at hc1 hc2
        go_wp2
        go_quiet (fail)
        go_wp2
        go_roundw
        case rel => exact ⟨k + 1, by omega, by go_num, _, rfl⟩
        case measure => simp [intOf]; omega
      · go_wp2
        go_ret
        exact ⟨rfl, n, rfl⟩
end Ow
end Go.Proofs.Ytfkgjpdipdllhaa
/- Chapter 19: raster.Count, walked: how often each number stands in a row. -/
set_option linter.unusedVariables false
set_option linter.unusedSimpArgs false
namespace Go.Proofs.Ytfkgjpdipdllhaa
open Go.RowKit Go.Maps
namespace Mt
/-- The greatest of the first k, or -1. -/
def topK (zs : List Int) : Nat → Int
  | 0 => -1
  | k + 1 => max (topK zs k) (zs.getD k 0)
/-- How often a number stands among the first k. -/
def cntK (zs : List Int) (n : Int) : Nat → Nat
  | 0 => 0
  | k + 1 => cntK zs n k + if zs.getD k 0 = n then 1 else 0
theorem cntK_le (zs : List Int) (n : Int) : ∀ k, cntK zs n k ≤ k
  | 0 => Nat.le_refl _
  | k + 1 => by have := cntK_le zs n k; simp only [cntK]; split <;> omega
theorem topK_lo (zs : List Int) : ∀ k, -1 ≤ topK zs k
  | 0 => by simp [topK]
  | k + 1 => by have := topK_lo zs k; simp only [topK]; omega
/-- Each number's count, from 0 to the greatest one. -/
def cntL (zs : List Int) : List Int := if topK zs zs.length ≤ 1000000 then (List.range (topK zs zs.length + 1).toNat).map fun n : Nat => (cntK zs (n : Int) zs.length : Int) else []
def cntP (zs : List Int) (m : Nat) : List Int := (List.range m).map fun n : Nat => (cntK zs (n : Int) zs.length : Int)
theorem cntP_len (zs : List Int) (m : Nat) : (cntP zs m).length = m := by simp [cntP]
theorem cntP_succ (zs : List Int) (m : Nat) : cntP zs (m + 1) = cntP zs m ++ [(cntK zs (m : Int) zs.length : Int)] := by simp [cntP, List.range_succ]
theorem row_at {w : World} {a : Option Addr} {len i : Nat} {zs : List Int} (h : IsRow .i64 w a len zs) (hi : i < len) : ∃ b off, a = some ⟨b, off, none⟩ ∧ b < w.heap.size ∧ w.cell? ⟨b, off + i, none⟩ = some (.int .i64 (zs.getD i 0)) ∧ I (zs.getD i 0) := by
  obtain ⟨h1, h2, h3, h4⟩ := h
  obtain ⟨b, off, e, hc⟩ := h4 (by omega)
  exact ⟨b, off, e, lt_of_cell (hc i hi), hc i hi, I_of_wf (h3 _ (by rw [List.getD_eq_getElem?_getD, List.getElem?_eq_getElem (by omega)]; exact List.getElem_mem _))⟩
theorem mlaw : Keyed Try.prog 3 := int_keyed Try.underlying3
theorem mzero (w : World) : (zeroValue 3).run Try.prog w = .ok (.int .i64 0) w := by kernel_rfl
/-- A map that tells how often each number stands among the first k. -/
def Cnt (zs : List Int) (k : Nat) (w : World) (b : Nat) : Prop := ∃ D : DataW Unit, w.ownsMap Try.prog 3 (plainElem (H := Unit) Try.prog 3) b k D ∧ IsMap D ∧ ∀ n : Int, D.atKey (.int .i64 n) (.lit (.int .i64 0)) = .lit (.int .i64 (cntK zs n k))
theorem cnt_put {zs : List Int} {k : Nat} {D : DataW Unit} (hm : IsMap D) (ha : ∀ n : Int, D.atKey (.int .i64 n) (.lit (.int .i64 0)) = .lit (.int .i64 (cntK zs n k))) {v : Int} (hv : v = (cntK zs (zs.getD k 0) k : Int) + 1) :
    IsMap (D.put (.int .i64 (zs.getD k 0)) (.lit (.int .i64 v))) ∧ ∀ n : Int, (D.put (.int .i64 (zs.getD k 0)) (.lit (.int .i64 v))).atKey (.int .i64 n) (.lit (.int .i64 0)) = .lit (.int .i64 (cntK zs n (k + 1))) := by
  refine ⟨hm.put _ _, fun n => ?_⟩
  by_cases e : n = zs.getD k 0
  · subst e
    rw [atKey_put_same hm (by simp [WideAt.IsKeyLit]), hv]
    simp [cntK]
  · rw [atKey_put_other (fun h => by injection h with _ h; exact e h), ha n]
    simp only [cntK]
    rw [if_neg (fun h => e h.symm), Nat.add_zero]
set_option maxHeartbeats 4000000 in
set_option maxRecDepth 100000 in
theorem count_any (a : Option Addr) (len cap : Nat) (zs : List Int) (w : World) (hr : IsRow .i64 w a len zs) (hl : len ≤ 1000000) :
    Calls Try.prog 14 #[.slice a len cap] w fun e w' => ∃ a' cap', e = .returned (.slice a' (cntL zs).length cap') ∧ IsRow .i64 w' a' (cntL zs).length (cntL zs) ∧ Gr w w' := by
  have hmm := @run_makeMap Try.prog
  obtain ⟨i0, hi, hz0, hz1, hz2⟩ := info_parts Ow.infoInt
  have hzl := hr.1
  have HR := Lib.hid hr
  clear hr
  go_enter Try.func14, Try.ntmps14
  go_wp2_with fail
  go_loopw [4, 12] (fun v4 v12 wr => ∃ (k : Nat) (t : Int), k ≤ len ∧ t = topK zs k ∧ v4 = .int .i64 t ∧ v12 = .int .i64 k ∧ Cnt zs k wr w.heap.size ∧ Gr w wr) (fun _ v12 _ => len - (intOf v12).toNat)
  case atStart => exact ⟨0, -1, Nat.zero_le _, rfl, rfl, rfl, ⟨.map [], World.ownsMap_made _ _ _ _, isMap_empty, fun n => rfl⟩, (Gr.refl _).alloc _⟩
  case round =>
    obtain ⟨k, t, hk, ht, rfl, rfl, hc, hg⟩ := hrel
    have HT := Lib.hid ht; have HG := Lib.hid hg
    by_cases hlt : k < len
    · obtain ⟨D, hown, hm, ha⟩ := hc
      obtain ⟨b, off, rfl, hbl, hcell, hI⟩ := row_at (HR.out.later hg) hlt
      have HA := Lib.hid ha; have HM := Lib.hid hm
      have hmx : (if t < zs.getD k 0 then zs.getD k 0 else t) = topK zs (k + 1) := by simp only [topK, ← ht]; split <;> omega
      have hput := fun v hv => cnt_put (v := v) hm ha hv
      have HP := Lib.hid hput
      have hcb := cntK_le zs (zs.getD k 0) k
      have HMX := Lib.hid hmx
      clear hm ha hg hput ht hmx
      have hkey : keyOf Try.prog 3 (.int .i64 (zs.getD k 0)) = some (.int .i64 (zs.getD k 0)) := keyOf_int_mk Try.underlying3 (wf_of_I hI)
      have hat0 := HA.out (zs.getD k 0)
      clear HA
      generalize hz : zs.getD k 0 = z at *
      go_wp2_with (first
        | (at_lookup; refine wpList_lookup_own_int _ rfl _ _ 53 rfl 3 3 .i64 mlaw (by kernel_rfl) Try.underlying3 (mzero _) w.heap.size k _ rfl hown _ _ rfl hkey ?_; intro c hat hwc)
        | (at_mapUpdate; refine wpList_mapUpdate_own _ rfl _ _ _ 53 rfl 3 3 mlaw (by kernel_rfl) _ w.heap.size k _ rfl hown (by unfold maxLen; omega) _ _ _ rfl rfl hkey _ [] (plainElem_int Try.underlying3 (wrap64_wf _)) ?_; intro w1 hown1 hgrow1))
      have hcc : c = (cntK zs z k : Int) := by have := hat.symm.trans hat0; simpa using this
      have hwr : wrap64 (c + 1) = (cntK zs z k : Int) + 1 := by rw [hcc]; exact IntWalk.wrap64_in _ ⟨by omega, by omega⟩
      have hg1 : Gr w w1 := Below.grown HG.out hgrow1 HG.out.size (fun j hj => by cases hj; exact Nat.le_refl _)
      have HG1 := Lib.hid hg1; have HO1 := Lib.hid hown1; have HW := Lib.hid hwr
      clear hown1 hgrow1 hg1 hwr hat hat0 hcc hwc
      go_roundw
      case rel =>
        refine ⟨k + 1, _, by omega, rfl, by first | exact congrArg _ HMX.out | (rw [← HMX.out]; first | rfl | simp), by go_num, ?_, HG1.out⟩
        obtain ⟨q1, q2⟩ := HP.out _ HW.out
        exact ⟨_, HO1.out, q1, q2⟩
      case measure => simp [intOf]; omega
    · have hkl : k = len := by omega
      subst hkl
      have HC := Lib.hid hc
      clear hc hg ht
      have htl : topK zs zs.length = t := by rw [HT.out, hzl]
      have hlo := topK_lo zs zs.length
      rw [htl] at hlo
      by_cases hb : 1000000 < t
      · have d1 : decide (1000000 < t) = true := by simpa using hb
        have hL : cntL zs = [] := by unfold cntL; rw [if_neg (by omega)]
        have HL := Lib.hid hL
        clear hL
        go_wp2_with fail
        go_ret
        rw [HL.out]
        exact ⟨none, 0, rfl, IsRow.nil _ _ _, HG.out⟩
      · have d1 : decide (1000000 < t) = false := by simpa using hb
        obtain ⟨M, hM⟩ : ∃ M : Nat, t + 1 = M := ⟨(t + 1).toNat, by omega⟩
        have hL : cntL zs = cntP zs M := by unfold cntL cntP; rw [htl, if_pos (by omega), hM, Int.toNat_natCast]
        have u1 : IntKind.i64.wrap (t + 1) = (M : Int) := by rw [hM]; exact IntWalk.i64_in _ (by omega)
        have HL := Lib.hid hL; have HM := Lib.hid hM
        have hM6 : M ≤ 1000001 := by omega
        have htM : t = (M : Int) - 1 := by omega
        have hsz := HG.out.size
        obtain ⟨D, hown, hm, ha⟩ := HC.out
        have hbm := hown.lt
        clear hL hM htl
        subst htM
        have u2 : (M : Int) - 1 + 1 = M := by omega
        have HA := Lib.hid ha; have HOW := Lib.hid hown
        clear HC hm ha hown
        go_wp2_with fail
        go_loopw [7, 28] (fun v7 v28 wx => ∃ m : Nat, m ≤ M ∧ v28 = .int .i64 m ∧ wx.ownsRow (w.heap.size + 1) 3 1 v7 m ((cntP zs m).map (Value.int .i64)) ∧ wx.ownsMap Try.prog 3 (plainElem (H := Unit) Try.prog 3) w.heap.size k D ∧ Gr w wx ∧ w.heap.size + 1 ≤ wx.heap.size) (fun _ v28 _ => M - (intOf v28).toNat)
        case atStart => exact ⟨0, Nat.zero_le _, rfl, World.ownsRow_nil _ _ _ _, HOW.out, HG.out, by omega⟩
        case round =>
          clear HOW HG
          obtain ⟨m, hm, rfl, hrow, hown, hg, hsz1⟩ := hrel
          obtain ⟨a7, cap7, rfl⟩ := own_slice hrow
          have HRW := Lib.hid hrow; have HG := Lib.hid hg
          clear hg
          by_cases hlt2 : m < M
          · have hkey : keyOf Try.prog 3 (.int .i64 (m : Int)) = some (.int .i64 (m : Int)) := keyOf_int_mk Try.underlying3 (wf_of_I ⟨by omega, by omega⟩)
            have hat0 := HA.out (m : Int)
            clear hrow
            go_wp2_with (first
              | (at_lookup; refine wpList_lookup_own_int _ rfl _ _ 53 rfl 3 3 .i64 mlaw (by kernel_rfl) Try.underlying3 (mzero _) w.heap.size k _ rfl hown _ _ rfl hkey ?_; intro c hat hwc)
              | (at_builtin; go_loud (refine wpList_append_own _ rfl _ _ 25 rfl (w.heap.size + 1) 3 i0 (.int .i64 0) 1 8 Try.underlying25 hi hz0 hz1 hz2 rfl (by decide) _ m _ rfl (HRW.out.alloc _) ⟨wr.heap.size, 0, none⟩ 1 1 [_] rfl rfl (by exact one_new _ _ _) ?c3 ?c4 ?c5 ?c6 ?_)))
            case c3 => intro u hu; simp at hu; subst hu; rfl
            case c4 => unfold maxLen; omega
            case c5 => omega
            case c6 => simp; omega
            intro v' w1 hown1 hgrow _
            have hcc : c = (cntK zs m zs.length : Int) := by have := hat.symm.trans hat0; rw [hzl]; simpa using this
            have hg1 : Gr w w1 := Below.grown (HG.out.alloc _) hgrow (HG.out.alloc _).size (fun j hj => by have := (HRW.out.lt j hj).1; omega)
            have hm1 : w1.ownsMap Try.prog 3 (plainElem (H := Unit) Try.prog 3) w.heap.size k D := (hown.alloc _).kept hgrow (fun e => by have := (HRW.out.lt _ e.symm).1; omega)
            have hs1 := hgrow.size
            have hs2 : w.heap.size + 1 ≤ w1.heap.size := by simp at hs1; omega
            have HO1 := Lib.hid hown1; have HG1 := Lib.hid hg1; have HM1 := Lib.hid hm1; have HCC := Lib.hid hcc
            clear hown1 hgrow hg1 hm1 hown hat hat0 hwc hcc hs1
            go_wp2_with fail
            go_roundw
            case rel =>
              refine ⟨m + 1, by omega, by go_num, ?_, HM1.out, HG1.out, hs2⟩
              rw [cntP_succ, List.map_append]
              have := HO1.out
              rw [HCC.out] at this
              exact this
            case measure => simp [intOf]; omega
          · have hmM : m = M := by omega
            subst hmM
            have hrow2 := HRW.out
            rw [show m = (cntP zs m).length from (cntP_len _ _).symm] at hrow2
            clear hown hrow
            go_wp2_with fail
            go_ret
            rw [HL.out]
            obtain ⟨a', cap', e, hrw⟩ := row_owned (zs := cntP zs m) (by simpa [cntP_len] using HRW.out) (by rw [cntP_len]; omega) (by
              intro x hx
              unfold cntP at hx
              rw [List.mem_map] at hx
              obtain ⟨j, _, rfl⟩ := hx
              have := cntK_le zs (j : Int) zs.length
              exact wf_of_I ⟨by omega, by omega⟩)
            rw [cntP_len] at e hrw ⊢
            cases e
            exact ⟨_, _, rfl, hrw, HG.out⟩
end Mt
end Go.Proofs.Ytfkgjpdipdllhaa
/- Chapter 19: the reference's Count, walked. -/
set_option linter.unusedVariables false
set_option linter.unusedSimpArgs false
namespace Go.Proofs.Ytfkgjpdipdllhaa
open Go.RowKit
namespace Mt
/-- The counts behind the first k. -/
def cntR (zs : List Int) (M k : Nat) : List Int := (List.range M).map fun n : Nat => (cntK zs (n : Int) k : Int)
theorem cntR_len (zs : List Int) (M k : Nat) : (cntR zs M k).length = M := by simp [cntR]
theorem cntR_get {zs : List Int} {M k j : Nat} (hj : j < M) : ((cntR zs M k).map (Value.int .i64))[j]? = some (.int .i64 (cntK zs (j : Int) k)) := by
  simp [cntR, List.getElem?_range hj]
theorem cntR_zero (zs : List Int) (M : Nat) : (cntR zs M 0).map (Value.int .i64) = List.replicate M (.int .i64 0) := by
  apply List.ext_getElem?
  intro j
  by_cases hj : j < M
  · rw [cntR_get hj, List.getElem?_replicate, if_pos hj]; rfl
  · rw [List.getElem?_eq_none (by simp [cntR_len]; omega), List.getElem?_eq_none (by simp; omega)]
theorem cntR_neg {zs : List Int} {M k : Nat} (h : zs.getD k 0 < 0) : cntR zs M (k + 1) = cntR zs M k := by
  unfold cntR
  apply List.map_congr_left
  intro j _
  simp only [cntK]
  rw [if_neg (by omega), Nat.add_zero]
theorem cntR_pos {zs : List Int} {M k z : Nat} (h : zs.getD k 0 = z) (hz : z < M) : (cntR zs M (k + 1)).map (Value.int .i64) = ((cntR zs M k).map (Value.int .i64)).set z (.int .i64 ((cntK zs z k : Int) + 1)) := by
  apply List.ext_getElem?
  intro j
  by_cases hj : j < M
  · rw [cntR_get hj]
    by_cases e : z = j
    · subst e
      rw [List.getElem?_set_self (by simp [cntR_len]; omega)]
      simp only [cntK]; rw [if_pos h]; rfl
    · rw [List.getElem?_set_ne e, cntR_get hj]
      simp only [cntK]; rw [if_neg (by omega), Nat.add_zero]
  · rw [List.getElem?_eq_none (by simp [cntR_len]; omega), List.getElem?_eq_none (by simp [cntR_len]; omega)]
theorem topK_at {zs : List Int} : ∀ {n k : Nat}, k < n → zs.getD k 0 ≤ topK zs n
  | n + 1, k, h => by
    simp only [topK]
    by_cases e : k = n
    · subst e; omega
    · have := topK_at (zs := zs) (n := n) (k := k) (by omega); omega
set_option maxHeartbeats 4000000 in
set_option maxRecDepth 100000 in
theorem rcount_any (a : Option Addr) (len cap : Nat) (zs : List Int) (w : World) (hr : IsRow .i64 w a len zs) (hl : len ≤ 1000000) :
    Calls Try.prog 15 #[.slice a len cap] w fun e w' => ∃ a' cap', e = .returned (.slice a' (cntL zs).length cap') ∧ IsRow .i64 w' a' (cntL zs).length (cntL zs) ∧ Gr w w' := by
  obtain ⟨i0, hi, hz0, hz1, hz2⟩ := info_parts Ow.infoInt
  have hzl := hr.1
  have HR := Lib.hid hr
  clear hr
  go_enter Try.func15, Try.ntmps15
  go_wp2_with fail
  go_loopw [3, 4] (fun v3 v4 wr => ∃ (k : Nat) (t : Int), k ≤ len ∧ t = topK zs k ∧ v3 = .int .i64 t ∧ v4 = .int .i64 k ∧ w = wr) (fun _ v4 _ => len - (intOf v4).toNat)
  case atStart => exact ⟨0, -1, Nat.zero_le _, rfl, rfl, rfl, by first | rfl | trivial⟩
  case round =>
    obtain ⟨k, t, hk, ht, rfl, rfl, rfl⟩ := hrel
    have HT := Lib.hid ht
    by_cases hlt : k < len
    · obtain ⟨b, off, rfl, hbl, hcell, hI⟩ := row_at HR.out hlt
      have hmx : (if t < zs.getD k 0 then zs.getD k 0 else t) = topK zs (k + 1) := by simp only [topK, ← ht]; split <;> omega
      have HMX := Lib.hid hmx
      clear ht hmx
      generalize hz : zs.getD k 0 = z at *
      go_wp2_with fail
      go_roundw
      case rel => exact ⟨k + 1, _, by omega, rfl, by first | exact congrArg _ HMX.out | (rw [← HMX.out]; first | rfl | simp), by go_num, by first | rfl | trivial⟩
      case measure => simp [intOf]; omega
    · have hkl : k = len := by omega
      subst hkl
      have htl : topK zs zs.length = t := by rw [HT.out, hzl]
      have hlo := topK_lo zs zs.length
      rw [htl] at hlo
      have hE : (t < 0 ∨ 1000000 < t) → cntL zs = [] := by
        intro h
        unfold cntL
        rw [htl]
        rcases h with h | h
        · rw [if_pos (by omega), show t = -1 by omega]; rfl
        · rw [if_neg (by omega)]
      clear ht
      by_cases h0 : t < 0
      · have d0 : decide (t < 0) = true := by simpa using h0
        have HE := Lib.hid (hE (.inl h0))
        clear hE
        go_wp2_with fail
        go_ret
        rw [HE.out]
        first
          | exact ⟨none, 0, rfl, IsRow.nil _ _ _, Gr.refl _⟩
          | exact ⟨none, ⟨0, rfl⟩, IsRow.nil _ _ _, Gr.refl _⟩
          | exact ⟨0, rfl, IsRow.nil _ _ _, Gr.refl _⟩
      · have d0 : decide (t < 0) = false := by simpa using h0
        by_cases hb : 1000000 < t
        · have d1 : decide (1000000 < t) = true := by simpa using hb
          have HE := Lib.hid (hE (.inr hb))
          clear hE
          go_wp2_with fail
          go_ret
          rw [HE.out]
          first
            | exact ⟨none, 0, rfl, IsRow.nil _ _ _, Gr.refl _⟩
            | exact ⟨none, ⟨0, rfl⟩, IsRow.nil _ _ _, Gr.refl _⟩
            | exact ⟨0, rfl, IsRow.nil _ _ _, Gr.refl _⟩
        · have d1 : decide (1000000 < t) = false := by simpa using hb
          obtain ⟨M, hM⟩ : ∃ M : Nat, t + 1 = M := ⟨(t + 1).toNat, by omega⟩
          have hL : cntL zs = cntR zs M k := by unfold cntL cntR; rw [htl, if_pos (by omega), hM, Int.toNat_natCast, hzl]
          have u1 : IntKind.i64.wrap (t + 1) = (M : Int) := by rw [hM]; exact IntWalk.i64_in _ (by omega)
          have hat : ∀ j, j < k → zs.getD j 0 < M := by
            intro j hj
            have := topK_at (zs := zs) (n := zs.length) (k := j) (by omega)
            omega
          have HL := Lib.hid hL; have HAT := Lib.hid hat
          have hM6 : M ≤ 1000001 := by omega
          have htM : t = (M : Int) - 1 := by omega
          clear hL hM htl hE hat
          subst htM
          have u2 : (M : Int) - 1 + 1 = M := by omega
          go_wp2_with (first | (refine wpList_make_full _ rfl (.tmp 26) (.tmp 26) 25 rfl w.heap.size 3 i0 (.int .i64 0) 1 Try.underlying25 hi hz0 hz1 .i64 .i64 _ _ M rfl rfl ?c1 ?c2 ?c3 ?c4 ?c5 ?_))
          case c1 => rfl
          case c2 => rfl
          case c3 => first | omega | (rw [hz2]; omega)
          case c4 => unfold maxLen; omega
          try case c5 => simp
          intro w1 hown hgrow
          have hG : Gr w w1 := Below.grown (Gr.refl _) hgrow (Nat.le_refl _) (fun k hk => by simp at hk)
          have hB : Blk w1 w.heap.size ((cntR zs M 0).map (Value.int .i64)) := by
            have := own_blk hown
            rw [toList_madeCells_one] at this
            rw [cntR_zero]
            exact this
          have HG := Lib.hid hG; have HB := Lib.hid hB
          clear hown hgrow hG hB
          go_wp2_with fail
          go_loopw [6] (fun v6 wr => ∃ i : Nat, i ≤ k ∧ v6 = .int .i64 i ∧ Blk wr w.heap.size ((cntR zs M i).map (Value.int .i64)) ∧ Gr w wr) (fun v6 _ => k - (intOf v6).toNat)
          case atStart => exact ⟨0, Nat.zero_le _, rfl, HB.out, HG.out⟩
          case round =>
            clear HG HB
            obtain ⟨i, hik, rfl, hB, hG⟩ := hrel
            by_cases hlt2 : i < k
            · obtain ⟨b, off, rfl, hbl, hcell, hI⟩ := row_at (HR.out.later hG) hlt2
              have hzM := HAT.out i hlt2
              have hbl0 : b < w.heap.size := by
                obtain ⟨b', off', e, hb', _⟩ := row_at HR.out hlt2
                cases e; exact hb'
              have HB := Lib.hid hB; have HG := Lib.hid hG
              have hsz := hB.1
              clear hB hG
              by_cases hneg : zs.getD i 0 < 0
              · have hs := cntR_neg (M := M) hneg
                have HS := Lib.hid hs
                clear hs
                generalize hz : zs.getD i 0 = z at *
                have d2 : decide (0 ≤ z) = false := by simp; omega
                go_wp2_with fail
                go_roundw
                case rel => exact ⟨i + 1, by omega, by go_num, by rw [HS.out]; exact HB.out, HG.out⟩
                case measure => simp [intOf]; omega
              · obtain ⟨z, hz⟩ : ∃ z : Nat, zs.getD i 0 = z := ⟨(zs.getD i 0).toNat, by omega⟩
                have hzM2 : z < M := by omega
                have HP := Lib.hid (cntR_pos (k := i) hz hzM2)
                rw [hz] at hcell hI hzM hneg
                have hB := HB.out
                have hc2 := hB.cell z (cntR_get hzM2)
                have hf2 := hB.free z (cntR_get hzM2)
                have hcb := cntK_le zs (z : Int) i
                clear hB
                have d2 : decide (0 ≤ (z : Int)) = true := by simp
                have d3 : (0 : Int) ≤ (z : Int) := by omega
                have w2 : IntKind.i64.wrap ((cntK zs (z : Int) i : Int) + 1) = (cntK zs (z : Int) i : Int) + 1 := IntWalk.i64_in _ (by omega)
                generalize hcg : cntK zs (z : Int) i = c at *
                go_wp2_with fail
                go_still_tail 14, (by kernel_rfl)
                change wpList _ _ _ _ _ wr.drew
                have hB := HB.out.drew
                have hg := HG.out.drew
                have HG2 := Lib.hid (hg.setCell (p := ⟨w.heap.size, z, none⟩) (Nat.le_refl _) (.int .i64 ((c : Int) + 1)))
                have HB2 := Lib.hid (hB.set z (v := .int .i64 ((c : Int) + 1)) (cntR_get hzM2))
                clear hB hg w2
                go_wp2_with fail
                go_roundw
                case rel => exact ⟨i + 1, by omega, by go_num, by rw [HP.out]; exact HB2.out, HG2.out⟩
                case measure => simp [intOf]; omega
            · have hie : i = k := by omega
              subst hie
              have HB := Lib.hid hB; have HG := Lib.hid hG
              clear hB hG
              go_wp2_with fail
              go_ret
              rw [HL.out]
              rw [cntR_len]
              refine ⟨_, _, rfl, ?_, HG.out⟩
              refine ⟨cntR_len _ _ _, by omega, ?_, fun _ => ⟨w.heap.size, 0, rfl, fun j hj => ?_⟩⟩
              · intro x hx
                unfold cntR at hx
                rw [List.mem_map] at hx
                obtain ⟨j, _, rfl⟩ := hx
                have := cntK_le zs (j : Int) i
                exact wf_of_I ⟨by omega, by omega⟩
              · have := HB.out.cell j (cntR_get hj)
                rw [Nat.zero_add, this]
                simp [cntR, List.getD, hj]
end Mt
end Go.Proofs.Ytfkgjpdipdllhaa
