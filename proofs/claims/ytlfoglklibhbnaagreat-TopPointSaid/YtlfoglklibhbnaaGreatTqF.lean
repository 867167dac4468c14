/- Parts of the proof of TopPoint. No condition of their own. -/
import Derived.Test.YtlfoglklibhbnaaGreatTqE
import Derived.Test.YtlfoglklibhbnaaGreatTpG
import Derived.Deep.RegionHeld
import Derived.StillTailTactics
set_option linter.unusedVariables false
set_option linter.unusedSimpArgs false
namespace Go.Proofs.YtlfoglklibhbnaaGreat
open Go.RowKit
namespace Mt
attribute [local go_sem ↓] Go.wp_at_zero Go.wp_at_succ
theorem idx_nodup (n : Nat) : (idxL n).Nodup := by
 unfold idxL
 refine List.Pairwise.map _ (fun a b (h : a ≠ b) => ?_) List.nodup_range
 intro e; exact h (by injection e)
theorem perm_len {zs : List Int} {n : Nat} (h : zs.Perm (idxL n)) : zs.length = n := by rw [h.length_eq]; simp [idxL]
theorem perm_inj {zs : List Int} {n : Nat} (h : zs.Perm (idxL n)) {j k : Nat} (hj : j < n) (hk : k < n) (e : zs.getD j 0 = zs.getD k 0) : j = k := by
 have hl := perm_len h
 have hd : zs.Nodup := h.nodup_iff.2 (idx_nodup n)
 refine (List.getElem?_inj (i := j) (j := k) (by omega) hd).1 ?_
 rw [List.getD_eq_getElem?_getD, List.getD_eq_getElem?_getD, List.getElem?_eq_getElem (show j < zs.length by omega), List.getElem?_eq_getElem (show k < zs.length by omega)] at e
 rw [List.getElem?_eq_getElem (show j < zs.length by omega), List.getElem?_eq_getElem (show k < zs.length by omega)]
 exact congrArg some e
theorem perm_onto {zs : List Int} {n : Nat} (h : zs.Perm (idxL n)) {i : Nat} (hi : i < n) : ∃ j, j < n ∧ zs.getD j 0 = (i : Int) := by
 have hm : (i : Int) ∈ zs := h.mem_iff.2 (by unfold idxL; rw [List.mem_map]; exact ⟨i, List.mem_range.2 hi, rfl⟩)
 obtain ⟨j, hj⟩ := List.getElem?_of_mem hm
 have hl := perm_len h
 have := (List.getElem?_eq_some_iff.1 hj).1
 exact ⟨j, by omega, by rw [List.getD_eq_getElem?_getD, hj]; rfl⟩
theorem rgood_perm {W H : Int} {n : Nat} {zs : List Int} {rs cur : List (List Int)} (hp : zs.Perm (idxL n)) (hr : rs.length = n) (hc : cur.length = n) (hcur : ∀ j, j < n → cur.getD (zs.getD j 0).toNat [] = rs.getD j []) (hg : RGood W H rs) : RGood W H cur := by
 intro i hi
 obtain ⟨j, hj, ej⟩ := perm_onto hp (show i < n by omega)
 have h1 := hcur j hj
 rw [ej, Int.toNat_natCast] at h1
 refine ⟨by rw [h1]; exact (hg j (by omega)).1, fun i' hi' => ?_⟩
 obtain ⟨j', hj', ej'⟩ := perm_onto hp (show i' < n by omega)
 have h2 := hcur j' hj'
 rw [ej', Int.toNat_natCast] at h2
 rw [h1, h2]
 have hne : j ≠ j' := by intro e; subst e; rw [ej] at ej'; omega
 rcases Nat.lt_or_gt_of_ne hne with h | h
 ·rw [sepL_comm]; exact (hg j' (by omega)).2 j h
 ·exact (hg j (by omega)).2 j' h
theorem cur_step {n k x : Nat} {zs : List Int} {rs cur : List (List Int)} (hp : zs.Perm (idxL n)) (hk : k < n) (hx : zs.getD k 0 = (x : Int)) (hxn : x < n) (hc : cur.length = n) (hcur : ∀ j, j < k → cur.getD (zs.getD j 0).toNat [] = rs.getD j []) : ∀ j, j < k + 1 → (cur.set x (rs.getD k [])).getD (zs.getD j 0).toNat [] = rs.getD j [] := by
 intro j hj
 by_cases e : j = k
 ·subst e
  rw [hx, Int.toNat_natCast, List.getD_eq_getElem?_getD, List.getElem?_set_self (by omega)]
  rfl
 ·have h1 := hcur j (by omega)
  obtain ⟨y, ey, hy⟩ := perm_nat hp (show j < n by omega)
  have hne : x ≠ y := by intro e2; exact e (perm_inj hp (by omega) hk (by rw [ey, hx, e2]))
  rw [ey, Int.toNat_natCast] at h1 ⊢
  rw [List.getD_eq_getElem?_getD, List.getElem?_set_ne hne, ← List.getD_eq_getElem?_getD]
  exact h1
theorem fl_set4 : ∀ (zs : List (List Int)) (i : Nat) (x0 x1 x2 x3 : Int), (∀ z ∈ zs, z.length = 4) → i < zs.length →
  ((((Ro.fl zs).set (i * 4) (.int .i64 x0)).set (i * 4 + 1) (.int .i64 x1)).set (i * 4 + 2) (.int .i64 x2)).set (i * 4 + 3) (.int .i64 x3) = Ro.fl (zs.set i [x0, x1, x2, x3])
 | [], i, _, _, _, _, _, h => by simp at h
 | z :: zs, i, x0, x1, x2, x3, h, hi => by
  have h4 := h z (by simp)
  obtain ⟨a, l0, rfl, e0⟩ := Sx.cut1 h4
  obtain ⟨b, l1, rfl, e1⟩ := Sx.cut1 e0
  obtain ⟨c, l2, rfl, e2⟩ := Sx.cut1 e1
  obtain ⟨d, l3, rfl, e3⟩ := Sx.cut1 e2
  obtain rfl := Sx.cut0 e3
  cases i with
  | zero => simp [Ro.fl_cons]
  | succ i =>
   have hr := fl_set4 zs i x0 x1 x2 x3 (fun y hy => h y (by simp [hy])) (by simpa using hi)
   rw [List.set_cons_succ, Ro.fl_cons, Ro.fl_cons, ← hr]
   have e : (i + 1) * 4 = i * 4 + 4 := by omega
   rw [e]
   simp only [List.map_cons, List.map_nil, List.cons_append, List.nil_append]
   rw [show i * 4 + 4 + 3 = (i * 4 + 3) + 4 by omega, show i * 4 + 4 + 2 = (i * 4 + 2) + 4 by omega, show i * 4 + 4 + 1 = (i * 4 + 1) + 4 by omega]
   simp only [List.set_cons_succ]
theorem four_set {zs : List (List Int)} (h : ∀ z ∈ zs, z.length = 4) (i : Nat) {z : List Int} (hz : z.length = 4) : ∀ y ∈ zs.set i z, y.length = 4 := by
 intro y hy
 rcases List.mem_or_eq_of_mem_set hy with h1 | h1
 ·exact h y h1
 ·rw [h1]; exact hz
theorem made_four (n : Nat) : (madeCells #[Value.int .i64 0, .int .i64 0, .int .i64 0, .int .i64 0] (n * 4)).toList = Ro.fl (List.replicate n [0, 0, 0, 0]) := by
 apply List.ext_getElem?
 intro j
 by_cases hj : j < n * 4
 ·have h4 : ∀ z ∈ List.replicate n ([0, 0, 0, 0] : List Int), z.length = 4 := fun z hz => by rw [List.eq_of_mem_replicate hz]; rfl
  have hg := Ro.fl_get _ h4 (j / 4) (j % 4) (by simp; omega) (by omega)
  rw [show j / 4 * 4 + j % 4 = j by omega] at hg
  have hrep : (List.replicate n ([0, 0, 0, 0] : List Int)).getD (j / 4) [] = [0, 0, 0, 0] := by
   rw [List.getD_eq_getElem?_getD, List.getElem?_replicate, if_pos (by omega)]; rfl
  rw [hg, hrep]
  have h0 : (([0, 0, 0, 0] : List Int).getD (j % 4) 0) = 0 := by
   have : j % 4 = 0 ∨ j % 4 = 1 ∨ j % 4 = 2 ∨ j % 4 = 3 := by omega
   rcases this with h | h | h | h <;> rw [h] <;> rfl
  rw [h0]
  unfold madeCells
  simp only [Array.toList_map, Array.toList_range, List.getElem?_map, List.getElem?_range hj, Option.map_some]
  have : j % 4 = 0 ∨ j % 4 = 1 ∨ j % 4 = 2 ∨ j % 4 = 3 := by omega
  rcases this with h | h | h | h <;> simp [h]
 ·rw [List.getElem?_eq_none (by rw [Array.length_toList, size_madeCells]; omega), List.getElem?_eq_none]
  rw [Ro.fl_len (m := 4) _ (fun z hz => by rw [List.eq_of_mem_replicate hz]; rfl)]
  simp; omega
theorem own_bxm {w : World} {base m : Nat} {e : TypeId} {g n : Nat} {xs : List Value} (h : w.ownsRow base e m (.slice (some ⟨g, 0, none⟩) n n) n xs) : Bx w g e xs := by
 rcases h.2 with ⟨hv, _⟩ | ⟨g', cap', cur, hv, hb, hh, hc, hs, ht⟩
 ·cases hv
 ·injection hv with h1 h2 h3
  injection h1 with h1; injection h1 with h1
  subst h1 h3
  have e1 : cur.toList = xs := by
   rw [← ht.2, List.take_of_length_le (by simp; omega)]
  unfold Bx
  rw [hh, ← e1]
def PaOk (w : World) (No : Nat → Prop) (q : PA) : Prop := PMem w q ∧ (∀ ad : Addr, q.ta = some ad → ¬ No ad.block ∧ ad.block < w.heap.size) ∧ (∀ ad : Addr, q.ua = some ad → ¬ No ad.block ∧ ad.block < w.heap.size)
theorem PaOk.ks {S : Nat → Prop} {w w' : World} {No : Nat → Prop} {q : PA} (h : PaOk w No q) (hk : Ks S w w') (hS : ∀ k, S k → No k ∨ w.heap.size ≤ k) : PaOk w' No q := by
 obtain ⟨⟨m1, m2, m3, m4⟩, h2, h3⟩ := h
 have hno : ∀ ad : Addr, (¬ No ad.block ∧ ad.block < w.heap.size) → ¬ S ad.block := fun ad hb hs => (hS _ hs).elim hb.1 (fun h => by have := hb.2; omega)
 exact ⟨⟨row_ks m1 hk (fun ad e => hno ad (h2 ad e)), rows_ks m2 hk (fun ad e => hno ad (h3 ad e)), m3, m4⟩, fun ad e => ⟨(h2 ad e).1, Nat.lt_of_lt_of_le (h2 ad e).2 hk.size⟩, fun ad e => ⟨(h3 ad e).1, Nat.lt_of_lt_of_le (h3 ad e).2 hk.size⟩⟩
theorem PaOk.reno {w : World} {No No' : Nat → Prop} {q : PA} (h : PaOk w No q) (hn : ∀ k, No' k → No k ∨ w.heap.size ≤ k) : PaOk w No' q :=
 ⟨h.1, fun ad e => ⟨fun hN => (hn _ hN).elim (h.2.1 ad e).1 (fun h' => by have := (h.2.1 ad e).2; omega), (h.2.1 ad e).2⟩, fun ad e => ⟨fun hN => (hn _ hN).elim (h.2.2 ad e).1 (fun h' => by have := (h.2.2 ad e).2; omega), (h.2.2 ad e).2⟩⟩
def core (p : PA) : List Int × List (List Int) × Int × Int := (p.tris, p.uv, p.W, p.H)
theorem core_good {p q : PA} (h : core p = core q) (hg : PGood q) : PGood p := by
 obtain ⟨ta, tc, tris, ua, uc, uv, W, H⟩ := p
 obtain ⟨ta', tc', tris', ua', uc', uv', W', H'⟩ := q
 simp only [core, Prod.mk.injEq] at h
 obtain ⟨rfl, rfl, rfl, rfl⟩ := h
 exact ⟨hg.1, hg.2, hg.3, hg.4, hg.5, hg.6, hg.7, hg.8, hg.9, hg.10⟩
theorem core_goods {ps qs : List PA} (h : qs.map core = ps.map core) (hg : ∀ p ∈ ps, PGood p) : ∀ q ∈ qs, PGood q := by
 intro q hq
 have : core q ∈ ps.map core := by rw [← h]; exact List.mem_map_of_mem hq
 obtain ⟨p, hp, e⟩ := List.mem_map.1 this
 exact core_good e.symm (hg p hp)
theorem core_tris {ps qs : List PA} (h : qs.map core = ps.map core) : ptris qs = ptris ps := by
 have e : ∀ l : List PA, ptris l = (l.map core).flatMap (fun c => c.1) := fun l => by unfold ptris; rw [List.flatMap_map]; rfl
 rw [e, e, h]
theorem core_at {ps qs : List PA} (h : qs.map core = ps.map core) {i : Nat} (hi : i < qs.length) (hi' : i < ps.length) : core qs[i] = core ps[i] := by
 have h1 : (qs.map core)[i]? = (ps.map core)[i]? := by rw [h]
 simpa [hi, hi'] using h1
structure AT where
 W : Int
 H : Int
 pad : Int
 pa : Option Addr
 pc : Nat
 qs : List PA
 ra : Option Addr
 rc : Nat
 rs : List (List Int)
def AT.vs (a : AT) : List Value := [.int .i64 a.W, .int .i64 a.H, .int .i64 a.pad, .slice a.pa a.qs.length a.pc, .slice a.ra a.rs.length a.rc]
def AMem (w : World) (a : AT) : Prop := PRows w a.pa a.qs ∧ Oi.IsRows 4 w a.ra a.rs.length a.rs ∧ a.qs.length ≤ a.pc ∧ a.rs.length ≤ a.rc
theorem AMem.later {w w' : World} {a : AT} (h : AMem w a) (g : Gr w w') : AMem w' a := ⟨h.1.later g, h.2.1.later g, h.2.2⟩
structure AGood (a : AT) : Prop where
 num : numB a.W a.H a.pad = true
 few : a.qs.length ≤ 12
 len : a.rs.length = a.qs.length
 good : ∀ p ∈ a.qs, PGood p
 nd : (ptris a.qs).Nodup
 size : ∀ i (h : i < a.qs.length), (a.rs.getD i []).getD 2 0 = (a.qs[i]).W + 2 * a.pad ∧ (a.rs.getD i []).getD 3 0 = (a.qs[i]).H + 2 * a.pad
 rects : RGood a.W a.H a.rs
def AFresh (n : Nat) (a : AT) : Prop := (∀ ad : Addr, a.pa = some ad → n ≤ ad.block) ∧ (∀ ad : Addr, a.ra = some ad → n ≤ ad.block) ∧ ∀ q ∈ a.qs, (∀ ad : Addr, q.ta = some ad → n ≤ ad.block) ∧ (∀ ad : Addr, q.ua = some ad → n ≤ ad.block)
theorem PRows.ks {S : Nat → Prop} {w w' : World} {a : Option Addr} {ps : List PA} (h : PRows w a ps) (hk : Ks S w w') (h0 : ∀ ad : Addr, a = some ad → ¬ S ad.block) (h1 : ∀ q ∈ ps, (∀ ad : Addr, q.ta = some ad → ¬ S ad.block) ∧ (∀ ad : Addr, q.ua = some ad → ¬ S ad.block)) : PRows w' a ps := by
 refine ⟨fun hl => ?_, fun q hq => ?_⟩
 ·obtain ⟨b, off, e, hc⟩ := h.1 hl
  exact ⟨b, off, e, fun i hi j v hv => by rw [hk.cell (p := ⟨b, off + (i * 4 + j), none⟩) (lt_of_cell (hc i hi j v hv)) (h0 ⟨b, off, none⟩ e)]; exact hc i hi j v hv⟩
 ·obtain ⟨m1, m2, m3, m4⟩ := h.2 q hq
  exact ⟨row_ks m1 hk (h1 q hq).1, rows_ks m2 hk (h1 q hq).2, m3, m4⟩
theorem AMem.ks {S : Nat → Prop} {w w' : World} {a : AT} {n : Nat} (h : AMem w a) (hf : AFresh n a) (hk : Ks S w w') (hS : ∀ k, S k → k < n) : AMem w' a := by
 have hno : ∀ b : Nat, n ≤ b → ¬ S b := fun b hb hs => by have := hS b hs; omega
 exact ⟨h.1.ks hk (fun ad e => hno _ (hf.1 ad e)) (fun q hq => ⟨fun ad e => hno _ ((hf.2.2 q hq).1 ad e), fun ad e => hno _ ((hf.2.2 q hq).2 ad e)⟩), rows_ks h.2.1 hk (fun ad e => hno _ (hf.2.1 ad e)), h.2.2⟩
def BuildP (W H pad : Int) (ps : List PA) (w : World) (e : Ending) (w' : World) : Prop :=
 ∃ v er, e = .returned (.tuple #[v, .int .i64 er]) ∧ Gr w w' ∧ (er ≠ 0 → v = .agg #[.int .i64 0, .int .i64 0, .int .i64 0, .slice none 0 0, .slice none 0 0]) ∧ (er = 0 → ∃ a : AT, v = .agg a.vs.toArray ∧ (a.W = W ∧ a.H = H ∧ a.pad = pad) ∧ a.qs.map core = ps.map core ∧ AMem w' a ∧ AGood a ∧ AFresh w.heap.size a) ∧ (ps.length = 1 → numB W H pad = true → (∀ p ∈ ps, p.W + 2 * pad ≤ W ∧ p.H + 2 * pad ≤ H) → er = 0)
theorem BuildP.no {W H pad : Int} {ps : List PA} {w w' : World} {e : Ending} (er : Int) (he : e = .returned (.tuple #[.agg #[.int .i64 0, .int .i64 0, .int .i64 0, .slice none 0 0, .slice none 0 0], .int .i64 er])) (h0 : er ≠ 0) (hg : Gr w w') (h1 : ps.length = 1 → numB W H pad = true → (∀ p ∈ ps, p.W + 2 * pad ≤ W ∧ p.H + 2 * pad ≤ H) → False) : BuildP W H pad ps w e w' :=
 ⟨_, er, he, hg, fun _ => rfl, fun h => absurd h h0, fun a b c => (h1 a b c).elim⟩
end Mt
end Go.Proofs.YtlfoglklibhbnaaGreat
namespace Go.Proofs.YtlfoglklibhbnaaGreat.Sx
open Go.RowKit
section
variable {P : Program}
theorem wpList_of_op {ops : Array Oper} {Q : Exit → Act → World → Prop} {i : Nat} {o : Oper} {a : Act} {w : World} (hi : ops[i]? = some o) (h : wpList P ops Q [o] a w) : wpOp P ops Q i (fun a w => Q .normal a w) a w := by
 unfold wpOp
 rw [hi]
 exact h
theorem wpAny_conv {ops : Array Oper} {Q Q' : Exit → Act → World → Prop} (h : ∀ e a w, Q e a w → Q' e a w) : ∀ (fuel : Nat) (L : Array Bool) (a : Act) (w : World), wpAny P .any ops Q fuel L a w → wpAny P .any ops Q' fuel L a w
 | 0, L, a, w, h0 => ⟨h0.1, h _ _ _ h0.2⟩
 | n + 1, L, a, w, h0 => ⟨fun r => h _ _ _ (h0.1 r), fun i hi => wpOp_conv rfl (fun o _ => rfl) (fun a w => wpAny_conv h n _ a w) (fun e a w _ => h e a w) (h0.2 i hi)⟩
def QL (P : Program) (ops : Array Oper) (Q : Exit → Act → World → Prop) (o : Oper) (e : Exit) (a : Act) (w : World) : Prop :=
 match e with
 | .normal => wpList P ops Q [o] a w
 | e => Q e a w
theorem wp_region_held_last {ops l : List Oper} {o : Oper} {Q : Exit → Act → World → Prop} {S : World → Prop} {id : Nat} {a : Act} {w : World} (hl : splitLast ops = some (l, o)) (hm : P.follows .mixedOrders = true)
  (hk : (edgesOk 0 ops && allBits ((befores ops []).getD l.length 0) l.length && guardsLt l.length l) = true)
  (hS : S w.drew) (h : S w.drew → wpAnyH P .any l.toArray (QL P ops.toArray Q o) S l.length (Array.replicate l.length false) a w.drew) : (Code.region id ops.toArray true).wp P Q a w := by
 have e := splitLast_ok hl
 subst e
 simp only [Bool.and_eq_true] at hk
 refine wp_region_any hm ?_
 have h1 := wpAny_of_held _ _ _ _ (h hS)
 have hsz : (l ++ [o]).toArray.size = l.length + 1 := by simp
 rw [hsz]
 have hrep : Array.replicate (l.length + 1) false = (Array.replicate l.length false).push false := by
  apply Array.ext'
  simp [List.replicate_succ']
 rw [hrep]
 refine any_last hk.1.1 hk.1.2 hk.2 l.length _ _ _ (by simp) ?_ ?_ ?_
 ·exact cnt_self _ _
 ·intro i z hi hL
  have : (Array.replicate l.length false).getD i false = false := by
   simp [Array.getD]
  rw [this] at hL; cases hL
 ·refine wpAny_conv ?_ _ _ _ _ h1
  intro e a w he
  cases e <;> first | exact wpList_of_op (by simp) he | exact he
end
end Go.Proofs.YtlfoglklibhbnaaGreat.Sx
namespace Go.Proofs.YtlfoglklibhbnaaGreat
open Go.RowKit
namespace Mt
attribute [local go_sem ↓] Go.wp_at_zero Go.wp_at_succ
theorem ti_atlas : AggT Tryz.prog 32 5 := ⟨⟨_, 5, [.int .i64 0, .int .i64 0, .int .i64 0, .slice none 0 0, .slice none 0 0]⟩, ⟨Tryz.underlying32, by kernel_rfl⟩, rfl, rfl⟩
theorem infoV : (Tryz.prog.info? 38).map (fun i => (i.zero, i.size, i.bytes)) = some (some (.agg #[.int .i64 0, .int .i64 0]), 2, 16) := by kernel_rfl
theorem infoP : (Tryz.prog.info? 70).map (fun i => (i.zero, i.size, i.bytes)) = some (some (.agg #[.slice none 0 0, .slice none 0 0, .int .i64 0, .int .i64 0]), 4, 64) := by kernel_rfl
def szs (ps : List PA) (pad : Int) (zs : List Int) : List (List Int) := zs.map fun i => [(ps.getD i.toNat ⟨none, 0, [], none, 0, [], 0, 0⟩).W + 2 * pad, (ps.getD i.toNat ⟨none, 0, [], none, 0, [], 0, 0⟩).H + 2 * pad]
theorem szs_len (ps : List PA) (pad : Int) (zs : List Int) : (szs ps pad zs).length = zs.length := by simp [szs]
theorem szs_at {ps : List PA} {pad : Int} {zs : List Int} {k x : Nat} (hk : k < zs.length) (e : zs.getD k 0 = (x : Int)) (hx : x < ps.length) : (szs ps pad zs).getD k [] = [(ps[x]).W + 2 * pad, (ps[x]).H + 2 * pad] := by
 unfold szs
 rw [List.getD_eq_getElem?_getD, List.getElem?_map, List.getElem?_eq_getElem hk]
 rw [List.getD_eq_getElem?_getD, List.getElem?_eq_getElem hk] at e
 simp only [Option.getD_some] at e
 simp [e, hx]
theorem szs_take {ps : List PA} {pad : Int} {zs : List Int} {k x : Nat} (hk : k < zs.length) (e : zs.getD k 0 = (x : Int)) (hx : x < ps.length) : (szs ps pad zs).take (k + 1) = (szs ps pad zs).take k ++ [[(ps[x]).W + 2 * pad, (ps[x]).H + 2 * pad]] := by
 rw [List.take_succ_eq_append_getElem (by rw [szs_len]; exact hk), ← szs_at (pad := pad) hk e hx]
 congr 2
 simp [List.getD, show k < (szs ps pad zs).length by rw [szs_len]; exact hk]
theorem rows_ks0 {m : Nat} {S : Nat → Prop} {w w' : World} {a : Option Addr} {len : Nat} {zs : List (List Int)} (h : Oi.IsRows m w a len zs) (hk : Ks S w w') (hS : 0 < len → ∀ ad : Addr, a = some ad → ¬ S ad.block) : Oi.IsRows m w' a len zs :=
 ⟨h.1, h.2.1, h.2.2.1, fun hl => (rows_ks h hk (hS hl)).2.2.2 hl⟩
theorem ks_fourx (w : World) (g a b c d : Nat) (u0 u1 u2 u3 : Value) : Ks (fun b => b = g) w ((((w.setCell ⟨g, a, none⟩ u0).setCell ⟨g, b, none⟩ u1).setCell ⟨g, c, none⟩ u2).setCell ⟨g, d, none⟩ u3) := by
 have h1 : Ks (fun b => b = g) w (w.setCell ⟨g, a, none⟩ u0) := ks_set rfl
 generalize w.setCell ⟨g, a, none⟩ u0 = w1 at *
 have h2 : Ks (fun b => b = g) w1 (w1.setCell ⟨g, b, none⟩ u1) := ks_set rfl
 generalize w1.setCell ⟨g, b, none⟩ u1 = w2 at *
 have h3 : Ks (fun b => b = g) w2 (w2.setCell ⟨g, c, none⟩ u2) := ks_set rfl
 generalize w2.setCell ⟨g, c, none⟩ u2 = w3 at *
 have h4 : Ks (fun b => b = g) w3 (w3.setCell ⟨g, d, none⟩ u3) := ks_set rfl
 exact ((h1.trans h2).trans h3).trans h4
theorem ks_five (w : World) (g : Nat) (u0 u1 u2 u3 u4 : Value) : Ks (fun b => b = g) w (((((w.setCell ⟨g, 0, none⟩ u0).setCell ⟨g, 1, none⟩ u1).setCell ⟨g, 2, none⟩ u2).setCell ⟨g, 3, none⟩ u3).setCell ⟨g, 4, none⟩ u4) := by
 have h1 := ks_four w g u0 u1 u2 u3
 generalize (((w.setCell ⟨g, 0, none⟩ u0).setCell ⟨g, 1, none⟩ u1).setCell ⟨g, 2, none⟩ u2).setCell ⟨g, 3, none⟩ u3 = w1 at *
 exact h1.trans (ks_set rfl)
theorem good_size {p : PA} (h : PGood p) : (1 ≤ p.W ∧ p.W ≤ 257) ∧ (1 ≤ p.H ∧ p.H ≤ 257) := by
 have hx := bhx_le (fun k hk => (h.small k hk).1) (show 0 < 3 * p.uv.length by have := h.pos; omega) _ (Nat.le_refl _)
 have hy := bhy_le (fun k hk => (h.small k hk).2) (show 0 < 3 * p.uv.length by have := h.pos; omega) _ (Nat.le_refl _)
 have := h.w; have := h.h
 omega
set_option maxHeartbeats 16000000 in
set_option maxRecDepth 100000 in
theorem build_any (W H pad : Int) (a : Option Addr) (cap : Nat) (ps : List PA) (w : World) (hr : PRows w a ps) (hg : ∀ p ∈ ps, PGood p) (hnd : (ptris ps).Nodup) (hl : ps.length ≤ 12) :
  Calls Tryz.prog 19 #[.int .i64 W, .int .i64 H, .int .i64 pad, .slice a ps.length cap] w (BuildP W H pad ps w) := by
 obtain ⟨i0, hi, hz0, hz1, hz2⟩ := info_parts infoV
 obtain ⟨j0, hj, hy0, hy1, hy2⟩ := info_parts infoR
 obtain ⟨k0, hkP, hx0, hx1, hx2⟩ := info_parts infoP
 have HRI := Lib.hid (fun w1 (g : Gr w w1) => rowright_any a cap ps w1 (hr.later g) hg hnd hl)
 have HOR := Lib.hid (fun w1 (g : Gr w w1) => order_any a cap ps w1 (hr.later g) hl)
 have HR := Lib.hid hr; have HGD := Lib.hid hg; have HND := Lib.hid hnd
 clear hr hg hnd
 obtain ⟨n, hn⟩ : ∃ n, ps.length = n := ⟨_, rfl⟩
 have HN := Lib.hid hn
 rw [hn] at hl HRI HOR ⊢
 clear hn
 have hZ0 : Bx (w.alloc (.cells #[.int .i64 0, .int .i64 0, .int .i64 0, .slice none 0 0, .slice none 0 0] 32)) w.heap.size 32 [.int .i64 0, .int .i64 0, .int .i64 0, .slice none 0 0, .slice none 0 0] := Bx.new (vs := [.int .i64 0, .int .i64 0, .int .i64 0, .slice none 0 0, .slice none 0 0]) rfl
 have hG0 : Gr w (w.alloc (.cells #[.int .i64 0, .int .i64 0, .int .i64 0, .slice none 0 0, .slice none 0 0] 32)) := (Gr.refl w).alloc _
 have HZ := Lib.hid hZ0; have HG := Lib.hid hG0
 clear hZ0 hG0
 go_enter Tryz.func19, Tryz.ntmps19
 go_wp2_with fail
 refine (numbers_any W H pad _).mono ?_
 rintro e w1 ⟨rfl, rfl⟩
 obtain ⟨V, hV⟩ : ∃ V, w.alloc (.cells #[.int .i64 0, .int .i64 0, .int .i64 0, .slice none 0 0, .slice none 0 0] 32) = V := ⟨_, rfl⟩
 rw [hV] at HZ HG ⊢
 clear hV
 cases hnum : numB W H pad with
 | false =>
  have HNU := Lib.hid hnum
  have z3 := HZ.out.blk
  have p0 := z3.cell 0 rfl; have p1 := z3.cell 1 rfl; have p2 := z3.cell 2 rfl; have p3 := z3.cell 3 rfl; have p4 := z3.cell 4 rfl; have y0 := z3.free 0 rfl; have y1 := z3.free 1 rfl; have y2 := z3.free 2 rfl; have y3 := z3.free 3 rfl; have y4 := z3.free 4 rfl; have lz := HZ.out.lt
  clear z3
  go_wp2_with fail
  refine bodyPost_ret (res_agg_tmp (vs := [.int .i64 0, .int .i64 0, .int .i64 0, .slice none 0 0, .slice none 0 0]) rfl ti_atlas rfl (bx_seti (bx_seti (bx_seti (bx_seti (bx_seti HZ.out 0 _) 1 _) 2 _) 3 _) 4 _) rfl) rfl (BuildP.no 1 rfl (by omega) ?_ ?no1)
  ·exact ((((HG.out.setCell (by show w.heap.size ≤ w.heap.size; omega) _).setCell (by show w.heap.size ≤ w.heap.size; omega) _).setCell (by show w.heap.size ≤ w.heap.size; omega) _).setCell (by show w.heap.size ≤ w.heap.size; omega) _).setCell (by show w.heap.size ≤ w.heap.size; omega) _
  case no1 =>
   intro _ h _; rw [HNU.out] at h; cases h
 | true =>
  have HNU := Lib.hid hnum
  go_wp2_with fail
  refine (HRI.out V HG.out).mono ?_
  rintro e w1 ⟨rfl, hg1⟩
  have HG1 := Lib.hid (HG.out.trans hg1); have HZ1 := Lib.hid (HZ.out.gr hg1)
  clear hg1 HZ HG HRI
  go_wp2_with fail
  refine (HOR.out w1 HG1.out).mono ?_
  rintro e w2 ⟨g, zs, rfl, hp, hb, hge, hg2⟩
  have hge : w1.heap.size ≤ g := hge
  have HG2 := Lib.hid (HG1.out.trans hg2); have HZ2 := Lib.hid (HZ1.out.gr hg2); have HP := Lib.hid hp; have HB := Lib.hid hb
  have hws := HZ1.out.lt
  clear hg2 HZ1 HG1 HOR hp hb
  have hpad : 1 ≤ pad ∧ pad ≤ 8 ∧ 1 ≤ W ∧ W ≤ 256 ∧ 1 ≤ H ∧ H ≤ 256 := by
   unfold numB at hnum
   simp only [Bool.and_eq_true, decide_eq_true_eq] at hnum
   omega
  clear hnum
  go_wp2_with fail
  go_loopw [11, 37] (fun v11 v37 wr => ∃ k : Nat, k ≤ n ∧ v37 = .int .i64 k ∧ wr.ownsRow w2.heap.size 38 2 v11 k (Ro.fl ((szs ps pad zs).take k)) ∧ (∀ j, j < k → ((szs ps pad zs).getD j []).getD 0 0 ≤ 256 ∧ ((szs ps pad zs).getD j []).getD 1 0 ≤ 256) ∧ Gr w2 wr) (fun _ v37 _ => n - (intOf v37).toNat)
  case atStart => exact ⟨0, Nat.zero_le _, rfl, World.ownsRow_nil _ _ _ _, fun j h => absurd h (by omega), Gr.refl _⟩
  case round =>
   obtain ⟨k, hk, rfl, hown, hle, hgr⟩ := hrel
   obtain ⟨a11, cap11, rfl⟩ := own_slice hown
   have HO := Lib.hid hown; have HLE := Lib.hid hle; have HGR := Lib.hid hgr
   clear hown hle hgr
   by_cases hlt : k < n
   ·obtain ⟨x, ex, hx⟩ := perm_nat HP.out hlt
    have hxp : x < ps.length := by have := HN.out; omega
    have hzl := perm_len HP.out
    have hst := szs_take (pad := pad) (by omega) ex hxp
    have hsa := szs_at (pad := pad) (by omega) ex hxp
    obtain ⟨b, off, rfl, lb, hpm, c0, c1, c2, c3⟩ := prow_op (HR.out.later (HG2.out.trans HGR.out)) hxp
    have hps := good_size (HGD.out _ (List.getElem_mem hxp))
    have hcx := (HB.out.gr HGR.out).blk.cell k (show (zs.map (Value.int .i64))[k]? = some (.int .i64 (zs.getD k 0)) by rw [List.getElem?_map, List.getD_eq_getElem?_getD, List.getElem?_eq_getElem (by omega)]; rfl)
    have lg := (HB.out.gr HGR.out).lt
    rw [ex] at hcx
    have hmem : ps[x] ∈ ps := List.getElem_mem hxp
    generalize ps[x] = p at *
    have HST := Lib.hid hst; have HSA := Lib.hid hsa
    clear hst hsa hpm
    obtain ⟨ta, tc, tris, ua, uc, uv, PW, PH⟩ := p
    simp only at c0 c1 c2 c3 hps
    have hk0 : (0 : Int) ≤ (k : Int) := by omega
    have HMEM := Lib.hid hmem
    clear hmem
    go_wp2_with fail
    refine (fsize_any ⟨ta, tc, tris, ua, uc, uv, PW, PH⟩ pad (by show 0 ≤ PW ∧ PW ≤ 1000; omega) (by show 0 ≤ PH ∧ PH ≤ 1000; omega) (by omega) _).mono ?_
    rintro e w3 ⟨rfl, hg3⟩
    simp only at HST HSA HMEM ⊢
    have hXb : 1 ≤ PW + 2 * pad ∧ PW + 2 * pad ≤ 300 := by omega
    have hYb : 1 ≤ PH + 2 * pad ∧ PH + 2 * pad ≤ 300 := by omega
    have HXM := Lib.hid (fun (h3 : ∀ p ∈ ps, p.W + 2 * pad ≤ W ∧ p.H + 2 * pad ≤ H) => h3 _ HMEM.out)
    simp only at HXM
    generalize PW + 2 * pad = X at *
    generalize PH + 2 * pad = Y at *
    obtain ⟨U, hU⟩ : ∃ U, w3.alloc (.cells #[.int .i64 X, .int .i64 Y] 38) = U := ⟨_, rfl⟩
    obtain ⟨s, hs⟩ : ∃ s, w3.heap.size = s := ⟨_, rfl⟩
    have hB : Bx U s 38 [.int .i64 X, .int .i64 Y] := by rw [← hU]; exact Bx.new (vs := [.int .i64 X, .int .i64 Y]) hs.symm
    have hgU : Gr wr U := by rw [← hU]; exact hg3.alloc _
    have hOU := Fa_owns HO.out hgU
    have x0 := hB.blk.cell 0 rfl; have x1 := hB.blk.cell 1 rfl; have lX := hB.lt
    have HX := Lib.hid hB; have HGU := Lib.hid (HGR.out.trans hgU); have HOU := Lib.hid hOU
    have mx : (if X < Y then Y else X) = max X Y := by split <;> omega
    clear hB hgU hOU hg3 HO HGR c0 c1 c2 c3 hcx lg lb hps
    by_cases hm : 256 < max X Y
    ·have d3 : decide (256 < max X Y) = true := by simpa using hm
     have HM := Lib.hid hm
     have HZ3 := Lib.hid (HZ2.out.gr HGU.out); have HG3 := Lib.hid (HG2.out.trans HGU.out)
     clear hm
     have z3 := HZ3.out.blk
     have p0 := z3.cell 0 rfl; have p1 := z3.cell 1 rfl; have p2 := z3.cell 2 rfl; have p3 := z3.cell 3 rfl; have p4 := z3.cell 4 rfl; have y0 := z3.free 0 rfl; have y1 := z3.free 1 rfl; have y2 := z3.free 2 rfl; have y3 := z3.free 3 rfl; have y4 := z3.free 4 rfl; have lz := HZ3.out.lt
     clear z3
     go_wp2_with fail
     refine bodyPost_ret (res_agg_tmp (vs := [.int .i64 0, .int .i64 0, .int .i64 0, .slice none 0 0, .slice none 0 0]) rfl ti_atlas rfl (bx_seti (bx_seti (bx_seti (bx_seti (bx_seti HZ3.out 0 _) 1 _) 2 _) 3 _) 4 _) rfl) rfl (BuildP.no 9 rfl (by omega) ?_ ?no1)
     ·exact ((((HG3.out.setCell (by show w.heap.size ≤ w.heap.size; omega) _).setCell (by show w.heap.size ≤ w.heap.size; omega) _).setCell (by show w.heap.size ≤ w.heap.size; omega) _).setCell (by show w.heap.size ≤ w.heap.size; omega) _).setCell (by show w.heap.size ≤ w.heap.size; omega) _
     case no1 =>
      intro _ _ h3
      have := HXM.out h3; have := HM.out
      omega
    ·have d3 : decide (256 < max X Y) = false := by simpa using hm
     have HM := Lib.hid hm
     clear hm
     go_wp2_with (first
      | (at_builtin; go_loud (refine wpList_append_own _ rfl (.tmp 55) (.tmp 57) 23 rfl w2.heap.size 38 i0 (.agg #[.int .i64 0, .int .i64 0]) 2 16 Tryz.underlying23 hi hz0 hz1 hz2 rfl (by decide) (.slice a11 k cap11) k (Ro.fl ((szs ps pad zs).take k)) (by rfl) (HOU.out.alloc _) ⟨U.heap.size, 0, none⟩ 1 1 [.int .i64 X, .int .i64 Y] (by rfl) rfl (by simpa using World.news_of_block (World.alloc_heap_new U (.cells #[.int .i64 X, .int .i64 Y] 38))) ?d3 ?d4 ?d5 ?d6 ?_)))
     case d3 => exact ⟨rfl, rfl⟩
     case d4 => unfold maxLen; omega
     case d5 => omega
     case d6 => have := HGU.out.size; first | omega | (simp; omega)
     intro v' w6 hown6 hgrow _
     have hG6 : Gr w2 w6 := Below.grown (HGU.out.alloc _) hgrow (HGU.out.alloc _).size (fun q hq => ((HOU.out.alloc (.cells #[.int .i64 X, .int .i64 Y] 38)).lt q hq).1)
     have HG6 := Lib.hid hG6; have HO6 := Lib.hid hown6
     clear hG6 hown6 hgrow x0 x1 lX hU hs
     go_wp2_with fail
     go_roundw
     case rel =>
      refine ⟨k + 1, by omega, by go_num, ?_, fun j hj => ?_, HG6.out⟩
      ·rw [HST.out, Ro.fl_append, Ro.fl_one1]
       exact HO6.out
      ·by_cases e : j = k
       ·subst e
        rw [HSA.out]
        simp only [List.getD_cons_zero, List.getD_cons_succ]
        have := HM.out
        omega
       ·exact HLE.out j (by omega)
     case measure => simp [intOf]; omega
   ·have hkn : k = n := by omega
    subst hkn
    have hzl := perm_len HP.out
    have hzk := szs_len ps pad zs
    have hbs : ∀ i, i < k → (1 ≤ ((szs ps pad zs).getD i []).getD 0 0 ∧ ((szs ps pad zs).getD i []).getD 0 0 ≤ 256) ∧ (1 ≤ ((szs ps pad zs).getD i []).getD 1 0 ∧ ((szs ps pad zs).getD i []).getD 1 0 ≤ 256) := by
     intro i hi
     obtain ⟨x, ex, hx⟩ := perm_nat HP.out hi
     have hxp : x < ps.length := by have := HN.out; omega
     have h1 := szs_at (pad := pad) (by omega) ex hxp
     have h2 := HLE.out i hi
     have h3 := good_size (HGD.out _ (List.getElem_mem hxp))
     rw [h1] at h2 ⊢
     simp only [List.getD_cons_zero, List.getD_cons_succ] at h2 ⊢
     omega
    have hro := HO.out
    rw [List.take_of_length_le (by omega)] at hro
    have hrows := Ro.rows_owned (m := 2) (zs := szs ps pad zs) (by rw [hzk, hzl]; exact hro) (by omega) (fun z hz => by
     obtain ⟨i, hi⟩ := List.getElem?_of_mem hz
     have hil : i < (szs ps pad zs).length := (List.getElem?_eq_some_iff.1 hi).1
     obtain ⟨x, ex, hx⟩ := perm_nat HP.out (show i < k by omega)
     have hxp : x < ps.length := by have := HN.out; omega
     have h1 := szs_at (pad := pad) (by omega) ex hxp
     have ez : (szs ps pad zs).getD i [] = z := by rw [List.getD_eq_getElem?_getD, hi]; rfl
     have h3 := good_size (HGD.out _ (List.getElem_mem hxp))
     rw [h1] at ez
     subst ez
     refine ⟨rfl, fun y hy => ?_⟩
     simp only [List.mem_cons, List.not_mem_nil, or_false] at hy
     rcases hy with rfl | rfl <;> exact ⟨by omega, by omega⟩)
    obtain ⟨aa, cc, e, hrw, hcc, _⟩ := hrows
    rw [hzk, hzl] at e hrw hcc
    cases e
    obtain ⟨Wn, rfl⟩ : ∃ Wn : Nat, W = Wn := ⟨W.toNat, by omega⟩
    obtain ⟨Hn, rfl⟩ : ∃ Hn : Nat, H = Hn := ⟨H.toNat, by omega⟩
    have HPK := Lib.hid (pack_any Wn Hn a11 k cap11 (szs ps pad zs) wr (by omega) (by omega) hrw hcc (by omega) hbs)
    clear hro hrw hcc hbs hzl hzk HO HLE
    go_wp2_with fail
    refine HPK.out.mono ?_
    rintro e w3 ⟨v, er, rfl, hg3, hok, hone⟩
    have HOK := Lib.hid hok; have HONE := Lib.hid hone; have HG3 := Lib.hid (HG2.out.trans (HGR.out.trans hg3)); have HB3 := Lib.hid (HB.out.gr (HGR.out.trans hg3)); have HZ3 := Lib.hid (HZ2.out.gr (HGR.out.trans hg3))
    clear hok hone hg3 HPK
    by_cases her : er = 0
    ·subst her
     obtain ⟨ra, rc, rs, rfl, hrc, hrr, hrg, hrs⟩ := HOK.out rfl
     have HRR := Lib.hid hrr; have HRG := Lib.hid hrg; have HRS := Lib.hid hrs
     clear hrr hrg hrs HOK HONE
     go_wp2_with (first | (refine wpList_make_full _ rfl (.tmp 75) (.tmp 75) 30 rfl w3.heap.size 92 j0 (.agg #[.int .i64 0, .int .i64 0, .int .i64 0, .int .i64 0]) 4 Tryz.underlying30 hj hy0 hy1 .i64 .i64 _ _ k rfl rfl ?c1 ?c2 ?c3 ?c4 ?c5 ?_))
     case c1 => rfl
     case c2 => rfl
     case c3 => first | omega | (rw [hy2]; omega)
     case c4 => unfold maxLen; omega
     try case c5 => simp
     intro w4 hown hgrow
     have hG : Gr w3 w4 := Below.grown (Gr.refl _) hgrow (Nat.le_refl _) (fun k hk => by simp at hk)
     have hB : Bx w4 w3.heap.size 92 (Ro.fl (List.replicate k [0, 0, 0, 0])) := by
      have := own_bxm hown
      rw [made_four] at this
      exact this
     obtain ⟨gR, hgR⟩ : ∃ gR, w3.heap.size = gR := ⟨_, rfl⟩
     obtain ⟨ab, hab⟩ : ∃ ab, w4.heap.size = ab := ⟨_, rfl⟩
     rw [hgR] at hB ⊢
     have lR := hB.lt
     have l3 := HG3.out.size
     obtain ⟨V5, hV5⟩ : ∃ V5, w4.alloc (.cells #[.int .i64 Wn, .int .i64 Hn, .int .i64 pad, .slice none 0 0, .slice (some ⟨gR, 0, none⟩) k k] 32) = V5 := ⟨_, rfl⟩
     have hA : Bx V5 ab 32 [.int .i64 Wn, .int .i64 Hn, .int .i64 pad, .slice none 0 0, .slice (some ⟨gR, 0, none⟩) k k] := by rw [← hV5]; exact Bx.new (vs := [.int .i64 Wn, .int .i64 Hn, .int .i64 pad, .slice none 0 0, .slice (some ⟨gR, 0, none⟩) k k]) hab.symm
     have hG5 : Gr w3 V5 := by rw [← hV5]; exact hG.alloc _
     have hB5 : Bx V5 gR 92 (Ro.fl (List.replicate k [0, 0, 0, 0])) := by rw [← hV5]; exact hB.alloc _
     have lA := hA.lt
     have HA5 := Lib.hid hA; have HB5 := Lib.hid hB5; have HG5 := Lib.hid (HG3.out.trans hG5); have HZ5 := Lib.hid (HZ3.out.gr hG5); have HR5 := Lib.hid (HRR.out.later hG5)
     have HO5 := Lib.hid (HB3.out.gr hG5)
     have lgo := HB3.out.lt
     have HRB := Lib.hid (show 0 < k → ∀ ad : Addr, ra = some ad → ad.block < gR from fun h0 ad e => by
      obtain ⟨b, off, _, _, _, _, e2, lb, _⟩ := rows4_op HRR.out h0
      rw [e2] at e; injection e with e; rw [← e, ← hgR]; exact lb)
     have lz3 := HZ3.out.lt
     clear hA hB5 hB hG hG5 hown hgrow HRR HB3 HZ3 HG3 HGR HB HZ2 HG2
     go_wp2_with fail
     clear hV5
     go_loopw [80] (fun v80 wr => ∃ i : Nat, i ≤ k ∧ v80 = .int .i64 i ∧ ∃ qs pv, qs.length = i ∧ qs.map core = (ps.take i).map core ∧ wr.ownsRow V5.heap.size 70 4 pv i (pav qs) ∧ Bx wr ab 32 [.int .i64 Wn, .int .i64 Hn, .int .i64 pad, pv, .slice (some ⟨gR, 0, none⟩) k k] ∧ (∀ q ∈ qs, PaOk wr (fun b => pv.ownBlock = some b ∨ b < V5.heap.size) q) ∧ Ks (fun b => b = ab) V5 wr) (fun v80 _ => k - (intOf v80).toNat)
     case atStart => exact ⟨0, Nat.zero_le _, rfl, [], _, rfl, rfl, World.ownsRow_nil _ _ _ _, HA5.out, fun q hq => by simp at hq, Ks.refl _ _⟩
     case round =>
      clear HA5
      obtain ⟨i, hi', rfl, qs, pv, hql, hqc, hown, hA, hqo, hks⟩ := hrel
      obtain ⟨a3, cap3, rfl⟩ := own_slice hown
      have HQL := Lib.hid hql; have HQC := Lib.hid hqc; have HOW := Lib.hid hown; have HA := Lib.hid hA; have HQO := Lib.hid hqo; have HKS := Lib.hid hks
      have hgw : Gr w wr := hks.gr HG5.out (fun q hq => by show ¬ q = ab; omega)
      have HGW := Lib.hid hgw
      clear hql hqc hown hA hqo hks hgw
      by_cases hlt : i < k
      ·have hip : i < ps.length := by have := HN.out; omega
       obtain ⟨b, off, rfl, lb, hpm, c0, c1, c2, c3⟩ := prow_op (HR.out.later HGW.out) hip
       have hpg := HGD.out _ (List.getElem_mem hip)
       have hpc : (ps.take (i + 1)).map core = (ps.take i).map core ++ [core ps[i]] := by rw [List.take_succ_eq_append_getElem hip, List.map_append]; rfl
       generalize ps[i] = p at *
       obtain ⟨ta, tc, tris, ua, uc, uv, PW, PH⟩ := p
       have hp1 := hpg.len; have hp2 := hpg.pos; have hp3 := hpg.few
       simp only at c0 c1 c2 c3 hp1 hp2 hp3
       have HP1 := Lib.hid hp1; have HP2 := Lib.hid hp2; have HP3 := Lib.hid hp3
       clear hp1 hp2 hp3
       have hi0 : (0 : Int) ≤ (i : Int) := by omega
       obtain ⟨U, hU⟩ : ∃ U, wr.alloc (.cells #[.slice ta tris.length tc, .slice ua uv.length uc, .int .i64 PW, .int .i64 PH] 70) = U := ⟨_, rfl⟩
       obtain ⟨s, hs⟩ : ∃ s, wr.heap.size = s := ⟨_, rfl⟩
       have hX : Bx U s 70 [.slice ta tris.length tc, .slice ua uv.length uc, .int .i64 PW, .int .i64 PH] := by rw [← hU]; exact Bx.new (vs := [.slice ta tris.length tc, .slice ua uv.length uc, .int .i64 PW, .int .i64 PH]) hs.symm
       have hgU : Gr wr U := by rw [← hU]; exact (Gr.refl _).alloc _
       have HX := Lib.hid hX; have HGU := Lib.hid hgU
       have HAU := Lib.hid (HA.out.gr hgU)
       have HOU := Lib.hid (Fa_owns HOW.out hgU)
       have HPM := Lib.hid (hpm.later hgU); have HPC := Lib.hid hpc
       have HOLT := Lib.hid (fun q hq => (HOW.out.lt q hq).2)
       have lab := HAU.out.lt; have lXs := hX.lt
       have lws := HKS.out.size
       clear hX hgU hpm hpc hpg
       go_wp2_with fail
       clear hU c0 c1 c2 c3 lb
       refine Sx.wp_region_held_last (S := fun w' => w'.cell? ⟨ab, 3, none⟩ = some (.slice a3 i cap3) ∧ w'.cell? ⟨s, 0, none⟩ = some (.slice ta tris.length tc) ∧ w'.cell? ⟨s, 1, none⟩ = some (.slice ua uv.length uc) ∧ w'.cell? ⟨s, 2, none⟩ = some (.int .i64 PW) ∧ w'.cell? ⟨s, 3, none⟩ = some (.int .i64 PH)) (by rfl) (by kernel_rfl) (by kernel_rfl) ?_ (fun hH => ?_)
       ·exact ⟨HAU.out.blk.cell 3 rfl, HX.out.blk.cell 0 rfl, HX.out.blk.cell 1 rfl, HX.out.blk.cell 2 rfl, HX.out.blk.cell 3 rfl⟩
       refine' wpAnyH_take (i := 0) (v := _) rfl (by kernel_rfl) (by kernel_rfl) (by kernel_rfl) (fun _ _ _ h => h) (Or.inl ⟨by rfl, ?thy1_0⟩) (by assumption) ?_
       case thy1_0 => (intro w hSw; (try dsimp only at hSw); go_simp; try with_reducible rfl)
       try simp only [Act.put, List.setIfInBounds_toArray, List.set_cons_zero, List.set_cons_succ, List.getElem_toArray, List.getElem_cons_zero]
       refine' wpAnyH_take (i := 1) (v := _) rfl (by kernel_rfl) (by kernel_rfl) (by kernel_rfl) (fun _ _ _ h => h) (Or.inl ⟨by rfl, ?thy1_1⟩) (by assumption) ?_
       case thy1_1 => (intro w hSw; (try dsimp only at hSw); go_simp; try with_reducible rfl)
       try simp only [Act.put, List.setIfInBounds_toArray, List.set_cons_zero, List.set_cons_succ, List.getElem_toArray, List.getElem_cons_succ, List.getElem_cons_zero]
       refine' wpAnyH_take (i := 2) (v := _) rfl (by kernel_rfl) (by kernel_rfl) (by kernel_rfl) (fun _ _ _ h => h) (Or.inl ⟨by rfl, ?thy1_2⟩) (by assumption) ?_
       case thy1_2 => (intro w hSw; (try dsimp only at hSw); go_simp; try with_reducible rfl)
       try simp only [Act.put, List.setIfInBounds_toArray, List.set_cons_zero, List.set_cons_succ, List.getElem_toArray, List.getElem_cons_succ, List.getElem_cons_zero]
       refine' wpAnyH_take (i := 3) (v := _) rfl (by kernel_rfl) (by kernel_rfl) (by kernel_rfl) (fun _ _ _ h => h) (Or.inl ⟨by rfl, ?thy1_3⟩) (by assumption) ?_
       case thy1_3 => (intro w hSw; (try dsimp only at hSw); go_simp; try with_reducible rfl)
       try simp only [Act.put, List.setIfInBounds_toArray, List.set_cons_zero, List.set_cons_succ, List.getElem_toArray, List.getElem_cons_succ, List.getElem_cons_zero]
       refine' wpAnyH_take (i := 4) (v := _) rfl (by kernel_rfl) (by kernel_rfl) (by kernel_rfl) (fun _ _ _ h => h) (Or.inl ⟨by rfl, ?thy1_4⟩) (by assumption) ?_
       case thy1_4 => (intro w hSw; (try dsimp only at hSw); go_simp; try with_reducible rfl)
       try simp only [Act.put, List.setIfInBounds_toArray, List.set_cons_zero, List.set_cons_succ, List.getElem_toArray, List.getElem_cons_succ, List.getElem_cons_zero]
       refine wpAnyH_ready (rs := [5]) (by kernel_rfl) (by simp) ?_
       refine AllReadyH.cons rfl (fun K hK => ?_) AllReadyH.nil
       go_simp
       go_at_call 49
       refine (own_any ⟨ta, tc, tris, ua, uc, uv, PW, PH⟩ pad _ (HPM.out.later (Gr.refl U).drew) HP1.out HP2.out HP3.out).mono ?_
       rintro e wq ⟨⟨qta, qtc, qtris, qua, quc, quv, qW, qH⟩, rfl, hq, hmq, hta, hua, hg⟩
       simp only at hq hta hua
       have HQ := Lib.hid hq; have HMQ := Lib.hid hmq; have HTA := Lib.hid hta; have HUA := Lib.hid hua
       have hgu : Gr U wq := ⟨hg.os, hg.tape, hg.output, hg.size, fun k hk => hg.block k hk⟩
       have HGQ := Lib.hid hgu
       clear hq hmq hta hua hgu
       simp only [PA.vs]
       have Q := Lib.hid ((bx_drew HAU.out).gr hg); clear HAU; have HAU := Lib.hid Q.out; clear Q
       have Q := Lib.hid ((bx_drew HX.out).gr hg); clear HX; have HX := Lib.hid Q.out; clear Q
       have HAQ := Lib.hid HAU.out
       have hcc : wq.cell? ⟨ab, 3, none⟩ = some (.slice a3 i cap3) ∧ wq.cell? ⟨s, 0, none⟩ = some (.slice ta tris.length tc) ∧ wq.cell? ⟨s, 1, none⟩ = some (.slice ua uv.length uc) ∧ wq.cell? ⟨s, 2, none⟩ = some (.int .i64 PW) ∧ wq.cell? ⟨s, 3, none⟩ = some (.int .i64 PH) := ⟨HAU.out.blk.cell 3 rfl, HX.out.blk.cell 0 rfl, HX.out.blk.cell 1 rfl, HX.out.blk.cell 2 rfl, HX.out.blk.cell 3 rfl⟩
       clear hg
       go_wp2_with fail
       refine hK.out _ _ ?_ (fun hN => ?_)
       ·exact hcc
       clear hK K hH
       have hH := hN; clear hN
       try simp only [Act.put, List.setIfInBounds_toArray, List.set_cons_zero, List.set_cons_succ, List.getElem_toArray, List.getElem_cons_succ, List.getElem_cons_zero]
       have lq1 : ab < wq.heap.size := by have := HGQ.out.size; omega
       have lq2 : s < wq.heap.size := by have := HGQ.out.size; omega
       refine wpAnyH_ready (rs := [6]) (by kernel_rfl) (by simp) ?_
       refine AllReadyH.cons rfl (fun K hK => ?_) AllReadyH.nil
       go_simp
       refine hK.out _ _ ?_ (fun hN => ?_)
       ·exact ⟨(World.cell?_alloc_past _ _ _ (by simpa using lq1)).trans hH.1, (World.cell?_alloc_past _ _ _ (by simpa using lq2)).trans hH.2.1, (World.cell?_alloc_past _ _ _ (by simpa using lq2)).trans hH.2.2.1, (World.cell?_alloc_past _ _ _ (by simpa using lq2)).trans hH.2.2.2.1, (World.cell?_alloc_past _ _ _ (by simpa using lq2)).trans hH.2.2.2.2⟩
       clear hK K hH
       have hH := hN; clear hN
       try simp only [Act.put, List.setIfInBounds_toArray, List.set_cons_zero, List.set_cons_succ, List.getElem_toArray, List.getElem_cons_succ, List.getElem_cons_zero]
       refine wpAnyH_ready (rs := [7]) (by kernel_rfl) (by simp) ?_
       refine AllReadyH.cons rfl (fun K hK => ?_) AllReadyH.nil
       have HOQ := Lib.hid (Fa_owns HOU.out HGQ.out)
       refine step_append_lies _ (by rfl) (.tmp 85) (.tmp 90) 29 (by rfl) V5.heap.size 70 k0 (.agg #[.slice none 0 0, .slice none 0 0, .int .i64 0, .int .i64 0]) 4 64 Tryz.underlying29 hkP hx0 hx1 hx2 rfl (by omega) (Value.slice a3 i cap3) i (pav qs) (by rfl) (HOQ.out.alloc _) ⟨wq.heap.size, 0, none⟩ 1 1 [.slice qta qtris.length qtc, .slice qua quv.length quc, .int .i64 qW, .int .i64 qH] (by rfl) rfl (World.news_of_block (World.alloc_heap_new wq _)) (by intro u hu; simp at hu; rcases hu with rfl | rfl | rfl | rfl <;> rfl) (by omega) (by unfold maxLen; omega) (by omega) (by simp; omega) (wq.heap.size + 1) (by simp) ?_
       intro g3 cap3' w7 hown7 hgrow7 hat7 hlt7
       have hgr7 : wq.grownBy w7 (Value.slice a3 i cap3).ownBlock := grown_trans ((Gr.refl wq).alloc _) hgrow7
       have HGR7 := Lib.hid hgr7; have HO7 := Lib.hid hown7; have HAT7 := Lib.hid hat7
       have z0 : w7.cell? ⟨ab, 3, none⟩ = some (.slice a3 i cap3) := (hgr7.cell_far ⟨ab, 3, none⟩ lq1 (fun e => by have := own_base HOQ.out _ e.symm; simp at this; omega)).trans hcc.1
       have hsf : ∀ j v, wq.cell? ⟨s, j, none⟩ = some v → w7.cell? ⟨s, j, none⟩ = some v := fun j v hc => (hgr7.cell_far ⟨s, j, none⟩ lq2 (fun e => by have := HOLT.out _ e.symm; simp at this; omega)).trans hc
       have z1 := hsf 0 _ hcc.2.1; have z2 := hsf 1 _ hcc.2.2.1; have z3 := hsf 2 _ hcc.2.2.2.1; have z4 := hsf 3 _ hcc.2.2.2.2
       have hA7 : Bx w7 ab 32 [.int .i64 Wn, .int .i64 Hn, .int .i64 pad, .slice a3 i cap3, .slice (some ⟨gR, 0, none⟩) k k] := (hgr7.block ab lq1 (fun e => by have := own_base HOQ.out _ e.symm; omega)).trans HAQ.out
       have HA7 := Lib.hid hA7
       have f3 := hA7.blk.free 3 rfl; have l7 := hA7.lt
       clear hgrow7 hgr7 hat7 hown7 hsf hA7
       refine hK.out _ _ ?_ (fun hN => ?_)
       ·exact ⟨z0, z1, z2, z3, z4⟩
       clear z1 z2 z3 z4 hcc
       clear hK K hH
       have hH := hN; clear hN
       try simp only [Act.put, List.setIfInBounds_toArray, List.set_cons_zero, List.set_cons_succ, List.getElem_toArray, List.getElem_cons_succ, List.getElem_cons_zero]
       refine' wpAnyH_take (i := 8) (v := _) rfl (by kernel_rfl) (by kernel_rfl) (by kernel_rfl) (fun _ _ _ h => h) (Or.inl ⟨by rfl, ?thy1_5⟩) (by assumption) ?_
       case thy1_5 => (intro w hSw; (try dsimp only at hSw); go_simp; try with_reducible rfl)
       try simp only [Act.put, List.setIfInBounds_toArray, List.set_cons_zero, List.set_cons_succ, List.getElem_toArray, List.getElem_cons_succ, List.getElem_cons_zero]
       refine wpAnyH_done (by kernel_rfl) ?_ _
       show wpList _ _ _ _ _ _
       clear z0
       go_wp2_with fail
       go_roundw
       case rel =>
        have hob := own_base HO7.out g3 rfl
        have hpair : core ⟨qta, qtc, qtris, qua, quc, quv, qW, qH⟩ = core ⟨ta, tc, tris, ua, uc, uv, PW, PH⟩ := by
         obtain ⟨rfl, rfl, rfl, rfl⟩ := HQ.out
         rfl
        have h2 := ks_grown2 HGR7.out
        have hgro : ∀ b, ((Value.slice a3 i cap3).ownBlock = some b ∨ (Value.slice (some ⟨g3, 0, none⟩) (i + 1) cap3').ownBlock = some b) → (Value.slice a3 i cap3).ownBlock = some b ∨ wq.heap.size ≤ b := by
         intro b hb
         rcases hb with hb | hb
         ·exact .inl hb
         ·simp [Value.ownBlock] at hb
          subst hb
          rcases HAT7.out with h | h
          ·exact .inl h
          ·exact .inr (by omega)
        have hfin : ∀ q : PA, PaOk wq (fun b => ((Value.slice a3 i cap3).ownBlock = some b ∨ (Value.slice (some ⟨g3, 0, none⟩) (i + 1) cap3').ownBlock = some b) ∨ b < V5.heap.size) q → PaOk (w7.setCell ⟨ab, 3, none⟩ (.slice (some ⟨g3, 0, none⟩) (i + 1) cap3')) (fun b => (Value.slice (some ⟨g3, 0, none⟩) (i + 1) cap3').ownBlock = some b ∨ b < V5.heap.size) q := by
         intro q hq
         have k2 := hq.ks h2 (fun k hk => .inl (.inl (.inl hk)))
         have k3 := k2.ks (ks_set (w := w7) (p := ⟨ab, 3, none⟩) (v := .slice (some ⟨g3, 0, none⟩) (i + 1) cap3') (g := ab) rfl) (fun k hk => .inl (.inr (by show k < _; subst hk; exact lA)))
         exact k3.reno (fun b hb => .inl (hb.elim (fun e => .inl (.inr e)) .inr))
        refine ⟨i + 1, by omega, by go_num, qs ++ [⟨qta, qtc, qtris, qua, quc, quv, qW, qH⟩], _, by simp [HQL.out], ?r1, ?r2, bx_seti HA7.out 3 _, ?r3, ?r4⟩
        case r1 => rw [List.map_append, HQC.out, HPC.out]; congr 1; exact congrArg (fun c => [c]) hpair
        case r2 =>
         refine own_ks2 (S := fun k => k = ab) ?_ (ks_set rfl) (fun k e => by simp [Value.ownBlock] at e; omega)
         rw [pav_snoc]; exact HO7.out
        case r3 =>
         intro q hq
         rw [List.mem_append] at hq
         rcases hq with hq | hq
         ·refine hfin q (((HQO.out q hq).ks (Ks.of_gr (S := fun _ => False) (HGU.out.trans HGQ.out)) (fun k h => h.elim)).reno (fun b hb => ?_))
          rcases hb with hb | hb
          ·rcases hgro b hb with h | h
           ·exact .inl (.inl h)
           ·exact .inr h
          ·exact .inl (.inr hb)
         ·simp at hq
          subst hq
          refine hfin _ ?_
          have hU2 : s < U.heap.size := lXs
          have hno : ∀ b, U.heap.size ≤ b → b < wq.heap.size → ¬ (((Value.slice a3 i cap3).ownBlock = some b ∨ (Value.slice (some ⟨g3, 0, none⟩) (i + 1) cap3').ownBlock = some b) ∨ b < V5.heap.size) := by
           intro b h1 h2' hb
           rcases hb with hb | hb
           ·rcases hgro b hb with h | h
            ·have := HOLT.out b h; omega
            ·omega
           ·omega
          obtain ⟨m1, m2, m3, m4⟩ := HMQ.out
          obtain ⟨e1, e2, _, _⟩ := HQ.out
          simp only at m1 m2 m3 m4
          have hn1 : 0 < qtris.length := by rw [e1, HP1.out]; exact HP2.out
          have hn2 : 0 < quv.length := by rw [e2]; exact HP2.out
          obtain ⟨b1, o1, eb1, lb1, _⟩ := row_at m1 hn1
          obtain ⟨b2, o2, _, _, _, _, _, _, eb2, lb2, _⟩ := rows6_op m2 hn2
          refine ⟨⟨m1, m2, m3, m4⟩, fun ad e => ?_, fun ad e => ?_⟩
          ·have h1 := HTA.out ad e
           have h2' : ad.block < wq.heap.size := by simp only at e; rw [eb1] at e; injection e with e; rw [← e]; exact lb1
           exact ⟨hno _ (by simpa using h1) h2', h2'⟩
          ·have h1 := HUA.out ad e
           have h2' : ad.block < wq.heap.size := by simp only at e; rw [eb2] at e; injection e with e; rw [← e]; exact lb2
           exact ⟨hno _ (by simpa using h1) h2', h2'⟩
        case r4 =>
         have h1 : Ks (fun b => b = ab) V5 wq := HKS.out.trans (Ks.of_gr (HGU.out.trans HGQ.out))
         exact Ks.trans ⟨h2.os.trans h1.os, h2.tape.trans h1.tape, h2.output.trans h1.output, Nat.le_trans h1.size h2.size, fun k hk hs => (h2.block k (Nat.lt_of_lt_of_le hk h1.size) (fun e => by have := own_base HOQ.out _ e; omega)).trans (h1.block k hk hs)⟩ (ks_set rfl)
       case measure => simp [intOf]; omega
      ·have hik : i = k := by omega
       subst hik
       have lgr : g < gR := by omega
       have lgab : gR < ab := by omega
       have hOw := HO5.out.ks HKS.out (by show ¬ g = ab; omega)
       have hBw := HB5.out.ks HKS.out (by show ¬ gR = ab; omega)
       have hZw := HZ5.out.ks HKS.out (by show ¬ w.heap.size = ab; omega)
       have hRw := rows_ks0 HR5.out HKS.out (fun h0 ad e => by show ¬ ad.block = ab; have := HRB.out h0 ad e; omega)
       have HOw := Lib.hid hOw; have HBw := Lib.hid hBw; have HZw := Lib.hid hZw; have HRw := Lib.hid hRw
       have lwg : w.heap.size < gR := by omega
       clear hOw hBw hZw hRw HO5 HB5 HZ5 HR5
       go_wp2_with fail
       go_loopw [96] (fun v96 wx => ∃ j : Nat, j ≤ i ∧ v96 = .int .i64 j ∧ ∃ cur, cur.length = i ∧ (∀ z ∈ cur, z.length = 4) ∧ Bx wx gR 92 (Ro.fl cur) ∧ (∀ j', j' < j → cur.getD (zs.getD j' 0).toNat [] = rs.getD j' []) ∧ Ks (fun b => b = gR) wr wx) (fun v96 _ => i - (intOf v96).toNat)
       case atStart => exact ⟨0, Nat.zero_le _, rfl, _, by simp, fun z hz => by rw [List.eq_of_mem_replicate hz]; rfl, HBw.out, fun j h => absurd h (by omega), Ks.refl _ _⟩
       case round =>
        clear HBw
        obtain ⟨j, hj', rfl, cur, hcl, hc4, hb, hcu, hk3⟩ := hrel
        have HCL := Lib.hid hcl; have HC4 := Lib.hid hc4; have HB := Lib.hid hb; have HCU := Lib.hid hcu; have HK3 := Lib.hid hk3
        have HAx := Lib.hid (HA.out.ks hk3 (by show ¬ ab = gR; omega))
        clear hcl hc4 hb hcu hk3
        by_cases hlt2 : j < i
        ·obtain ⟨x, ex, hx⟩ := perm_nat HP.out hlt2
         have hzl := perm_len HP.out
         have hcx := (HOw.out.ks HK3.out (by show ¬ g = gR; omega)).blk.cell j (show (zs.map (Value.int .i64))[j]? = some (.int .i64 (zs.getD j 0)) by rw [List.getElem?_map, List.getD_eq_getElem?_getD, List.getElem?_eq_getElem (by omega)]; rfl)
         have lg2 := (HOw.out.ks HK3.out (by show ¬ g = gR; omega)).lt
         obtain ⟨b, off, x0, x1, x2, x3, rfl, lb, ez, ⟨hI0, hI1, hI2, hI3⟩, c0, c1, c2, c3⟩ := rows4_op (rows_ks0 HRw.out HK3.out (fun h0 ad e => by show ¬ ad.block = gR; have := HRB.out h0 ad e; omega)) hlt2
         have HEX := Lib.hid ex; have HEZ := Lib.hid ez
         rw [ex] at hcx
         have a4 := HAx.out.blk.cell 4 rfl
         have lab2 := HAx.out.lt
         have hfx := fun q (hq : q < 4) => HB.out.blk.free (x * 4 + q) (Ro.fl_get cur HC4.out x q (by rw [HCL.out]; exact hx) hq)
         have f0 := hfx 0 (by omega); have f1 := hfx 1 (by omega); have f2 := hfx 2 (by omega); have f3 := hfx 3 (by omega)
         rw [Nat.add_zero] at f0
         have hcfx := fun q (hq : q < 4) => HB.out.blk.cell (x * 4 + q) (Ro.fl_get cur HC4.out x q (by rw [HCL.out]; exact hx) hq)
         have g0 := hcfx 0 (by omega); have g1 := hcfx 1 (by omega); have g2 := hcfx 2 (by omega); have g3 := hcfx 3 (by omega)
         rw [Nat.add_zero] at g0
         have lgR := HB.out.lt
         have hj0 : (0 : Int) ≤ (j : Int) := by omega
         clear ex ez hfx hcfx hzl hI0 hI1 hI2 hI3
         go_wp2_with fail
         go_still_tail 8, (by kernel_rfl)
         change wpList _ _ _ _ _ wr.drew
         go_wp2_with fail
         go_roundw
         case rel =>
          have hst := cur_step (rs := rs) HP.out hlt2 HEX.out hx HCL.out HCU.out
          rw [HEZ.out] at hst
          refine ⟨j + 1, by omega, by go_num, cur.set x [x0, x1, x2, x3], by simp [HCL.out], four_set HC4.out x rfl, ?q1, hst, ?q2⟩
          case q1 =>
           rw [← fl_set4 cur x x0 x1 x2 x3 HC4.out (by rw [HCL.out]; exact hx)]
           exact bx_seti (bx_seti (bx_seti (bx_seti (bx_drew HB.out) _ _) _ _) _ _) _ _
          case q2 =>
           refine HK3.out.trans ?_
           exact (ks_fourx wr gR (x * 4) (x * 4 + 1) (x * 4 + 2) (x * 4 + 3) (.int .i64 x0) (.int .i64 x1) (.int .i64 x2) (.int .i64 x3)).trans (Ks.of_gr (Gr.refl _).drew)
         case measure => simp [intOf]; omega
        ·have hji : j = i := by omega
         subst hji
         have HZX := Lib.hid (HZw.out.ks HK3.out (by show ¬ w.heap.size = gR; omega))
         have a0 := HAx.out.blk.cell 0 rfl; have a1 := HAx.out.blk.cell 1 rfl; have a2 := HAx.out.blk.cell 2 rfl; have a3' := HAx.out.blk.cell 3 rfl; have a4 := HAx.out.blk.cell 4 rfl; have lab2 := HAx.out.lt
         have z3 := HZX.out.blk
         have p0 := z3.cell 0 rfl; have p1 := z3.cell 1 rfl; have p2 := z3.cell 2 rfl; have p3 := z3.cell 3 rfl; have p4 := z3.cell 4 rfl; have y0 := z3.free 0 rfl; have y1 := z3.free 1 rfl; have y2 := z3.free 2 rfl; have y3 := z3.free 3 rfl; have y4 := z3.free 4 rfl; have lz := HZX.out.lt
         clear z3
         go_wp2_with fail
         refine bodyPost_ret (res_agg_tmp (vs := [.int .i64 Wn, .int .i64 Hn, .int .i64 pad, .slice a3 j cap3, .slice (some ⟨gR, 0, none⟩) j j]) rfl ti_atlas rfl (bx_seti (bx_seti (bx_seti (bx_seti (bx_seti HZX.out 0 _) 1 _) 2 _) 3 _) 4 _) rfl) rfl ?_
         have hwf := ks_five wr w.heap.size (.int .i64 Wn) (.int .i64 Hn) (.int .i64 pad) (.slice a3 j cap3) (.slice (some ⟨gR, 0, none⟩) j j)
         generalize ((((wr.setCell ⟨w.heap.size, 0, none⟩ (.int .i64 Wn)).setCell ⟨w.heap.size, 1, none⟩ (.int .i64 Hn)).setCell ⟨w.heap.size, 2, none⟩ (.int .i64 pad)).setCell ⟨w.heap.size, 3, none⟩ (.slice a3 j cap3)).setCell ⟨w.heap.size, 4, none⟩ (.slice (some ⟨gR, 0, none⟩) j j) = wf at *
         have hcore : qs.map core = ps.map core := by rw [HQC.out, List.take_of_length_le (by rw [HN.out]; exact Nat.le_refl _)]
         have hl5 := HG5.out.size
         have how := own_ks2 (own_ks2 HOW.out HK3.out (fun k e h => by have := own_base HOW.out k e; have h : k = gR := h; omega)) hwf (fun k e h => by have := own_base HOW.out k e; have h : k = w.heap.size := h; omega)
         have hpr := pa_rows (ps := qs) (by rw [HQL.out]; exact how) (fun q hq => by
          refine (((HQO.out q hq).ks HK3.out (fun k hk => .inl (.inr ?_))).ks hwf (fun k hk => .inl (.inr ?_))).1
          ·have hk : k = gR := hk; omega
          ·have hk : k = w.heap.size := hk; omega)
         obtain ⟨pa, pc, epv, hpc, hprows⟩ := hpr
         rw [HQL.out] at epv hpc
         cases epv
         have hI : ∀ z ∈ cur, z.length = 4 ∧ ∀ y ∈ z, I y := by
          intro z hz
          refine ⟨HC4.out z hz, ?_⟩
          obtain ⟨i', hi'⟩ := List.getElem?_of_mem hz
          have hil : i' < cur.length := (List.getElem?_eq_some_iff.1 hi').1
          rw [HCL.out] at hil
          obtain ⟨j', hjj, ej⟩ := perm_onto HP.out hil
          have h1 := HCU.out j' hjj
          rw [ej, Int.toNat_natCast, List.getD_eq_getElem?_getD, hi'] at h1
          simp only [Option.getD_some] at h1
          have hm : rs.getD j' [] ∈ rs := by rw [List.getD_eq_getElem?_getD, List.getElem?_eq_getElem (by rw [HRw.out.1]; exact hjj)]; exact List.getElem_mem _
          rw [h1]
          exact (HRw.out.2.2.1 _ hm).2
         have hBf := (HB.out.ks hwf (by show ¬ gR = w.heap.size; omega)).blk
         have hrw : Oi.IsRows 4 wf (some ⟨gR, 0, none⟩) j cur := ⟨HCL.out, by omega, hI, fun _ => ⟨gR, 0, rfl, fun i' q hi' hq => by
          rw [Nat.zero_add]
          exact hBf.cell _ (Ro.fl_get cur HC4.out i' q (by rw [HCL.out]; exact hi') hq)⟩⟩
         have hqs : ∀ q ∈ qs, PGood q := core_goods hcore HGD.out
         refine ⟨_, 0, rfl, ?gr, fun h => absurd rfl h, fun _ => ⟨⟨Wn, Hn, pad, a3, cap3, qs, some ⟨gR, 0, none⟩, j, cur⟩, ?e1, ⟨rfl, rfl, rfl⟩, hcore, ⟨hprows, by show Oi.IsRows 4 wf _ cur.length cur; rw [HCL.out]; exact hrw, by show qs.length ≤ cap3; rw [HQL.out]; exact hpc, by show cur.length ≤ j; rw [HCL.out]; exact Nat.le_refl _⟩, ⟨HNU.out, by show qs.length ≤ 12; rw [HQL.out]; exact hl, by show cur.length = qs.length; rw [HCL.out, HQL.out], hqs, by show (ptris qs).Nodup; rw [core_tris hcore]; exact HND.out, ?e2, rgood_perm HP.out HRw.out.1 HCL.out HCU.out HRG.out⟩, ?fr⟩, fun _ _ _ => rfl⟩
         case fr =>
          refine ⟨fun ad e => ?_, fun ad e => ?_, fun q hq => ⟨fun ad e => ?_, fun ad e => ?_⟩⟩
          ·simp only at e; subst e
           rcases HOW.out.2 with ⟨hv, _⟩ | ⟨g', c', cu, hv, hb', _⟩
           ·cases hv
           ·injection hv with hv _ _; injection hv with hv; subst hv; show w.heap.size ≤ g'; omega
          ·simp only at e; injection e with e; subst e; show w.heap.size ≤ gR; omega
          ·have h1 := ((HQO.out q hq).2.1 ad e).1
           have : ¬ ad.block < V5.heap.size := fun h => h1 (.inr h)
           omega
          ·have h1 := ((HQO.out q hq).2.2 ad e).1
           have : ¬ ad.block < V5.heap.size := fun h => h1 (.inr h)
           omega
         case gr =>
          refine Ks.gr (S := fun b => b = w.heap.size) hwf (Ks.gr (S := fun b => b = gR) HK3.out HGW.out (fun q hq => by show ¬ q = gR; omega)) (fun q hq => by show ¬ q = w.heap.size; omega)
         case e1 =>
          simp only [AT.vs]
          rw [HQL.out, HCL.out]
         case e2 =>
          intro i' hi'
          show ((cur.getD i' []).getD 2 0 = _ ∧ (cur.getD i' []).getD 3 0 = _)
          have hi2 : i' < j := by have := HQL.out; simp only at hi'; omega
          obtain ⟨j', hjj, ej⟩ := perm_onto HP.out hi2
          have h1 := HCU.out j' hjj
          rw [ej, Int.toNat_natCast] at h1
          have h2 := HRS.out j' hjj
          have hip : i' < ps.length := by have := HN.out; omega
          have hzl := perm_len HP.out
          have h3 := szs_at (pad := pad) (by omega) ej hip
          rw [h3] at h2
          simp only [List.getD_cons_zero, List.getD_cons_succ] at h2
          have h4 := core_at hcore hi' hip
          simp only [core, Prod.mk.injEq] at h4
          rw [h1, h2.1, h2.2]
          exact ⟨by rw [h4.2.2.1], by rw [h4.2.2.2]⟩
    ·have e1 : (er == 0) = false := by simpa using her
     have e2 : decide (er = 0) = false := by simpa using her
     have e3 : (er != 0) = true := by simpa using her
     have HER := Lib.hid her
     clear her
     have z3 := HZ3.out.blk
     have p0 := z3.cell 0 rfl; have p1 := z3.cell 1 rfl; have p2 := z3.cell 2 rfl; have p3 := z3.cell 3 rfl; have p4 := z3.cell 4 rfl; have y0 := z3.free 0 rfl; have y1 := z3.free 1 rfl; have y2 := z3.free 2 rfl; have y3 := z3.free 3 rfl; have y4 := z3.free 4 rfl; have lz := HZ3.out.lt
     clear z3
     go_wp2_with fail
     refine bodyPost_ret (res_agg_tmp (vs := [.int .i64 0, .int .i64 0, .int .i64 0, .slice none 0 0, .slice none 0 0]) rfl ti_atlas rfl (bx_seti (bx_seti (bx_seti (bx_seti (bx_seti HZ3.out 0 _) 1 _) 2 _) 3 _) 4 _) rfl) rfl (BuildP.no er rfl HER.out ?_ ?no1)
     ·exact ((((HG3.out.setCell (by show w.heap.size ≤ w.heap.size; omega) _).setCell (by show w.heap.size ≤ w.heap.size; omega) _).setCell (by show w.heap.size ≤ w.heap.size; omega) _).setCell (by show w.heap.size ≤ w.heap.size; omega) _).setCell (by show w.heap.size ≤ w.heap.size; omega) _
     case no1 =>
      intro h1 _ h3
      have hn1 := HN.out
      have hzl := perm_len HP.out
      obtain ⟨x, ex, hx⟩ := perm_nat HP.out (show 0 < k by omega)
      have hxp : x < ps.length := by omega
      have h4 := szs_at (pad := pad) (by omega) ex hxp
      have h5 := h3 _ (List.getElem_mem hxp)
      refine HER.out (HONE.out (by omega) ?_ ?_)
      ·rw [h4]; exact h5.1
      ·rw [h4]; exact h5.2
end Mt
end Go.Proofs.YtlfoglklibhbnaaGreat
namespace Go.Proofs.YtlfoglklibhbnaaGreat
open Go.RowKit
namespace Mt
attribute [local go_sem ↓] Go.wp_at_zero Go.wp_at_succ
set_option maxHeartbeats 16000000 in
set_option maxRecDepth 100000 in
theorem ais_good (at' : AT) (hg : AGood at') (w : World) (hm : AMem w at') :
  Calls Tryz.prog 27 #[.agg at'.vs.toArray] w fun e w' => e = .returned (.bool true) ∧ Gr w w' := by
 obtain ⟨W, H, pad, pa, pc, ps, ra, rc, rs⟩ := at'
 obtain ⟨g1, g2, g3, g4, g5, g6, g7⟩ := hg
 obtain ⟨m1, m2, m3, m4⟩ := hm
 simp only at g1 g2 g3 g4 g5 g6 g7 m1 m2 m3 m4
 show Calls _ _ #[.agg #[.int .i64 W, .int .i64 H, .int .i64 pad, .slice pa ps.length pc, .slice ra rs.length rc]] _ _
 have hpad : 1 ≤ pad ∧ pad ≤ 8 ∧ 1 ≤ W ∧ W ≤ 256 ∧ 1 ≤ H ∧ H ≤ 256 := by
  unfold numB at g1
  simp only [Bool.and_eq_true, decide_eq_true_eq] at g1
  omega
 have HRI := Lib.hid (fun w1 (g : Gr w w1) => rowright_any pa pc ps w1 (m1.later g) g4 g5 g2)
 have HNU := Lib.hid g1; have HGD := Lib.hid g4; have HSZ := Lib.hid g6; have HRG := Lib.hid g7; have HPS := Lib.hid m1; have HRS := Lib.hid m2
 clear g1 g4 g5 g6 g7 m1 m2
 obtain ⟨n, hn⟩ : ∃ n, ps.length = n := ⟨_, rfl⟩
 have hn2 : rs.length = n := by omega
 have HN := Lib.hid hn
 rw [hn2] at m4 HRS ⊢
 rw [hn] at g2 m3 HRI ⊢
 clear g3 hn hn2
 obtain ⟨V, hV⟩ : ∃ V, w.alloc (.cells #[.int .i64 W, .int .i64 H, .int .i64 pad, .slice pa n pc, .slice ra n rc] 32) = V := ⟨_, rfl⟩
 obtain ⟨s, hs⟩ : ∃ s, w.heap.size = s := ⟨_, rfl⟩
 have hX : Bx V s 32 [.int .i64 W, .int .i64 H, .int .i64 pad, .slice pa n pc, .slice ra n rc] := by rw [← hV]; exact Bx.new (vs := [.int .i64 W, .int .i64 H, .int .i64 pad, .slice pa n pc, .slice ra n rc]) hs.symm
 have hG : Gr w V := by rw [← hV]; exact (Gr.refl w).alloc _
 have x0 := hX.blk.cell 0 rfl; have x1 := hX.blk.cell 1 rfl; have x2 := hX.blk.cell 2 rfl; have x3 := hX.blk.cell 3 rfl; have x4 := hX.blk.cell 4 rfl; have lX := hX.lt
 have HX := Lib.hid hX; have HG := Lib.hid hG
 clear hX hG
 go_enter Tryz.func27, Tryz.ntmps27
 go_wp2_with fail
 clear hV hs
 refine (numbers_any W H pad _).mono ?_
 rintro e w1 ⟨rfl, rfl⟩
 rw [HNU.out]
 go_wp2_with fail
 refine (HRI.out V HG.out).mono ?_
 rintro e w2 ⟨rfl, hg2⟩
 have HX2 := Lib.hid (HX.out.gr hg2); have HG2 := Lib.hid (HG.out.trans hg2)
 clear x0 x1 x2 x3 x4 lX HX HG hg2 HRI
 have x3 := HX2.out.blk.cell 3 rfl; have lX := HX2.out.lt
 go_wp2_with fail
 clear x3 lX
 go_loopw [32] (fun v32 wr => ∃ i : Nat, i ≤ n ∧ v32 = .int .i64 i ∧ Gr w2 wr) (fun v32 _ => n - (intOf v32).toNat)
 case atStart => exact ⟨0, Nat.zero_le _, rfl, Gr.refl _⟩
 case round =>
  obtain ⟨i, hi, rfl, hgr⟩ := hrel
  have HGR := Lib.hid hgr
  clear hgr
  by_cases hlt : i < n
  ·have hip : i < ps.length := by have := HN.out; omega
   obtain ⟨b, off, rfl, lb, _, c0, c1, c2, c3⟩ := prow_op (HPS.out.later (HG2.out.trans HGR.out)) hip
   have hps := good_size (HGD.out _ (List.getElem_mem hip))
   have hsz := HSZ.out i hip
   obtain ⟨rb, roff, r0, r1, r2, r3, rfl, lrb, ez, _, e0, e1, e2, e3⟩ := rows4_op (HRS.out.later (HG2.out.trans HGR.out)) hlt
   rw [ez] at hsz
   simp only [List.getD_cons_zero, List.getD_cons_succ] at hsz
   clear ez
   generalize ps[i] = p at *
   obtain ⟨ta, tc, tris, ua, uc, uv, PW, PH⟩ := p
   simp only at c0 c1 c2 c3 hps hsz
   obtain ⟨rfl, rfl⟩ := hsz
   have hi0 : (0 : Int) ≤ (i : Int) := by omega
   have HX3 := Lib.hid (HX2.out.gr HGR.out)
   have y2 := HX3.out.blk.cell 2 rfl; have y4 := HX3.out.blk.cell 4 rfl; have ly := HX3.out.lt
   obtain ⟨U1, hU1⟩ : ∃ U1, wr.alloc (.cells #[.slice ta tris.length tc, .slice ua uv.length uc, .int .i64 PW, .int .i64 PH] 70) = U1 := ⟨_, rfl⟩
   obtain ⟨s1, hs1⟩ : ∃ s1, wr.heap.size = s1 := ⟨_, rfl⟩
   have hP1 : Bx U1 s1 70 [.slice ta tris.length tc, .slice ua uv.length uc, .int .i64 PW, .int .i64 PH] := by rw [← hU1]; exact Bx.new (vs := [.slice ta tris.length tc, .slice ua uv.length uc, .int .i64 PW, .int .i64 PH]) hs1.symm
   have hG1 : Gr wr U1 := by rw [← hU1]; exact (Gr.refl _).alloc _
   obtain ⟨U2, hU2⟩ : ∃ U2, U1.alloc (.cells #[.int .i64 r0, .int .i64 r1, .int .i64 (PW + 2 * pad), .int .i64 (PH + 2 * pad)] 92) = U2 := ⟨_, rfl⟩
   obtain ⟨s2, hs2⟩ : ∃ s2, U1.heap.size = s2 := ⟨_, rfl⟩
   have hR2 : Bx U2 s2 92 [.int .i64 r0, .int .i64 r1, .int .i64 (PW + 2 * pad), .int .i64 (PH + 2 * pad)] := by rw [← hU2]; exact Bx.new (vs := [.int .i64 r0, .int .i64 r1, .int .i64 (PW + 2 * pad), .int .i64 (PH + 2 * pad)]) hs2.symm
   have hG2 : Gr wr U2 := by rw [← hU2]; exact hG1.alloc _
   have hP2 : Bx U2 s1 70 [.slice ta tris.length tc, .slice ua uv.length uc, .int .i64 PW, .int .i64 PH] := by rw [← hU2]; exact hP1.alloc _
   have d0 := e0; have d1 := e1; have d2 := e2; have d3 := e3
   have q0 : U1.cell? ⟨rb, roff + i * 4, none⟩ = some (.int .i64 r0) := (hG1.cell lrb).trans e0
   have q1 : U1.cell? ⟨rb, roff + i * 4 + 1, none⟩ = some (.int .i64 r1) := (hG1.cell lrb).trans e1
   have q2 : U1.cell? ⟨rb, roff + i * 4 + 2, none⟩ = some (.int .i64 (PW + 2 * pad)) := (hG1.cell lrb).trans e2
   have q3 : U1.cell? ⟨rb, roff + i * 4 + 3, none⟩ = some (.int .i64 (PH + 2 * pad)) := (hG1.cell lrb).trans e3
   have hX1 := HX3.out.gr hG1
   have z4 := hX1.blk.cell 4 rfl; have lz := hX1.lt
   have lq : rb < U1.heap.size := by have := hG1.size; omega
   have HP2 := Lib.hid hP2; have HR2 := Lib.hid hR2; have HGU := Lib.hid hG2; have HXU := Lib.hid (HX3.out.gr hG2)
   clear hP1 hG1 hR2 hG2 hP2 d0 d1 d2 d3 hX1
   go_wp2_with fail
   clear hU1 hU2 hs1 hs2 c0 c1 c2 c3 q0 q1 q2 q3 e0 e1 e2 e3 y2 y4 ly z4 lz lq
   refine wp_region_held_drew (S := fun w' => w'.cell? ⟨s2, 2, none⟩ = some (.int .i64 (PW + 2 * pad)) ∧ w'.cell? ⟨s2, 3, none⟩ = some (.int .i64 (PH + 2 * pad)) ∧ w'.cell? ⟨s1, 0, none⟩ = some (.slice ta tris.length tc) ∧ w'.cell? ⟨s1, 1, none⟩ = some (.slice ua uv.length uc) ∧ w'.cell? ⟨s1, 2, none⟩ = some (.int .i64 PW) ∧ w'.cell? ⟨s1, 3, none⟩ = some (.int .i64 PH) ∧ w'.cell? ⟨s, 2, none⟩ = some (.int .i64 pad)) (by kernel_rfl) ?_ (fun hH => ?_)
   ·exact ⟨HR2.out.blk.cell 2 rfl, HR2.out.blk.cell 3 rfl, HP2.out.blk.cell 0 rfl, HP2.out.blk.cell 1 rfl, HP2.out.blk.cell 2 rfl, HP2.out.blk.cell 3 rfl, HXU.out.blk.cell 2 rfl⟩
   refine' wpAnyH_take (i := 0) (v := _) rfl (by kernel_rfl) (by kernel_rfl) (by kernel_rfl) (fun _ _ _ h => h) (Or.inl ⟨by rfl, ?thy1_0⟩) (by assumption) ?_
   case thy1_0 => (intro w hSw; (try dsimp only at hSw); go_simp; try with_reducible rfl)
   try simp only [Act.put, List.setIfInBounds_toArray, List.set_cons_zero, List.set_cons_succ, List.getElem_toArray, List.getElem_cons_zero]
   refine' wpAnyH_take (i := 1) (v := _) rfl (by kernel_rfl) (by kernel_rfl) (by kernel_rfl) (fun _ _ _ h => h) (Or.inl ⟨by rfl, ?thy1_1⟩) (by assumption) ?_
   case thy1_1 => (intro w hSw; (try dsimp only at hSw); go_simp; try with_reducible rfl)
   try simp only [Act.put, List.setIfInBounds_toArray, List.set_cons_zero, List.set_cons_succ, List.getElem_toArray, List.getElem_cons_succ, List.getElem_cons_zero]
   refine' wpAnyH_take (i := 2) (v := _) rfl (by kernel_rfl) (by kernel_rfl) (by kernel_rfl) (fun _ _ _ h => h) (Or.inl ⟨by rfl, ?thy1_2⟩) (by assumption) ?_
   case thy1_2 => (intro w hSw; (try dsimp only at hSw); go_simp; try with_reducible rfl)
   try simp only [Act.put, List.setIfInBounds_toArray, List.set_cons_zero, List.set_cons_succ, List.getElem_toArray, List.getElem_cons_succ, List.getElem_cons_zero]
   refine' wpAnyH_take (i := 3) (v := _) rfl (by kernel_rfl) (by kernel_rfl) (by kernel_rfl) (fun _ _ _ h => h) (Or.inl ⟨by rfl, ?thy1_3⟩) (by assumption) ?_
   case thy1_3 => (intro w hSw; (try dsimp only at hSw); go_simp; try with_reducible rfl)
   try simp only [Act.put, List.setIfInBounds_toArray, List.set_cons_zero, List.set_cons_succ, List.getElem_toArray, List.getElem_cons_succ, List.getElem_cons_zero]
   refine' wpAnyH_take (i := 4) (v := _) rfl (by kernel_rfl) (by kernel_rfl) (by kernel_rfl) (fun _ _ _ h => h) (Or.inl ⟨by rfl, ?thy1_4⟩) (by assumption) ?_
   case thy1_4 => (intro w hSw; (try dsimp only at hSw); go_simp; try with_reducible rfl)
   try simp only [Act.put, List.setIfInBounds_toArray, List.set_cons_zero, List.set_cons_succ, List.getElem_toArray, List.getElem_cons_succ, List.getElem_cons_zero]
   refine' wpAnyH_take (i := 5) (v := _) rfl (by kernel_rfl) (by kernel_rfl) (by kernel_rfl) (fun _ _ _ h => h) (Or.inl ⟨by rfl, ?thy1_5⟩) (by assumption) ?_
   case thy1_5 => (intro w hSw; (try dsimp only at hSw); go_simp; try with_reducible rfl)
   try simp only [Act.put, List.setIfInBounds_toArray, List.set_cons_zero, List.set_cons_succ, List.getElem_toArray, List.getElem_cons_succ, List.getElem_cons_zero]
   refine' wpAnyH_take (i := 6) (v := _) rfl (by kernel_rfl) (by kernel_rfl) (by kernel_rfl) (fun _ _ _ h => h) (Or.inl ⟨by rfl, ?thy1_6⟩) (by assumption) ?_
   case thy1_6 => (intro w hSw; (try dsimp only at hSw); go_simp; try with_reducible rfl)
   try simp only [Act.put, List.setIfInBounds_toArray, List.set_cons_zero, List.set_cons_succ, List.getElem_toArray, List.getElem_cons_succ, List.getElem_cons_zero]
   refine' wpAnyH_take (i := 7) (v := _) rfl (by kernel_rfl) (by kernel_rfl) (by kernel_rfl) (fun _ _ _ h => h) (Or.inl ⟨by rfl, ?thy1_7⟩) (by assumption) ?_
   case thy1_7 => (intro w hSw; (try dsimp only at hSw); go_simp; try with_reducible rfl)
   try simp only [Act.put, List.setIfInBounds_toArray, List.set_cons_zero, List.set_cons_succ, List.getElem_toArray, List.getElem_cons_succ, List.getElem_cons_zero]
   refine' wpAnyH_take (i := 8) (v := _) rfl (by kernel_rfl) (by kernel_rfl) (by kernel_rfl) (fun _ _ _ h => h) (Or.inl ⟨by rfl, ?thy1_8⟩) (by assumption) ?_
   case thy1_8 => (intro w hSw; (try dsimp only at hSw); go_simp; try with_reducible rfl)
   try simp only [Act.put, List.setIfInBounds_toArray, List.set_cons_zero, List.set_cons_succ, List.getElem_toArray, List.getElem_cons_succ, List.getElem_cons_zero]
   refine wpAnyH_ready (rs := [9]) (by kernel_rfl) (by simp) ?_
   refine AllReadyH.cons rfl (fun K hK => ?_) AllReadyH.nil
   go_simp
   go_at_call 47
   refine (fsize_any ⟨ta, tc, tris, ua, uc, uv, PW, PH⟩ pad (by show 0 ≤ PW ∧ PW ≤ 1000; omega) (by show 0 ≤ PH ∧ PH ≤ 1000; omega) (by omega) _).mono ?_
   rintro e wq ⟨rfl, hg⟩
   have HGQ := Lib.hid (show Gr U2 wq from ⟨hg.os, hg.tape, hg.output, hg.size, fun k hk => hg.block k hk⟩)
   have Q := Lib.hid ((bx_drew HR2.out).gr hg); clear HR2; have HR2 := Lib.hid Q.out; clear Q
   have Q := Lib.hid ((bx_drew HP2.out).gr hg); clear HP2; have HP2 := Lib.hid Q.out; clear Q
   have Q := Lib.hid ((bx_drew HXU.out).gr hg); clear HXU; have HXU := Lib.hid Q.out; clear Q
   have hcc : wq.cell? ⟨s2, 2, none⟩ = some (.int .i64 (PW + 2 * pad)) ∧ wq.cell? ⟨s2, 3, none⟩ = some (.int .i64 (PH + 2 * pad)) ∧ wq.cell? ⟨s1, 0, none⟩ = some (.slice ta tris.length tc) ∧ wq.cell? ⟨s1, 1, none⟩ = some (.slice ua uv.length uc) ∧ wq.cell? ⟨s1, 2, none⟩ = some (.int .i64 PW) ∧ wq.cell? ⟨s1, 3, none⟩ = some (.int .i64 PH) ∧ wq.cell? ⟨s, 2, none⟩ = some (.int .i64 pad) := ⟨HR2.out.blk.cell 2 rfl, HR2.out.blk.cell 3 rfl, HP2.out.blk.cell 0 rfl, HP2.out.blk.cell 1 rfl, HP2.out.blk.cell 2 rfl, HP2.out.blk.cell 3 rfl, HXU.out.blk.cell 2 rfl⟩
   clear hg
   go_wp2_with fail
   refine hK.out _ _ ?_ (fun hN => ?_)
   ·exact hcc
   clear hK K hH hcc
   have hH := hN; clear hN
   try simp only [Act.put, List.setIfInBounds_toArray, List.set_cons_zero, List.set_cons_succ, List.getElem_toArray, List.getElem_cons_succ, List.getElem_cons_zero]
   refine' wpAnyH_take (i := 10) (v := _) rfl (by kernel_rfl) (by kernel_rfl) (by kernel_rfl) (fun _ _ _ h => h) (Or.inl ⟨by rfl, ?thy1_9⟩) (by assumption) ?_
   case thy1_9 => (intro w hSw; (try dsimp only at hSw); go_simp; try with_reducible rfl)
   try simp only [Act.put, List.setIfInBounds_toArray, List.set_cons_zero, List.set_cons_succ, List.getElem_toArray, List.getElem_cons_succ, List.getElem_cons_zero]
   refine wpAnyH_done (by kernel_rfl) ?_ _
   go_wp2_with fail
   go_roundw
   case rel => exact ⟨i + 1, by omega, by go_num, HGR.out.trans (HGU.out.trans HGQ.out)⟩
   case measure => simp [intOf]; omega
  ·have hin : i = n := by omega
   subst hin
   have HX3 := Lib.hid (HX2.out.gr HGR.out)
   have y0 := HX3.out.blk.cell 0 rfl; have y1 := HX3.out.blk.cell 1 rfl; have y4 := HX3.out.blk.cell 4 rfl; have ly := HX3.out.lt
   have HIS := Lib.hid (ris_good W H (by omega) (by omega) ra i rc rs wr (HRS.out.later (HG2.out.trans HGR.out)) m4 (by omega) HRG.out)
   go_wp2_with fail
   refine HIS.out.mono ?_
   rintro e w3 ⟨rfl, hg3⟩
   have HG3 := Lib.hid (HG2.out.trans (HGR.out.trans hg3))
   clear hg3 HIS
   go_wp2_with fail
   go_ret
   exact ⟨rfl, HG3.out⟩
end Mt
end Go.Proofs.YtlfoglklibhbnaaGreat
