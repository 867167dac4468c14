/- Parts of the proof of TopPoint. No condition of their own. -/
import Derived.Test.YtlfoglklibhbnaaGreatTpD
import Derived.Test.YtlfoglklibhbnaaGreatTpA
import Derived.Laws.Cells
import Derived.Laws.CopyRow
import Derived.Laws.Entries
set_option linter.unusedVariables false
set_option linter.unusedSimpArgs false
namespace Go.Proofs.YtlfoglklibhbnaaGreat.Sx
open Go.RowKit
structure HRel (σ : Env) (ρ : Nat → Option Nat) (H : Hp) (w0 w : World) : Prop where
 blk : ∀ n B, H[n]? = some (some B) → ∃ b vs, ρ n = some b ∧ w.heap[b]? = some (.cells vs B.elem (0, 0)) ∧ relL σ ρ B.cells vs.toList ∧ (B.own = true → w0.heap.size ≤ b)
 inj : ∀ n m b, ρ n = some b → ρ m = some b → n = m
 lt : ∀ n b, ρ n = some b → b < w.heap.size
theorem HRel.gr {σ : Env} {ρ : Nat → Option Nat} {H : Hp} {w0 w w' : World} (h : HRel σ ρ H w0 w) (g : Gr w w') : HRel σ ρ H w0 w' := by
 refine ⟨fun n B hn => ?_, h.inj, fun n b hb => Nat.lt_of_lt_of_le (h.lt n b hb) g.size⟩
 obtain ⟨b, vs, h1, h2, h3, h4⟩ := h.blk n B hn
 exact ⟨b, vs, h1, by rw [Below.block g b (h.lt n b h1)]; exact h2, h3, h4⟩
theorem HRel.less {σ : Env} {ρ : Nat → Option Nat} {H H' : Hp} {w0 w : World} (h : HRel σ ρ H w0 w) (hs : ∀ (n : Nat) (B : Bk), H'[n]? = some (some B) → H[n]? = some (some B)) : HRel σ ρ H' w0 w :=
 ⟨fun n B hn => h.blk n B (hs n B hn), h.inj, h.lt⟩
def upd (ρ : Nat → Option Nat) (n b : Nat) : Nat → Option Nat := fun m => if m = n then some b else ρ m
theorem sub_upd {ρ : Nat → Option Nat} {n b : Nat} (h : ρ n = none) : sub ρ (upd ρ n b) := by
 intro m c hm
 unfold upd
 split
 ·rename_i e; subst e; rw [h] at hm; cases hm
 ·exact hm
theorem upd_self {ρ : Nat → Option Nat} {n b : Nat} : upd ρ n b n = some b := by simp [upd]
theorem HRel.new {σ : Env} {ρ : Nat → Option Nat} {H : Hp} {w0 w w' : World} {nm bb : Nat} {B : Bk} {vs : Array Value} (h : HRel σ ρ H w0 w)
  (hn : ρ nm = none) (hl : nm < H.length) (g : Gr w w') (h0 : w0.heap.size ≤ w.heap.size) (hb : w.heap.size ≤ bb) (hb' : bb < w'.heap.size) (hc : w'.heap[bb]? = some (.cells vs B.elem (0, 0))) (hr : relL σ ρ B.cells vs.toList) :
  HRel σ (upd ρ nm bb) (H.set nm (some B)) w0 w' := by
 have hg := h.gr g
 have hs := sub_upd (b := bb) hn
 refine ⟨fun n C hC => ?_, fun n m b h1 h2 => ?_, fun n b h1 => ?_⟩
 ·by_cases e : nm = n
  ·subst e
   rw [List.getElem?_set_self hl] at hC
   simp only [Option.some.injEq] at hC; subst hC
   exact ⟨bb, vs, upd_self, hc, relL_mono hs _ _ hr, fun _ => Nat.le_trans h0 hb⟩
  ·rw [List.getElem?_set_ne e] at hC
   obtain ⟨b, us, h1, h2, h3, h4⟩ := hg.blk n C hC
   exact ⟨b, us, hs _ _ h1, h2, relL_mono hs _ _ h3, h4⟩
 ·unfold upd at h1 h2
  split at h1 <;> split at h2
  ·omega
  ·simp only [Option.some.injEq] at h1; subst h1
   have := h.lt _ _ h2; omega
  ·simp only [Option.some.injEq] at h2; subst h2
   have := h.lt _ _ h1; omega
  ·exact h.inj _ _ _ h1 h2
 ·unfold upd at h1
  split at h1
  ·simp only [Option.some.injEq] at h1; omega
  ·have := hg.lt _ _ h1; exact this
structure StoreTo (w : World) (bb off : Nat) (us : List Value) (w' : World) : Prop where
 it : ∀ vs T, w.heap[bb]? = some (.cells vs T (0, 0)) → w'.heap[bb]? = some (.cells (vs.toList.take off ++ us ++ vs.toList.drop (off + us.length)).toArray T (0, 0))
 other : ∀ k, k ≠ bb → w'.heap[k]? = w.heap[k]?
 size : w'.heap.size = w.heap.size
 os : w'.os = w.os
 tape : w'.tape = w.tape
 output : w'.output = w.output
theorem HRel.st {σ : Env} {ρ : Nat → Option Nat} {H : Hp} {w0 w w' : World} {n off bb : Nat} {cs : List AV} {us : List Value} {B : Bk} (h : HRel σ ρ H w0 w)
  (hB : H[n]? = some (some B)) (hb : ρ n = some bb) (hr : relL σ ρ cs us) (hs : StoreTo w bb off us w') : HRel σ ρ (putH H n off cs) w0 w' := by
 have hn : n < H.length := by
  apply Classical.byContradiction; intro hn
  rw [List.getElem?_eq_none (by omega)] at hB; cases hB
 unfold putH
 rw [hB]
 refine ⟨fun m C hC => ?_, h.inj, fun m b h1 => by rw [hs.size]; exact h.lt m b h1⟩
 by_cases e : n = m
 ·subst e
  rw [List.getElem?_set_self hn] at hC
  simp only [Option.some.injEq] at hC; subst hC
  obtain ⟨b, vs, h1, h2, h3, h4⟩ := h.blk n B hB
  rw [hb] at h1; simp only [Option.some.injEq] at h1; subst h1
  refine ⟨bb, _, hb, hs.it _ _ h2, ?_, h4⟩
  rw [relL_length hr]
  exact relL_append (relL_append (relL_take _ h3) hr) (relL_drop _ h3)
 ·rw [List.getElem?_set_ne e] at hC
  obtain ⟨b, vs, h1, h2, h3, h4⟩ := h.blk m C hC
  refine ⟨b, vs, h1, ?_, h3, h4⟩
  rw [hs.other b (fun eb => e (h.inj _ _ _ hb (by rw [← eb]; exact h1)))]; exact h2
theorem StoreTo.below {w w' : World} {bb off B : Nat} {us : List Value} (h : StoreTo w bb off us w') (hB : B ≤ bb) : Below B w w' :=
 ⟨h.os, h.tape, h.output, by rw [h.size]; exact Nat.le_refl _, fun k hk => h.other k (by omega)⟩
theorem gr_alloc (w : World) (o : Obj) : Gr w (w.alloc o) := (Gr.refl w).alloc o
section
variable {P : Program} {t : TypeId} {ti : TI} {w : World}
theorem TyOk.und (h : TyOk P t ti) : (underlying t).run P w = .ok ti.desc w := run_underlying h.1 w
theorem TyOk.info (h : TyOk P t ti) : ∃ i, P.info? t = some i ∧ i.size = ti.size ∧ i.zero = some ti.zeroV := by
 have := h.2
 cases hi : P.info? t with
 | none => rw [hi] at this; cases this
 | some i => rw [hi] at this; simp at this; exact ⟨i, rfl, this.1, this.2⟩
theorem TyOk.size (h : TyOk P t ti) : (Go.sizeOf t).run P w = .ok ti.size w := by
 obtain ⟨i, h1, h2, h3⟩ := h.info
 simp [Go.sizeOf, typeInfo, program, Sem.run, h1, h2]
theorem TyOk.zero' (h : TyOk P t ti) : (zeroValue t).run P w = .ok ti.zeroV w := by
 obtain ⟨i, h1, h2, h3⟩ := h.info
 simp [zeroValue, typeInfo, program, Sem.run, h1, h3]
theorem TyOk.isAgg' (h : TyOk P t ti) : (isAgg t).run P w = .ok ti.agg w := by
 unfold isAgg TI.agg
 rw [Sem.run_bind, h.und]
 simp only [Result.andThen_ok]
 cases ti.desc <;> rfl
end
theorem find_mem {α : Type} {n : Nat} {a : α} : ∀ {l : List (Nat × α)}, find n l = some a → (n, a) ∈ l
 | [], h => by simp [find] at h
 | (m, b) :: rest, h => by
  unfold find at h
  cases hb : Nat.beq n m
  ·simp only [hb, cond_false] at h; exact List.mem_cons_of_mem _ (find_mem h)
  ·simp only [hb, cond_true, Option.some.injEq] at h
   have := Nat.eq_of_beq_eq_true hb; subst this; subst h; simp
section
variable {σ : Env} {ρ : Nat → Option Nat}
theorem rel_ofConst1 {v : Value} {x : AV} (h : ofConst1 v = some x) : rel σ ρ x v := by
 unfold ofConst1 at h
 split at h <;> simp only [Option.some.injEq, reduceCtorEq] at h <;> subst h <;> rfl
theorem relL_ofConsts : ∀ {l : List Value} {m : List AV}, ofConsts l = some m → relL σ ρ m l
 | [], m, h => by simp [ofConsts] at h; subst h; rfl
 | v :: l, m, h => by
  unfold ofConsts at h
  split at h
  ·rename_i a m' ha hm
   simp only [Option.some.injEq] at h; subst h
   exact ⟨v, l, rfl, rel_ofConst1 ha, relL_ofConsts hm⟩
  ·cases h
theorem rel_ofConst {v : Value} {x : AV} (h : ofConst v = some x) : rel σ ρ x v := by
 unfold ofConst at h
 split at h
 ·simp only [Option.map_eq_some_iff] at h
  obtain ⟨m, h1, rfl⟩ := h
  exact ⟨_, rfl, relL_ofConsts h1⟩
 ·exact rel_ofConst1 h
theorem rel_ev {tm : List AV} {a : Act} {x : Operand} {v : AV} (ht : relL σ ρ tm a.tmps.toList) (h : ev tm x = some v) : rel σ ρ v (a.eval x) := by
 cases x with
 | tmp t =>
  obtain ⟨u, h1, h2⟩ := relL_get ht t v h
  have e : a.eval (.tmp t) = u := by
   simp only [Act.eval, Array.getD_eq_getD_getElem?]
   rw [← Array.getElem?_toList, h1]; rfl
  rw [e]; exact h2
 | const c => exact rel_ofConst h
 | global g => cases h
 | func f => simp only [ev, Option.some.injEq] at h; subst h; exact ⟨#[], #[], rfl, rfl, rfl⟩
def EvOk (σ : Env) (ρ : Nat → Option Nat) (tm : List AV) (a : Act) (xs : List Operand) : Prop := ∀ x ∈ xs, ∀ v, ev tm x = some v → rel σ ρ v (a.eval x)
theorem relL_evs {tm : List AV} {a : Act} : ∀ {xs : List Operand} {vs : List AV}, EvOk σ ρ tm a xs → evs tm xs = some vs → relL σ ρ vs (xs.map a.eval)
 | [], vs, _, h => by simp [evs] at h; subst h; rfl
 | x :: l, vs, he, h => by
  unfold evs at h
  split at h
  ·rename_i b m hb hm
   simp only [Option.some.injEq] at h; subst h
   exact ⟨_, _, rfl, he x (by simp) b hb, relL_evs (fun y hy => he y (by simp [hy])) hm⟩
  ·cases h
end
theorem one_of_rel {σ : Env} {ρ : Nat → Option Nat} {v : AV} {u : Value} (h : rel σ ρ v u) (ho : v.one = true) : u.oneCell' = true := by
 unfold rel at h
 split at h
 ·subst h; rfl
 ·subst h; rfl
 ·subst h; rfl
 ·obtain ⟨b, _, rfl⟩ := h; rfl
 ·subst h; rfl
 ·obtain ⟨b, _, rfl⟩ := h; rfl
 ·obtain ⟨fs, cs, rfl, _⟩ := h; rfl
 ·subst h; rfl
 ·cases ho
 ·cases ho
 ·obtain ⟨h1, h2⟩ := h
  cases u <;> first | rfl | cases h2
 ·cases ho
theorem relL_cells {σ : Env} {ρ : Nat → Option Nat} {v : AV} {u : Value} (h : rel σ ρ v u) (ho : oneAll v.cells = true) : relL σ ρ v.cells u.cells.toList := by
 by_cases ha : ∃ l, v = .agg l
 ·obtain ⟨l, rfl⟩ := ha
  obtain ⟨vs, rfl, h2⟩ := h; exact h2
 ·have e : v.cells = [v] := by cases v <;> first | rfl | (exact absurd ⟨_, rfl⟩ ha)
  rw [e] at ho ⊢
  simp only [oneAll, Bool.and_true] at ho
  have h1 := one_of_rel h ho
  have e2 : u.cells = #[u] := by cases u <;> first | rfl | cases h1
  rw [e2]; exact ⟨u, [], rfl, h, rfl⟩
theorem ones_of_rel {σ : Env} {ρ : Nat → Option Nat} : ∀ {cs : List AV} {us : List Value}, relL σ ρ cs us → oneAll cs = true → ∀ v ∈ us, v.oneCell' = true
 | [], us, h, _ => by have : us = [] := h; subst this; simp
 | x :: cs, us, h, ho => by
  obtain ⟨v, vs', rfl, h2, h3⟩ := h
  simp only [oneAll, Bool.and_eq_true] at ho
  exact List.forall_mem_cons.2 ⟨one_of_rel h2 ho.1, ones_of_rel h3 ho.2⟩
def EffK (σ : Env) (ρ : Nat → Option Nat) (w0 : World) (nm : Nat) (H : Hp) (dst : Option Tmp) (a : Act) (w : World) (K : Act → World → Prop) : Eff → Prop
 | .val v => ∀ u w', rel σ ρ v u → Gr w w' → K (a.put dst u) w'
 | .new v B => ∀ u w' bb vs, w.heap.size ≤ bb → bb < w'.heap.size → w'.heap[bb]? = some (.cells vs B.elem (0, 0)) → relL σ ρ B.cells vs.toList → rel σ (upd ρ nm bb) v u → Gr w w' → K (a.put dst u) w'
 | .st n off cs => ∀ w' bb us B, H[n]? = some (some B) → B.own = true → ρ n = some bb → w0.heap.size ≤ bb → relL σ ρ cs us → StoreTo w bb off us w' → K (a.put dst undef) w'
 | .out v H' => ∀ u w' ρ', sub ρ ρ' → (∀ n, H'.length ≤ n → ρ' n = none) → HRel σ ρ' H' w0 w' → rel σ ρ' v u → Below w0.heap.size w w' → K (a.put dst u) w'
structure CallOk (P : Program) (σ : Env) (W : World) (callf : Bool → Nat → Pc → List AV → Hp → Tree (AV × Hp)) : Prop where
 alone : ∀ f pc vs h r us ρ w0 w, pcOk σ pc → (callf false f pc vs h).sel σ = some r → Gr W w → W.heap.size ≤ w0.heap.size → w0.heap.size ≤ w.heap.size → relL σ ρ vs us → HRel σ ρ h w0 w → (∀ n, h.length ≤ n → ρ n = none) →
  Calls P f us.toArray w fun e w' => ∃ u, e = .returned u ∧ rel σ ρ r.1 u ∧ Gr w w'
 all : ∀ f pc vs h r us ρ w0 w, pcOk σ pc → (callf true f pc vs h).sel σ = some r → Gr W w → W.heap.size ≤ w0.heap.size → w0.heap.size ≤ w.heap.size → relL σ ρ vs us → HRel σ ρ h w0 w → (∀ n, h.length ≤ n → ρ n = none) →
  Calls P f us.toArray w fun e w' => ∃ u ρ', e = .returned u ∧ sub ρ ρ' ∧ (∀ n, r.2.length ≤ n → ρ' n = none) ∧ HRel σ ρ' r.2 w0 w' ∧ rel σ ρ' r.1 u ∧ Below w0.heap.size w w'
def eqI : List Int → List Int → Bool
 | a :: l, b :: m => (a == b) && eqI l m
 | _, _ => true
def EqOk (P : Program) (t : TypeId) (n : Nat) : Prop :=
 ∀ (x y : Operand) (l m : List Int) (w : World), l.length = n → m.length = n →
  (do eqGuard .eql t x y (.agg (l.map (Value.int .i64)).toArray) (.agg (m.map (Value.int .i64)).toArray); binOp .eql t (.agg (l.map (Value.int .i64)).toArray) (.agg (m.map (Value.int .i64)).toArray)).run P w = .ok (.bool (eqI l m)) w ∧
  (do eqGuard .neq t x y (.agg (l.map (Value.int .i64)).toArray) (.agg (m.map (Value.int .i64)).toArray); binOp .neq t (.agg (l.map (Value.int .i64)).toArray) (.agg (m.map (Value.int .i64)).toArray)).run P w = .ok (.bool (!eqI l m)) w
def ConOk (P : Program) (σ : Env) (W : World) (c : Con) : Prop :=
 ∀ vs h r us ρ w0 w, c.res vs h = some r → Gr W w → W.heap.size ≤ w0.heap.size → relL σ ρ vs us → HRel σ ρ h w0 w →
  Calls P c.f us.toArray w fun e w' => ∃ u, e = .returned u ∧ rel σ ρ r u ∧ Gr w w'
structure CxOk (P : Program) (σ : Env) (W : World) (cx : Cx) : Prop where
 ty : ∀ e ∈ cx.ty, TyOk P e.1 e.2
 fn : ∀ e ∈ cx.fn, FnOk P e.1 e.2
 con : ∀ c ∈ cx.con, ConOk P σ W c
 eqs : ∀ e ∈ cx.eqs, EqOk P e.1 e.2
 mixed : P.follows .mixedOrders = true
section
variable {P : Program} {σ : Env} {W : World} {cx : Cx} (hx : CxOk P σ W cx)
include hx
theorem CxOk.tyf {t : TypeId} {ti : TI} (h : find t cx.ty = some ti) : TyOk P t ti := hx.ty _ (find_mem h)
theorem CxOk.fnf {t : TypeId} {fn : Func} (h : find t cx.fn = some fn) : FnOk P t fn := hx.fn _ (find_mem h)
theorem CxOk.eqf {t : TypeId} {n : Nat} (h : find t cx.eqs = some n) : EqOk P t n := hx.eqs _ (find_mem h)
theorem CxOk.size {t : TypeId} {s : Nat} (h : sizeOf cx t = some s) (w : World) : (Go.sizeOf t).run P w = .ok s w := by
 unfold Sx.sizeOf at h
 simp only [Option.map_eq_some_iff] at h
 obtain ⟨ti, h1, rfl⟩ := h
 exact (hx.tyf h1).size
theorem CxOk.desc {t : TypeId} {d : TypeDesc} (h : descOf cx t = some d) (w : World) : (underlying t).run P w = .ok d w := by
 unfold descOf at h
 simp only [Option.map_eq_some_iff] at h
 obtain ⟨ti, h1, rfl⟩ := h
 exact (hx.tyf h1).und
theorem CxOk.zeros {σ' : Env} {ρ : Nat → Option Nat} {t : TypeId} {z : List AV} (h : zeros cx t = some z) (w : World) : ∃ v, (zeroValue t).run P w = .ok v w ∧ relL σ' ρ z v.cells.toList := by
 unfold Sx.zeros at h
 simp only [Option.bind_eq_some_iff] at h
 obtain ⟨ti, h1, h2⟩ := h
 refine ⟨_, (hx.tyf h1).zero', ?_⟩
 unfold TI.zeroV
 cases ha : ti.agg
 ·simp only [ha, Bool.false_or, cond_false] at h2 ⊢
  cases hz : ti.zero with
  | nil => rw [hz] at h2; cases h2
  | cons v l =>
   cases l with
   | nil =>
    rw [hz] at h2
    simp only [List.length_cons, List.length_nil, ofConsts] at h2
    have e : Nat.beq (0 + 1) 1 = true := rfl
    rw [e, cond_true] at h2
    split at h2
    ·rename_i a m ha' hm
     simp only [Option.some.injEq] at hm h2
     subst hm; subst h2
     have r : rel σ' ρ a v := rel_ofConst1 ha'
     have e2 : v.cells = #[v] := by
      cases v <;> first | rfl | (simp [ofConst1] at ha')
     simp only [List.headD_cons, e2]
     exact ⟨v, [], rfl, r, rfl⟩
    ·cases h2
   | cons u l => rw [hz] at h2; cases h2
 ·simp only [ha, Bool.true_or, cond_true] at h2 ⊢
  exact relL_ofConsts h2
end
end Go.Proofs.YtlfoglklibhbnaaGreat.Sx
namespace Go.Proofs.YtlfoglklibhbnaaGreat.Sx
open Go.RowKit
theorem wp_of_run {P : Program} {o : Oper} {a : Act} {w w' : World} {u : Value} {K : Act → World → Prop} {Q : Exit → Act → World → Prop}
  (h : (execOp a.eval o).run P w = .ok (.value u) w') (k : K (a.put o.dst u) w') : o.wp P a w K Q := by
 unfold Oper.wp; rw [h]; exact k
theorem wp_of_skip {P : Program} {o : Oper} {a : Act} {w w' : World} {K : Act → World → Prop} {Q : Exit → Act → World → Prop}
  (h : (execOp a.eval o).run P w = .ok .skip w') (k : K (a.put o.dst undef) w') : o.wp P a w K Q := by
 unfold Oper.wp; rw [h]; exact k
theorem run_v {P : Program} {s : Sem Value} {w w' : World} {u : Value} (h : s.run P w = .ok u w') : (do pure (.value (← s)) : Sem Next).run P w = .ok (.value u) w' := by
 rw [Sem.run_bind, h]; rfl
theorem run_u {P : Program} {s : Sem Unit} {w w' : World} (h : s.run P w = .ok () w') : (do s; pure .skip : Sem Next).run P w = .ok .skip w' := by
 rw [Sem.run_bind, h]; rfl
theorem list_bnd {l : List Value} {off s : Nat} (h : off + s ≤ l.length) : ((l.drop off).take s).length = s := by
 rw [List.length_take, List.length_drop]; omega
section
variable {P : Program} {σ : Env} {W : World} {cx : Cx} {ρ : Nat → Option Nat} {H : Hp} {w0 w : World}
theorem readAt_ok {n off s : Nat} {cs : List AV} (hH : HRel σ ρ H w0 w) (h : readAt H n off s = some cs) :
  ∃ b vs T, ρ n = some b ∧ w.heap[b]? = some (.cells vs T (0, 0)) ∧ off + s ≤ vs.size ∧ relL σ ρ cs ((vs.toList.drop off).take s) := by
 unfold readAt at h
 split at h
 ·rename_i B hB
  cases hb : Nat.ble (off + s) B.cells.length
  ·simp [hb] at h
  ·simp only [hb, cond_true, Option.some.injEq] at h; subst h
   obtain ⟨b, vs, h1, h2, h3, h4⟩ := hH.blk n B hB
   have := relL_length h3
   have := Nat.le_of_ble_eq_true hb
   exact ⟨b, vs, B.elem, h1, h2, by simp at *; omega, relL_take _ (relL_drop _ h3)⟩
 ·cases h
theorem cell_at {b i : Nat} {vs : Array Value} {T : TypeId} {fr : Nat × Nat} (h : w.heap[b]? = some (.cells vs T fr)) : w.cell? ⟨b, i, none⟩ = vs[i]? := by
 simp [World.cell?, h]
theorem run_loadVar_agg {t : TypeId} {ti : TI} (ht : TyOk P t ti) (ha : ti.agg = true) {b off : Nat} {vs : Array Value} {T : TypeId}
  (hb : w.heap[b]? = some (.cells vs T (0, 0))) (hs : off + ti.size ≤ vs.size) : (loadVar t ⟨b, off, none⟩).run P w = .ok (.agg ((vs.toList.drop off).take ti.size).toArray) w := by
 unfold loadVar
 have hl : ((vs.toList.drop off).take ti.size).length = ti.size := list_bnd (by simpa using hs)
 have := run_loadCells_list (P := P) w ⟨b, off, none⟩ ((vs.toList.drop off).take ti.size) (fun j v hj => by
  rw [add_none, cell_at hb]
  have hj' : j < ti.size := by
   apply Classical.byContradiction; intro hn
   rw [List.getElem?_eq_none (by omega)] at hj; cases hj
  rw [List.getElem?_take_of_lt hj', List.getElem?_drop] at hj
  simpa using hj)
 rw [hl] at this
 simp [Sem.run_bind, ht.isAgg', ha, ht.size, this]
theorem run_loadVar_one {t : TypeId} {ti : TI} (ht : TyOk P t ti) (ha : ti.agg = false) {b off : Nat} {vs : Array Value} {T : TypeId} {v : Value}
  (hb : w.heap[b]? = some (.cells vs T (0, 0))) (hv : vs[off]? = some v) : (loadVar t ⟨b, off, none⟩).run P w = .ok v w := by
 unfold loadVar
 simp [Sem.run_bind, ht.isAgg', ha, cell_at hb, hv]
theorem take_one {l : List Value} {off : Nat} {v : Value} (h : ∃ u, (l.drop off).take 1 = [u] ∧ u = v) : l[off]? = some v := by
 obtain ⟨u, h1, rfl⟩ := h
 cases hd : l.drop off with
 | nil => rw [hd] at h1; cases h1
 | cons x r =>
  rw [hd] at h1; simp at h1; subst h1
  have : (l.drop off)[0]? = some x := by rw [hd]; rfl
  rw [List.getElem?_drop] at this; simpa using this
theorem run_storeVar {t : TypeId} {s : Nat} (hs : (Go.sizeOf t).run P w = .ok s w) {b off : Nat} {vs : Array Value} {T : TypeId} {v : Value}
  (hb : w.heap[b]? = some (.cells vs T (0, 0))) (hv : v.cells.size = s) (hl : off + s ≤ vs.size) (h1 : ∀ x ∈ v.cells.toList, x.oneCell' = true) :
  ∃ w', (storeVar t ⟨b, off, none⟩ v).run P w = .ok () w' ∧ StoreTo w b off v.cells.toList w' := by
 have := run_storeCells_at (P := P) b off T v.cells.toList 0 vs w hb (by simp; omega) h1
 refine ⟨w.setRow b (vs.toList.take (off + 0) ++ v.cells.toList ++ vs.toList.drop (off + 0 + v.cells.toList.length)).toArray, ?_, ?_⟩
 ·unfold storeVar
  simp [Sem.run_bind, hs, hv, this]
 ·refine ⟨fun us U hu => ?_, fun k hk => setRow_other w b k _ hk, by simp [World.setRow], rfl, rfl, rfl⟩
  rw [hb] at hu; simp only [Option.some.injEq, Obj.cells.injEq] at hu
  obtain ⟨rfl, rfl, _⟩ := hu
  simpa using setRow_heap w b vs _ T _ hb
theorem partOf_ok (hx : CxOk P σ W cx) {t : TypeId} {cs : List AV} {off : Nat} {v : AV} {us : Array Value} (h : partOf cx t cs off = some v) (hr : relL σ ρ cs us.toList) :
  ∃ u, (Go.part t us off).run P w = .ok u w ∧ rel σ ρ v u := by
 unfold partOf at h
 split at h
 ·rename_i ti hti
  have ht := hx.tyf hti
  have hl := relL_length hr
  cases ha : ti.agg
  ·simp only [ha, cond_false] at h
   obtain ⟨u, h1, h2⟩ := relL_get hr off v h
   refine ⟨u, ?_, h2⟩
   unfold Go.part
   have h1' : us[off]? = some u := by simpa using h1
   simp [Sem.run_bind, ht.isAgg', ha, h1']
  ·simp only [ha, cond_true] at h
   cases hb : Nat.ble (off + ti.size) cs.length
   ·simp [hb] at h
   ·simp only [hb, cond_true, Option.some.injEq] at h; subst h
    refine ⟨.agg ((us.toList.drop off).take ti.size).toArray, ?_, _, rfl, by simpa using relL_take _ (relL_drop _ hr)⟩
    unfold Go.part
    simp only [Sem.run_bind, ht.isAgg', ha, Result.andThen_ok, if_true, ht.size, Sem.run_pure]
    congr 2
    apply Array.ext'
    simp [List.extract_eq_take_drop]
 ·cases h
theorem foldl_set (vs : List Value) : ∀ (k off : Nat) (cs : List Value), off + k + vs.length ≤ cs.length →
  ((vs.zipIdx k).foldl (fun (cs : Array Value) (x : Value × Nat) => cs.setIfInBounds (off + x.2) x.1) cs.toArray).toList = cs.take (off + k) ++ vs ++ cs.drop (off + k + vs.length) := by
 induction vs with
 | nil => intro k off cs h; simp
 | cons v vs ih =>
  intro k off cs h
  simp only [List.zipIdx_cons, List.foldl_cons]
  have e : (cs.toArray.setIfInBounds (off + k) v) = (cs.set (off + k) v).toArray := by simp
  simp only [List.length_cons] at h
  rw [e, ih (k + 1) off _ (by simp; omega)]
  have h1 : (cs.set (off + k) v).take (off + (k + 1)) = cs.take (off + k) ++ [v] := by
   rw [← Nat.add_assoc, List.take_add_one]
   rw [List.take_set_of_le (by omega)]
   rw [List.getElem?_set_self (by omega)]; rfl
  have h2 : (cs.set (off + k) v).drop (off + (k + 1) + vs.length) = cs.drop (off + k + (vs.length + 1)) := by
   rw [List.drop_set_of_lt (by omega)]
   congr 1; omega
  rw [h1, h2]
  simp
theorem fill_ok {place place' : Nat → Option (Nat × Nat)} (hp : ∀ i x, place i = some x → place' i = some x) : ∀ {ps : List (Nat × AV)} {us : List (Nat × Value)} {cs r : List AV} {vs : List Value},
  fill place cs ps = some r → relL σ ρ cs vs → (ps.map (·.1) = us.map (·.1)) → relL σ ρ (ps.map (·.2)) (us.map (·.2)) → (∀ p ∈ ps, ∀ u, rel σ ρ p.2 u → p.2.cells.length = u.cells.size ∧ relL σ ρ p.2.cells u.cells.toList) →
  ∃ ws, Instr.fill place' vs.toArray us = some ws.toArray ∧ relL σ ρ r ws
 | [], us, cs, r, vs, h, hr, he, hl, hc => by
  have : us = [] := by cases us with | nil => rfl | cons => simp at he
  subst this
  simp [fill] at h; subst h
  exact ⟨vs, rfl, hr⟩
 | (i, v) :: ps, us, cs, r, vs, h, hr, he, hl, hc => by
  cases us with
  | nil => simp at he
  | cons p us =>
   obtain ⟨j, u⟩ := p
   simp only [List.map_cons, List.cons.injEq] at he
   obtain ⟨rfl, he⟩ := he
   simp only [List.map_cons] at hl
   obtain ⟨hvu, hl⟩ := relL_cons.1 hl
   unfold fill at h
   split at h
   ·cases h
   ·rename_i off size hpl
    cases hb : (Nat.beq v.cells.length size && Nat.ble (off + size) cs.length)
    ·simp [hb] at h
    ·simp only [hb, cond_true] at h
     simp only [Bool.and_eq_true] at hb
     have hsz := Nat.eq_of_beq_eq_true hb.1
     have hle := Nat.le_of_ble_eq_true hb.2
     obtain ⟨hcu, hru⟩ := hc (i, v) (by simp) u hvu
     have hlen := relL_length hr
     have e : u.cells.zipIdx.foldl (fun (cs : Array Value) (x : Value × Nat) => cs.setIfInBounds (off + x.2) x.1) vs.toArray = (vs.take off ++ u.cells.toList ++ vs.drop (off + size)).toArray := by
      apply Array.ext'
      have := foldl_set u.cells.toList 0 off vs (by simp at *; omega)
      rw [← Array.foldl_toList, Array.toList_zipIdx, this]
      simp only [Nat.add_zero, Array.length_toList]
      congr 2; simp at *; omega
     have hr' : relL σ ρ (cs.take off ++ v.cells ++ cs.drop (off + size)) (vs.take off ++ u.cells.toList ++ vs.drop (off + size)) :=
      relL_append (relL_append (relL_take _ hr) hru) (relL_drop _ hr)
     obtain ⟨ws, h1, h2⟩ := fill_ok hp h hr' he hl (fun p hp => hc p (by simp [hp]))
     refine ⟨ws, ?_, h2⟩
     unfold Instr.fill
     rw [hp _ _ hpl]
     simp only
     rw [if_neg (by simp at *; omega), e]
     exact h1
end
end Go.Proofs.YtlfoglklibhbnaaGreat.Sx
namespace Go.Proofs.YtlfoglklibhbnaaGreat.Sx
open Go.RowKit
section
variable {P : Program} {σ : Env} {W : World} {cx : Cx} {ρ : Nat → Option Nat} {H : Hp} {w0 w : World}
theorem evParts_ok {tm : List AV} {a : Act} : ∀ {ps : List (Nat × Operand)} {qs : List (Nat × AV)}, EvOk σ ρ tm a (ps.map (·.2)) → evParts tm ps = some qs →
  qs.map (·.1) = (ps.map fun p => (p.1, a.eval p.2)).map (·.1) ∧ relL σ ρ (qs.map (·.2)) ((ps.map fun p => (p.1, a.eval p.2)).map (·.2))
 | [], qs, _, h => by simp [evParts] at h; subst h; exact ⟨rfl, rfl⟩
 | (i, x) :: ps, qs, he, h => by
  unfold evParts at h
  split at h
  ·rename_i b m hb hm
   simp only [Option.some.injEq] at h; subst h
   obtain ⟨h1, h2⟩ := evParts_ok (fun y hy => he y (by simp at hy ⊢; exact .inr hy)) hm
   exact ⟨by simp at h1 ⊢; exact h1, _, _, rfl, he x (by simp) b hb, h2⟩
  ·cases h
theorem oneParts_ok : ∀ {ps : List (Nat × AV)}, oneParts ps = true → ∀ p ∈ ps, ∀ u, rel σ ρ p.2 u → p.2.cells.length = u.cells.size ∧ relL σ ρ p.2.cells u.cells.toList
 | [], _, p, hp => by cases hp
 | q :: ps, h, p, hp => by
  simp only [oneParts, Bool.and_eq_true] at h
  intro u hu
  rcases List.mem_cons.1 hp with rfl | hp
  ·have := relL_cells hu h.1
   exact ⟨by simpa using relL_length this, this⟩
  ·exact oneParts_ok h.2 p hp u hu
theorem allInts_ok : ∀ {l : List AV} {es : List SE} {us : List Value}, allInts l = some es → relL σ ρ l us → us = es.map fun e => Value.int .i64 (σ.i e)
 | [], es, us, h, k => by simp [allInts] at h; subst h; exact k
 | x :: l, es, us, h, k => by
  cases x <;> simp only [allInts, Option.map_eq_some_iff, reduceCtorEq] at h
  obtain ⟨m, h1, rfl⟩ := h
  obtain ⟨v, vs', rfl, h2, h3⟩ := k
  have : v = .int .i64 (σ.i _) := h2
  rw [this, allInts_ok h1 h3]; rfl
theorem eqAll_ok : ∀ {a b : List SE}, σ.b (eqAll a b) = eqI (a.map σ.i) (b.map σ.i)
 | [], [] => rfl
 | [], _ :: _ => rfl
 | _ :: _, [] => rfl
 | a :: l, b :: m => by
  simp only [eqAll, b_ite, b_eq, List.map_cons, eqI]
  rw [eqAll_ok (a := l) (b := m)]
  cases (σ.i a == σ.i b) <;> simp [Env.b, den]
theorem run_foldlM {f : Value → Value → Sem Value} {g : Int → Int → Int} (hf : ∀ x y w, (f (.int .i64 x) (.int .i64 y)).run P w = .ok (.int .i64 (g x y)) w) : ∀ (l : List Int) (x : Int) (w : World),
  ((l.map (Value.int .i64)).foldlM f (.int .i64 x)).run P w = .ok (.int .i64 (l.foldl g x)) w
 | [], x, w => rfl
 | y :: l, x, w => by
  simp only [List.map_cons, List.foldlM_cons, Sem.run_bind, hf, Result.andThen_ok, List.foldl_cons]
  exact run_foldlM hf l (g x y) w
theorem foldE_ok {f : SE → SE → SE} {g : Int → Int → Int} (hf : ∀ a b, σ.i (f a b) = g (σ.i a) (σ.i b)) : ∀ (l : List SE) (x : SE), σ.i (foldE f x l) = (l.map σ.i).foldl g (σ.i x)
 | [], x => rfl
 | y :: l, x => by simp only [foldE, List.map_cons, List.foldl_cons]; rw [foldE_ok hf l (f x y), hf]
theorem fieldsKnown_ok (hx : CxOk P σ W cx) : ∀ {fs : List Field}, fieldsKnown cx fs = true → ∃ g : Field → Nat, (∀ f ∈ fs, Sx.sizeOf cx f.type = some (g f)) ∧
  ∀ w, (fs.mapM fun f => do pure (f.offset, ← Go.sizeOf f.type) : Sem (List (Nat × Nat))).run P w = .ok (fs.map fun f => (f.offset, g f)) w := by
 intro fs h
 refine ⟨fun f => (Sx.sizeOf cx f.type).getD 0, ?_, ?_⟩
 ·induction fs with
  | nil => intro f hf; cases hf
  | cons q l ih =>
   simp only [fieldsKnown, Bool.and_eq_true] at h
   intro f hf
   rcases List.mem_cons.1 hf with rfl | hf
   ·obtain ⟨ti, hti⟩ := Option.isSome_iff_exists.1 h.1
    simp [Sx.sizeOf, hti]
   ·exact ih h.2 f hf
 ·induction fs with
  | nil => intro w; rfl
  | cons q l ih =>
   simp only [fieldsKnown, Bool.and_eq_true] at h
   intro w
   obtain ⟨ti, hti⟩ := Option.isSome_iff_exists.1 h.1
   simp only [List.mapM_cons, Sem.run_bind, (hx.tyf hti).size, Result.andThen_ok, Sem.run_pure, ih h.2, List.map_cons]
   simp [Sx.sizeOf, hti]
theorem rep_ok {z : List AV} {zs : List Value} (h : relL σ ρ z zs) : ∀ n, relL σ ρ (rep z n) (rep zs n)
 | 0 => rfl
 | n + 1 => relL_append h (rep_ok h n)
theorem rep_range (zs : List Value) (hz : 0 < zs.length) : ∀ n, (List.range (n * zs.length)).map (fun i => zs.toArray[i % zs.toArray.size]!) = rep zs n
 | 0 => by simp [rep]
 | n + 1 => by
  have e : (n + 1) * zs.length = zs.length + n * zs.length := by rw [Nat.add_mul, Nat.one_mul, Nat.add_comm]
  rw [e, List.range_add, List.map_append, rep]
  congr 1
  ·apply List.ext_getElem
   ·simp
   ·intro i h1 h2
    simp only [List.getElem_map, List.getElem_range, List.size_toArray]
    rw [Nat.mod_eq_of_lt h2]
    simp [h2]
  ·rw [List.map_map, ← rep_range zs hz n]
   apply List.map_congr_left
   intro i _
   simp
end
end Go.Proofs.YtlfoglklibhbnaaGreat.Sx
