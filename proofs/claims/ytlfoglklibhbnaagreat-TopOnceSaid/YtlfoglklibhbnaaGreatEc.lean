/- The reckoner: memory, and what single operations do. -/
import Derived.Test.YtlfoglklibhbnaaGreatEb
import Derived.Test.YtlfoglklibhbnaaGreatCm
import Derived.Laws.Cells
import Derived.Laws.CopyRow
import Derived.Laws.Entries
set_option linter.unusedVariables false
namespace Go.Proofs.YtlfoglklibhbnaaGreat.Sx
open Go.RowKit

/-- The blocks that the reckoner knows lie in memory so. -/
structure HRel (σ : Env) (ρ : Nat → Option Nat) (H : Hp) (w0 w : World) : Prop where
  blk : ∀ n B, H[n]? = some (some B) → ∃ b vs, ρ n = some b ∧ w.heap[b]? = some (.cells vs B.elem (0, 0)) ∧ relL σ ρ B.cells vs.toList ∧ (B.own = true → w0.heap.size ≤ b)
  inj : ∀ n m b, ρ n = some b → ρ m = some b → n = m
  lt : ∀ n b, ρ n = some b → b < w.heap.size

theorem HRel.gr {σ : Env} {ρ : Nat → Option Nat} {H : Hp} {w0 w w' : World} (h : HRel σ ρ H w0 w) (g : Gr w w') : HRel σ ρ H w0 w' := by
  refine ⟨fun n B hn => ?_, h.inj, fun n b hb => Nat.lt_of_lt_of_le (h.lt n b hb) g.size⟩
  obtain ⟨b, vs, h1, h2, h3, h4⟩ := h.blk n B hn
  exact ⟨b, vs, h1, by rw [Below.block g b (h.lt n b h1)]; exact h2, h3, h4⟩

theorem HRel.less {σ : Env} {ρ : Nat → Option Nat} {H H' : Hp} {w0 w : World} (h : HRel σ ρ H w0 w) (hs : ∀ (n : Nat) (B : Bk), H'[n]? = some (some B) → H[n]? = some (some B)) : HRel σ ρ H' w0 w :=
  ⟨fun n B hn => h.blk n B (hs n B hn), h.inj, h.lt⟩

def upd (ρ : Nat → Option Nat) (n b : Nat) : Nat → Option Nat := fun m => if m = n then some b else ρ m
theorem sub_upd {ρ : Nat → Option Nat} {n b : Nat} (h : ρ n = none) : sub ρ (upd ρ n b) := by
  intro m c hm
  unfold upd
  split
  · rename_i e; subst e; rw [h] at hm; cases hm
  · exact hm
theorem upd_self {ρ : Nat → Option Nat} {n b : Nat} : upd ρ n b n = some b := by simp [upd]

/-- A new block. -/
theorem HRel.new {σ : Env} {ρ : Nat → Option Nat} {H : Hp} {w0 w w' : World} {nm bb : Nat} {B : Bk} {vs : Array Value} (h : HRel σ ρ H w0 w)
    (hn : ρ nm = none) (hl : nm < H.length) (g : Gr w w') (h0 : w0.heap.size ≤ w.heap.size) (hb : w.heap.size ≤ bb) (hb' : bb < w'.heap.size) (hc : w'.heap[bb]? = some (.cells vs B.elem (0, 0))) (hr : relL σ ρ B.cells vs.toList) :
    HRel σ (upd ρ nm bb) (H.set nm (some B)) w0 w' := by
  have hg := h.gr g
  have hs := sub_upd (b := bb) hn
  refine ⟨fun n C hC => ?_, fun n m b h1 h2 => ?_, fun n b h1 => ?_⟩
  · by_cases e : nm = n
    · subst e
      rw [List.getElem?_set_self hl] at hC
      simp only [Option.some.injEq] at hC; subst hC
      exact ⟨bb, vs, upd_self, hc, relL_mono hs _ _ hr, fun _ => Nat.le_trans h0 hb⟩
    · rw [List.getElem?_set_ne e] at hC
      obtain ⟨b, us, h1, h2, h3, h4⟩ := hg.blk n C hC
      exact ⟨b, us, hs _ _ h1, h2, relL_mono hs _ _ h3, h4⟩
  · unfold upd at h1 h2
    split at h1 <;> split at h2
    · omega
    · simp only [Option.some.injEq] at h1; subst h1
      have := h.lt _ _ h2; omega
    · simp only [Option.some.injEq] at h2; subst h2
      have := h.lt _ _ h1; omega
    · exact h.inj _ _ _ h1 h2
  · unfold upd at h1
    split at h1
    · simp only [Option.some.injEq] at h1; omega
    · have := hg.lt _ _ h1; exact this

/-- A store. -/
structure StoreTo (w : World) (bb off : Nat) (us : List Value) (w' : World) : Prop where
  it : ∀ vs T, w.heap[bb]? = some (.cells vs T (0, 0)) → w'.heap[bb]? = some (.cells (vs.toList.take off ++ us ++ vs.toList.drop (off + us.length)).toArray T (0, 0))
  other : ∀ k, k ≠ bb → w'.heap[k]? = w.heap[k]?
  size : w'.heap.size = w.heap.size
  os : w'.os = w.os
  tape : w'.tape = w.tape
  output : w'.output = w.output

theorem HRel.st {σ : Env} {ρ : Nat → Option Nat} {H : Hp} {w0 w w' : World} {n off bb : Nat} {cs : List AV} {us : List Value} {B : Bk} (h : HRel σ ρ H w0 w)
    (hB : H[n]? = some (some B)) (hb : ρ n = some bb) (hr : relL σ ρ cs us) (hs : StoreTo w bb off us w') : HRel σ ρ (putH H n off cs) w0 w' := by
  have hn : n < H.length := by
    apply Classical.byContradiction; intro hn
    rw [List.getElem?_eq_none (by omega)] at hB; cases hB
  unfold putH
  rw [hB]
  refine ⟨fun m C hC => ?_, h.inj, fun m b h1 => by rw [hs.size]; exact h.lt m b h1⟩
  by_cases e : n = m
  · subst e
    rw [List.getElem?_set_self hn] at hC
    simp only [Option.some.injEq] at hC; subst hC
    obtain ⟨b, vs, h1, h2, h3, h4⟩ := h.blk n B hB
    rw [hb] at h1; simp only [Option.some.injEq] at h1; subst h1
    refine ⟨bb, _, hb, hs.it _ _ h2, ?_, h4⟩
    rw [relL_length hr]
    exact relL_append (relL_append (relL_take _ h3) hr) (relL_drop _ h3)
  · rw [List.getElem?_set_ne e] at hC
    obtain ⟨b, vs, h1, h2, h3, h4⟩ := h.blk m C hC
    refine ⟨b, vs, h1, ?_, h3, h4⟩
    rw [hs.other b (fun eb => e (h.inj _ _ _ hb (by rw [← eb]; exact h1)))]; exact h2

theorem StoreTo.below {w w' : World} {bb off B : Nat} {us : List Value} (h : StoreTo w bb off us w') (hB : B ≤ bb) : Below B w w' :=
  ⟨h.os, h.tape, h.output, by rw [h.size]; exact Nat.le_refl _, fun k hk => h.other k (by omega)⟩

theorem gr_alloc (w : World) (o : Obj) : Gr w (w.alloc o) := (Gr.refl w).alloc o

/- The table's rows. -/
section
variable {P : Program} {t : TypeId} {ti : TI} {w : World}
theorem TyOk.und (h : TyOk P t ti) : (underlying t).run P w = .ok ti.desc w := run_underlying h.1 w
theorem TyOk.info (h : TyOk P t ti) : ∃ i, P.info? t = some i ∧ i.size = ti.size ∧ i.zero = some ti.zeroV := by
  have := h.2
  cases hi : P.info? t with
  | none => rw [hi] at this; cases this
  | some i => rw [hi] at this; simp at this; exact ⟨i, rfl, this.1, this.2⟩
theorem TyOk.size (h : TyOk P t ti) : (Go.sizeOf t).run P w = .ok ti.size w := by
  obtain ⟨i, h1, h2, h3⟩ := h.info
  simp [Go.sizeOf, typeInfo, program, Sem.run, h1, h2]
theorem TyOk.zero' (h : TyOk P t ti) : (zeroValue t).run P w = .ok ti.zeroV w := by
  obtain ⟨i, h1, h2, h3⟩ := h.info
  simp [zeroValue, typeInfo, program, Sem.run, h1, h3]
theorem TyOk.isAgg' (h : TyOk P t ti) : (isAgg t).run P w = .ok ti.agg w := by
  unfold isAgg TI.agg
  rw [Sem.run_bind, h.und]
  simp only [Result.andThen_ok]
  cases ti.desc <;> rfl
end

theorem find_mem {α : Type} {n : Nat} {a : α} : ∀ {l : List (Nat × α)}, find n l = some a → (n, a) ∈ l
  | [], h => by simp [find] at h
  | (m, b) :: rest, h => by
    unfold find at h
    cases hb : Nat.beq n m
    · simp only [hb, cond_false] at h; exact List.mem_cons_of_mem _ (find_mem h)
    · simp only [hb, cond_true, Option.some.injEq] at h
      have := Nat.eq_of_beq_eq_true hb; subst this; subst h; simp

/- Constants, operands. -/
section
variable {σ : Env} {ρ : Nat → Option Nat}
theorem rel_ofConst1 {v : Value} {x : AV} (h : ofConst1 v = some x) : rel σ ρ x v := by
  unfold ofConst1 at h
  split at h <;> simp only [Option.some.injEq, reduceCtorEq] at h <;> subst h <;> rfl
theorem relL_ofConsts : ∀ {l : List Value} {m : List AV}, ofConsts l = some m → relL σ ρ m l
  | [], m, h => by simp [ofConsts] at h; subst h; rfl
  | v :: l, m, h => by
    unfold ofConsts at h
    split at h
    · rename_i a m' ha hm
      simp only [Option.some.injEq] at h; subst h
      exact ⟨v, l, rfl, rel_ofConst1 ha, relL_ofConsts hm⟩
    · cases h
theorem rel_ofConst {v : Value} {x : AV} (h : ofConst v = some x) : rel σ ρ x v := by
  unfold ofConst at h
  split at h
  · simp only [Option.map_eq_some_iff] at h
    obtain ⟨m, h1, rfl⟩ := h
    exact ⟨_, rfl, relL_ofConsts h1⟩
  · exact rel_ofConst1 h
theorem rel_ev {tm : List AV} {a : Act} {x : Operand} {v : AV} (ht : relL σ ρ tm a.tmps.toList) (h : ev tm x = some v) : rel σ ρ v (a.eval x) := by
  cases x with
  | tmp t =>
    obtain ⟨u, h1, h2⟩ := relL_get ht t v h
    have e : a.eval (.tmp t) = u := by
      simp only [Act.eval, Array.getD_eq_getD_getElem?]
      rw [← Array.getElem?_toList, h1]; rfl
    rw [e]; exact h2
  | const c => exact rel_ofConst h
  | global g => cases h
  | func f => simp only [ev, Option.some.injEq] at h; subst h; exact ⟨#[], #[], rfl, rfl, rfl⟩

def EvOk (σ : Env) (ρ : Nat → Option Nat) (tm : List AV) (a : Act) (xs : List Operand) : Prop := ∀ x ∈ xs, ∀ v, ev tm x = some v → rel σ ρ v (a.eval x)

theorem relL_evs {tm : List AV} {a : Act} : ∀ {xs : List Operand} {vs : List AV}, EvOk σ ρ tm a xs → evs tm xs = some vs → relL σ ρ vs (xs.map a.eval)
  | [], vs, _, h => by simp [evs] at h; subst h; rfl
  | x :: l, vs, he, h => by
    unfold evs at h
    split at h
    · rename_i b m hb hm
      simp only [Option.some.injEq] at h; subst h
      exact ⟨_, _, rfl, he x (by simp) b hb, relL_evs (fun y hy => he y (by simp [hy])) hm⟩
    · cases h
end

theorem one_of_rel {σ : Env} {ρ : Nat → Option Nat} {v : AV} {u : Value} (h : rel σ ρ v u) (ho : v.one = true) : u.oneCell' = true := by
  unfold rel at h
  split at h
  · subst h; rfl
  · subst h; rfl
  · subst h; rfl
  · obtain ⟨b, _, rfl⟩ := h; rfl
  · subst h; rfl
  · obtain ⟨b, _, rfl⟩ := h; rfl
  · obtain ⟨fs, cs, rfl, _⟩ := h; rfl
  · subst h; rfl
  · cases ho
  · cases ho
  · obtain ⟨h1, h2⟩ := h
    cases u <;> first | rfl | cases h2
  · cases ho
theorem relL_cells {σ : Env} {ρ : Nat → Option Nat} {v : AV} {u : Value} (h : rel σ ρ v u) (ho : oneAll v.cells = true) : relL σ ρ v.cells u.cells.toList := by
  by_cases ha : ∃ l, v = .agg l
  · obtain ⟨l, rfl⟩ := ha
    obtain ⟨vs, rfl, h2⟩ := h; exact h2
  · have e : v.cells = [v] := by cases v <;> first | rfl | (exact absurd ⟨_, rfl⟩ ha)
    rw [e] at ho ⊢
    simp only [oneAll, Bool.and_true] at ho
    have h1 := one_of_rel h ho
    have e2 : u.cells = #[u] := by cases u <;> first | rfl | cases h1
    rw [e2]; exact ⟨u, [], rfl, h, rfl⟩

theorem ones_of_rel {σ : Env} {ρ : Nat → Option Nat} : ∀ {cs : List AV} {us : List Value}, relL σ ρ cs us → oneAll cs = true → ∀ v ∈ us, v.oneCell' = true
  | [], us, h, _ => by have : us = [] := h; subst this; simp
  | x :: cs, us, h, ho => by
    obtain ⟨v, vs', rfl, h2, h3⟩ := h
    simp only [oneAll, Bool.and_eq_true] at ho
    exact List.forall_mem_cons.2 ⟨one_of_rel h2 ho.1, ones_of_rel h3 ho.2⟩

/- The effect of an operation, said to what comes behind it. -/
def EffK (σ : Env) (ρ : Nat → Option Nat) (w0 : World) (nm : Nat) (H : Hp) (dst : Option Tmp) (a : Act) (w : World) (K : Act → World → Prop) : Eff → Prop
  | .val v => ∀ u w', rel σ ρ v u → Gr w w' → K (a.put dst u) w'
  | .new v B => ∀ u w' bb vs, w.heap.size ≤ bb → bb < w'.heap.size → w'.heap[bb]? = some (.cells vs B.elem (0, 0)) → relL σ ρ B.cells vs.toList → rel σ (upd ρ nm bb) v u → Gr w w' → K (a.put dst u) w'
  | .st n off cs => ∀ w' bb us B, H[n]? = some (some B) → B.own = true → ρ n = some bb → w0.heap.size ≤ bb → relL σ ρ cs us → StoreTo w bb off us w' → K (a.put dst undef) w'
  | .out v H' => ∀ u w' ρ', sub ρ ρ' → (∀ n, H'.length ≤ n → ρ' n = none) → HRel σ ρ' H' w0 w' → rel σ ρ' v u → Below w0.heap.size w w' → K (a.put dst u) w'

/-- What is asked of a reckoned call. -/
structure CallOk (P : Program) (σ : Env) (W : World) (callf : Bool → Nat → Pc → List AV → Hp → Tree (AV × Hp)) : Prop where
  alone : ∀ f pc vs h r us ρ w0 w, pcOk σ pc → (callf false f pc vs h).sel σ = some r → Gr W w → W.heap.size ≤ w0.heap.size → w0.heap.size ≤ w.heap.size → relL σ ρ vs us → HRel σ ρ h w0 w → (∀ n, h.length ≤ n → ρ n = none) →
    Calls P f us.toArray w fun e w' => ∃ u, e = .returned u ∧ rel σ ρ r.1 u ∧ Gr w w'
  all : ∀ f pc vs h r us ρ w0 w, pcOk σ pc → (callf true f pc vs h).sel σ = some r → Gr W w → W.heap.size ≤ w0.heap.size → w0.heap.size ≤ w.heap.size → relL σ ρ vs us → HRel σ ρ h w0 w → (∀ n, h.length ≤ n → ρ n = none) →
    Calls P f us.toArray w fun e w' => ∃ u ρ', e = .returned u ∧ sub ρ ρ' ∧ (∀ n, r.2.length ≤ n → ρ' n = none) ∧ HRel σ ρ' r.2 w0 w' ∧ rel σ ρ' r.1 u ∧ Below w0.heap.size w w'

/-- Rows of numbers that are the same. -/
def eqI : List Int → List Int → Bool
  | a :: l, b :: m => (a == b) && eqI l m
  | _, _ => true
/-- Two structs of such a type are compared number by number. -/
def EqOk (P : Program) (t : TypeId) (n : Nat) : Prop :=
  ∀ (x y : Operand) (l m : List Int) (w : World), l.length = n → m.length = n →
    (do eqGuard .eql t x y (.agg (l.map (Value.int .i64)).toArray) (.agg (m.map (Value.int .i64)).toArray); binOp .eql t (.agg (l.map (Value.int .i64)).toArray) (.agg (m.map (Value.int .i64)).toArray)).run P w = .ok (.bool (eqI l m)) w ∧
    (do eqGuard .neq t x y (.agg (l.map (Value.int .i64)).toArray) (.agg (m.map (Value.int .i64)).toArray); binOp .neq t (.agg (l.map (Value.int .i64)).toArray) (.agg (m.map (Value.int .i64)).toArray)).run P w = .ok (.bool (!eqI l m)) w

def ConOk (P : Program) (σ : Env) (W : World) (c : Con) : Prop :=
  ∀ vs h r us ρ w0 w, c.res vs h = some r → Gr W w → W.heap.size ≤ w0.heap.size → relL σ ρ vs us → HRel σ ρ h w0 w →
    Calls P c.f us.toArray w fun e w' => ∃ u, e = .returned u ∧ rel σ ρ r u ∧ Gr w w'

structure CxOk (P : Program) (σ : Env) (W : World) (cx : Cx) : Prop where
  ty : ∀ e ∈ cx.ty, TyOk P e.1 e.2
  fn : ∀ e ∈ cx.fn, FnOk P e.1 e.2
  con : ∀ c ∈ cx.con, ConOk P σ W c
  eqs : ∀ e ∈ cx.eqs, EqOk P e.1 e.2
  mixed : P.follows .mixedOrders = true

section
variable {P : Program} {σ : Env} {W : World} {cx : Cx} (hx : CxOk P σ W cx)
include hx
theorem CxOk.tyf {t : TypeId} {ti : TI} (h : find t cx.ty = some ti) : TyOk P t ti := hx.ty _ (find_mem h)
theorem CxOk.fnf {t : TypeId} {fn : Func} (h : find t cx.fn = some fn) : FnOk P t fn := hx.fn _ (find_mem h)
theorem CxOk.eqf {t : TypeId} {n : Nat} (h : find t cx.eqs = some n) : EqOk P t n := hx.eqs _ (find_mem h)
theorem CxOk.size {t : TypeId} {s : Nat} (h : sizeOf cx t = some s) (w : World) : (Go.sizeOf t).run P w = .ok s w := by
  unfold Sx.sizeOf at h
  simp only [Option.map_eq_some_iff] at h
  obtain ⟨ti, h1, rfl⟩ := h
  exact (hx.tyf h1).size
theorem CxOk.desc {t : TypeId} {d : TypeDesc} (h : descOf cx t = some d) (w : World) : (underlying t).run P w = .ok d w := by
  unfold descOf at h
  simp only [Option.map_eq_some_iff] at h
  obtain ⟨ti, h1, rfl⟩ := h
  exact (hx.tyf h1).und
theorem CxOk.zeros {σ' : Env} {ρ : Nat → Option Nat} {t : TypeId} {z : List AV} (h : zeros cx t = some z) (w : World) : ∃ v, (zeroValue t).run P w = .ok v w ∧ relL σ' ρ z v.cells.toList := by
  unfold Sx.zeros at h
  simp only [Option.bind_eq_some_iff] at h
  obtain ⟨ti, h1, h2⟩ := h
  refine ⟨_, (hx.tyf h1).zero', ?_⟩
  unfold TI.zeroV
  cases ha : ti.agg
  · simp only [ha, Bool.false_or, cond_false] at h2 ⊢
    cases hz : ti.zero with
    | nil => rw [hz] at h2; cases h2
    | cons v l =>
      cases l with
      | nil =>
        rw [hz] at h2
        simp only [List.length_cons, List.length_nil, ofConsts] at h2
        have e : Nat.beq (0 + 1) 1 = true := rfl
        rw [e, cond_true] at h2
        split at h2
        · rename_i a m ha' hm
          simp only [Option.some.injEq] at hm h2
          subst hm; subst h2
          have r : rel σ' ρ a v := rel_ofConst1 ha'
          have e2 : v.cells = #[v] := by
            cases v <;> first | rfl | (simp [ofConst1] at ha')
          simp only [List.headD_cons, e2]
          exact ⟨v, [], rfl, r, rfl⟩
        · cases h2
      | cons u l => rw [hz] at h2; cases h2
  · simp only [ha, Bool.true_or, cond_true] at h2 ⊢
    exact relL_ofConsts h2
end
end Go.Proofs.YtlfoglklibhbnaaGreat.Sx
