/- Parts of the proof of TopPoint. No condition of their own. -/
import Derived.Test.YtlfoglklibhbnaaGreatTpM
import Derived.Test.YtlfoglklibhbnaaGreatTpL
import Derived.Test.YtlfoglklibhbnaaGreatTpC
set_option linter.unusedVariables false
set_option linter.unusedSimpArgs false
namespace Go.Proofs.YtlfoglklibhbnaaGreat.Sx
open Go.RowKit
section
variable {P : Program} {σ : Env} {W : World} {cx : Cx} {callf : Bool → Nat → Pc → List AV → Hp → Tree (AV × Hp)}
theorem wpOp_store {ops : Array Oper} {Q : Exit → Act → World → Prop} {i : Nat} {K : Act → World → Prop} {a : Act} {w : World} {o : Oper} {t : TypeId} {x y : Operand} (ho : ops[i]? = some o) (hgd : o.guard = none) (hop : o.op = .store t x y)
  {b : Nat} {T : TypeId} {V old : Value} (hs : (Go.sizeOf t).run P w = .ok 1 w) (hx : a.eval x = .pointer (some ⟨b, 0, none⟩)) (hv : a.eval y = V) (hc : V.cells = #[V]) (h1 : V.oneCell' = true) (hb : Mt.Bx w b T [old])
  (hK : ∀ w', Mt.Bx w' b T [V] → Mt.Ks (fun k => k = b) w w' → K (a.put o.dst undef) w') : wpOp P ops Q i K a w := by
 unfold wpOp
 rw [ho]
 simp only
 have hw : Region.wanted o (yielded ops a.tmps) = true := by unfold Region.wanted; rw [hgd]
 rw [if_pos hw]
 left
 obtain ⟨w', hw1, hw2⟩ := run_storeVar (P := P) (w := w) hs (b := b) (off := 0) (vs := #[old]) (T := T) (v := V) hb (by rw [hc]; rfl) (by simp) (by rw [hc]; intro z hz; simp at hz; subst hz; exact h1)
 have hit := hw2.it _ _ hb
 rw [hc] at hit
 have hrun : (execOp a.eval o).run P w = .ok .skip w' := by
  obtain ⟨d, op, ty, pos, after, guard⟩ := o
  simp only at hop
  subst hop
  refine run_u ?_
  rw [Instr.storeAt, hx, hv]
  exact hw1
 refine wp_of_skip hrun (hK w' hit ⟨hw2.os, hw2.tape, hw2.output, by rw [hw2.size]; exact Nat.le_refl _, fun k _ hk => hw2.other k hk⟩)
end
def boxesAt (σ : Env) (ρ : Nat → Option Nat) (w : World) : List (Nat × Nat × TypeId) → List Nat → Prop
 | [], [] => True
 | x :: xs, b :: bs => (∃ vs, w.heap[b]? = some (.cells vs x.2.2 (0, 0)) ∧ relL σ ρ (vars x.1 x.2.1) vs.toList) ∧ boxesAt σ ρ w xs bs
 | _, _ => False
def boxesHp2 (xs : List (Option (List AV × TypeId))) : Hp := xs.map fun x => x.map fun x => ⟨x.1, x.2, false⟩
def boxesAt2 (σ : Env) (ρ : Nat → Option Nat) (w : World) : List (Option (List AV × TypeId)) → List Nat → Prop
 | [], [] => True
 | none :: xs, b :: bs => b < w.heap.size ∧ boxesAt2 σ ρ w xs bs
 | some x :: xs, b :: bs => (∃ vs, w.heap[b]? = some (.cells vs x.2 (0, 0)) ∧ relL σ ρ x.1 vs.toList) ∧ boxesAt2 σ ρ w xs bs
 | _, _ => False
theorem boxesAt2_get {σ : Env} {ρ : Nat → Option Nat} {w : World} : ∀ {xs : List (Option (List AV × TypeId))} {bs : List Nat}, boxesAt2 σ ρ w xs bs → xs.length = bs.length ∧ (∀ (i : Nat) x, xs[i]? = some (some x) → ∃ b vs, bs[i]? = some b ∧ w.heap[b]? = some (.cells vs x.2 (0, 0)) ∧ relL σ ρ x.1 vs.toList) ∧ (∀ (i b : Nat), bs[i]? = some b → b < w.heap.size)
 | [], [], _ => ⟨rfl, fun i b h => by simp at h, fun i b h => by simp at h⟩
 | [], _ :: _, h => h.elim
 | none :: xs, [], h => h.elim
 | some x :: xs, [], h => h.elim
 | none :: xs, b :: bs, h => by
  obtain ⟨h0, h2⟩ := h
  obtain ⟨h3, h4, h5⟩ := boxesAt2_get h2
  refine ⟨by simp [h3], fun i c hc => ?_, fun i c hc => ?_⟩
  ·cases i with
   | zero => simp at hc
   | succ i => simp only [List.getElem?_cons_succ] at hc ⊢; exact h4 i c hc
  ·cases i with
   | zero => simp only [List.getElem?_cons_zero, Option.some.injEq] at hc; subst hc; exact h0
   | succ i => simp only [List.getElem?_cons_succ] at hc; exact h5 i c hc
 | some x :: xs, b :: bs, h => by
  obtain ⟨⟨vs, h0, h1⟩, h2⟩ := h
  obtain ⟨h3, h4, h5⟩ := boxesAt2_get h2
  refine ⟨by simp [h3], fun i c hc => ?_, fun i c hc => ?_⟩
  ·cases i with
   | zero => simp only [List.getElem?_cons_zero, Option.some.injEq] at hc; subst hc; exact ⟨b, vs, rfl, h0, h1⟩
   | succ i => simp only [List.getElem?_cons_succ] at hc ⊢; exact h4 i c hc
  ·cases i with
   | zero => simp only [List.getElem?_cons_zero, Option.some.injEq] at hc; subst hc; exact (Array.getElem?_eq_some_iff.1 h0).1
   | succ i => simp only [List.getElem?_cons_succ] at hc; exact h5 i c hc
theorem boxesAt2_hrel {σ : Env} {w0 w : World} {xs : List (Option (List AV × TypeId))} {bs : List Nat} (h : boxesAt2 σ (fun i => bs[i]?) w xs bs) (hn : bs.Nodup) : HRel σ (fun i => bs[i]?) (boxesHp2 xs) w0 w := by
 obtain ⟨hl, hget, hlt⟩ := boxesAt2_get h
 refine ⟨fun n B hn => ?_, fun n m b h1 h2 => ?_, fun n b h1 => hlt n b h1⟩
 ·simp only [boxesHp2, List.getElem?_map] at hn
  rw [Option.map_eq_some_iff] at hn
  obtain ⟨x, hx, hB⟩ := hn
  cases x with
  | none => simp at hB
  | some x =>
   simp only [Option.map_some, Option.some.injEq] at hB
   subst hB
   obtain ⟨b, vs, h1, h2, h3⟩ := hget n _ hx
   exact ⟨b, vs, h1, h2, h3, fun h => by cases h⟩
 ·obtain ⟨q1, r1⟩ := List.getElem?_eq_some_iff.1 h1
  obtain ⟨q2, r2⟩ := List.getElem?_eq_some_iff.1 h2
  exact (List.getElem_inj hn).1 (r1.trans r2.symm)
section
variable {P : Program} {σ : Env} {W : World} {cx : Cx} {callf : Bool → Nat → Pc → List AV → Hp → Tree (AV × Hp)}
theorem seq3_in (hx : CxOk P σ W cx) (hc : CallOk P σ W callf) {l m n : Nat} {A B C D : Code} (hA : noDef A = true) (hB : noDef B = true) (hC : noDef C = true) {s s3 : St} {ρ : Nat → Option Nat} {a : Act} {w0 w : World} {Q : Exit → Act → World → Prop}
  (h : (aexec cx callf (n + 2) (A.seq (B.seq C)) [] s).sel σ = some (.normal, s3)) (hS : SRel σ ρ s a w0 w) (hW : Gr W w) (hW0 : W.heap.size ≤ w0.heap.size) (h0 : w0.heap.size ≤ w.heap.size)
  (hD : ∀ a' w' ρ', sub ρ ρ' → SRel σ ρ' s3 a' w0 w' → Below w0.heap.size w w' → a'.defers = a.defers → D.wpIn (Fence.wide.inRound l) m P Q a' w') : (A.seq (B.seq (C.seq D))).wpIn (Fence.wide.inRound l) m P Q a w := by
 have hp : pcOk σ [] := pcOk.nil σ
 unfold aexec at h
 simp only at h
 obtain ⟨r1, pc1, hp1, h1, h2⟩ := sel_bind hp h
 obtain ⟨e1, s1⟩ := r1
 cases e1 with
 | exit id => have := sel_leaf h2; cases this
 | ret => have := sel_leaf h2; cases this
 | normal =>
  simp only at h2
  refine wpIn_seq ((aexec_in hx hc (n + 1) A hA hp h1 hS hW hW0 h0 ?_).1)
  intro a1 w1 ρ1 k1 k2 k3 k4
  unfold aexec at h2
  simp only at h2
  obtain ⟨r2, pc2, hp2, h3, h4⟩ := sel_bind hp1 h2
  obtain ⟨e2, s2⟩ := r2
  cases e2 with
  | exit id => have := sel_leaf h4; cases this
  | ret => have := sel_leaf h4; cases this
  | normal =>
   simp only at h4
   have g1 : Gr W w1 := Below.trans hW (Below.mono k3 hW0)
   have s1 : w0.heap.size ≤ w1.heap.size := Nat.le_trans h0 k3.size
   refine wpIn_seq ((aexec_in hx hc n B hB hp1 h3 k2 g1 hW0 s1 ?_).1)
   intro a2 w2 ρ2 q1 q2 q3 q4
   have g2 : Gr W w2 := Below.trans g1 (Below.mono q3 hW0)
   have s2 : w0.heap.size ≤ w2.heap.size := Nat.le_trans s1 q3.size
   refine wpIn_seq ((aexec_in hx hc n C hC hp2 h4 q2 g2 hW0 s2 ?_).1)
   intro a3 w3 ρ3 z1 z2 z3 z4
   exact hD a3 w3 ρ3 (k1.trans (q1.trans z1)) z2 (k3.trans (q3.trans z3)) (z4.trans (q4.trans k4))
theorem store_in {l m id : Nat} {o : Oper} {t : TypeId} {x y : Operand} {a : Act} {w : World} {Q : Exit → Act → World → Prop} (hgd : o.guard = none) (hop : o.op = .store t x y)
  {b : Nat} {T : TypeId} {V old : Value} (hs : (Go.sizeOf t).run P w = .ok 1 w) (hx : a.eval x = .pointer (some ⟨b, 0, none⟩)) (hv : a.eval y = V) (hc : V.cells = #[V]) (h1 : V.oneCell' = true) (hb : Mt.Bx w b T [old])
  (hK : ∀ w', Mt.Bx w' b T [V] → Mt.Ks (fun k => k = b) w w' → Q .normal (a.put o.dst undef) w') : (Code.region id #[o] false).wpIn (Fence.wide.inRound l) m P Q a w := by
 refine wpIn_mono (Q := norm Q) ?_ (fun e a w h => by cases e <;> first | exact h | exact h.elim)
 refine wpIn_region_list (list_in (norm_out Q) [o] ?_ ?_)
 ·simp [isDef, hop]
 ·have h := wpOp_store (P := P) (ops := #[o]) (Q := norm Q) (i := 0) (K := fun a w => Q .normal a w) (a := a) (w := w) rfl hgd hop hs hx hv hc h1 hb hK
  exact h
end
theorem results_cell1 {P : Program} {fn : Func} {q : Tmp} {ty : TypeId} (h : fn.results = #[.cell q ty]) {tmps : Array Value} {w : World} {b : Nat} {T : TypeId} {v : Value} {ti : TI} (ht : TyOk P ty ti) (ha : ti.agg = false)
  (hp : tmps.getD q undef = .pointer (some ⟨b, 0, none⟩)) (hb : Mt.Bx w b T [v]) : (results fn tmps).run P w = .ok v w := by
 have h1 : (loadVar ty ⟨b, 0, none⟩).run P w = .ok v w := run_loadVar_one ht ha (vs := #[v]) hb rfl
 simp only [results, h]
 have hp2 : tmps[q]?.getD undef = .pointer (some ⟨b, 0, none⟩) := by rw [← hp]; simp
 simp [Sem.run_bind, hp2, asAddr, h1, Result.andThen]
theorem code_eq {F : Fence} {n : Nat} {P : Program} {c c' : Code} {Q : Exit → Act → World → Prop} {a : Act} {w : World} (e : c' = c) (h : c'.wpIn F n P Q a w) : c.wpIn F n P Q a w := e ▸ h
def findR (id : Nat) : Code → Option (List Oper)
 | .region i ops _ => if i = id then some ops.toList else none
 | .seq x y => (findR id x).or (findR id y)
 | .cond _ x y => (findR id x).or (findR id y)
 | .block _ x => findR id x
 | .loop x => findR id x
 | .rangeFunc _ _ x y => (findR id x).or (findR id y)
 | _ => none
def regionOf (f : Func) (id : Nat) : List Oper := ((f.body.bind (findR id)).getD [])
end Go.Proofs.YtlfoglklibhbnaaGreat.Sx
