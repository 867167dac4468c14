/- Rows as raw values: contracts whose arguments are named numbers, structs of them, raw values; the rest of a body, reckoned. -/
import Derived.Test.YtlfoglklibhbnaaGreatC0
set_option linter.unusedVariables false
namespace Go.Proofs.YtlfoglklibhbnaaGreat.Sx
open Go.RowKit

def Er (rs : List Value) : Env := { E with rv := fun n => rs.getD n undef }
theorem conv {f : Nat} {sh : List Sh} {F F' : List Int → Value} {rs : List Value} {G : List Int → Prop} (h : ∀ W, Flat Tryz.prog E W G f sh F) (hs : noSl sh = true) (e : ∀ l, F l = F' l) (hG : ∀ l, G l) (W : World) : Flat Tryz.prog (Er rs) W G f sh F' :=
  flat_calls hs fun l w hl hI => (flat_run (h w) hs l hl (hG l)).mono fun e' w' h => ⟨by rw [h.1, e], h.2⟩

inductive Pt where
  | i (k : Nat)
  | g (k n : Nat)
  | r (n : Nat)
def varIs : Nat → SE → Bool
  | k, .var j => Nat.beq k j
  | _, _ => false
def varsAre : Nat → List AV → Nat → Bool
  | _, [], 0 => true
  | i, .int e :: l, n + 1 => varIs i e && varsAre (i + 1) l n
  | _, _, _ => false
def ptIs : List Pt → List AV → Bool
  | [], [] => true
  | .i k :: p, .int e :: vs => varIs k e && ptIs p vs
  | .g k n :: p, .agg l :: vs => varsAre k l n && ptIs p vs
  | .r n :: p, .raw m :: vs => Nat.beq n m && ptIs p vs
  | _, _ => false
def varVals (σ : Env) : Nat → Nat → List Value
  | _, 0 => []
  | k, n + 1 => .int .i64 (σ.v k) :: varVals σ (k + 1) n
def ptV (σ : Env) : Pt → Value
  | .i k => .int .i64 (σ.v k)
  | .g k n => .agg (varVals σ k n).toArray
  | .r n => σ.rv n
def ptCon (f : Nat) (pat : List Pt) (r : AV) : Con := ⟨f, fun vs _ => bif ptIs pat vs then some r else none⟩

theorem varIs_ok {k : Nat} {e : SE} (h : varIs k e = true) : e = .var k := by
  cases e <;> simp only [varIs, Bool.false_eq_true] at h
  rw [Nat.eq_of_beq_eq_true h]
theorem varsAre_ok {σ : Env} {ρ : Nat → Option Nat} : ∀ {l : List AV} {i n : Nat} {us : List Value}, varsAre i l n = true → relL σ ρ l us → us = varVals σ i n
  | [], i, 0, us, _, h => h
  | [], i, n + 1, us, h, _ => by simp [varsAre] at h
  | v :: l, i, 0, us, h, _ => by cases v <;> simp [varsAre] at h
  | v :: l, i, n + 1, us, h, hr => by
    cases v <;> simp only [varsAre, Bool.false_eq_true, Bool.and_eq_true] at h
    obtain ⟨u, us', rfl, h1, h2⟩ := hr
    have e := varIs_ok h.1
    subst e
    rw [varsAre_ok h.2 h2, show u = _ from h1]; rfl
theorem ptIs_ok {σ : Env} {ρ : Nat → Option Nat} : ∀ {p : List Pt} {vs : List AV} {us : List Value}, ptIs p vs = true → relL σ ρ vs us → us = p.map (ptV σ)
  | [], [], us, _, h => h
  | [], _ :: _, us, h, _ => by simp [ptIs] at h
  | x :: p, [], us, h, _ => by cases x <;> simp [ptIs] at h
  | x :: p, v :: vs, us, h, hr => by
    obtain ⟨u, us', rfl, h1, h2⟩ := hr
    cases x <;> cases v <;> simp only [ptIs, Bool.false_eq_true, Bool.and_eq_true] at h
    · have e := varIs_ok h.1
      subst e
      rw [ptIs_ok h.2 h2, show u = _ from h1]; rfl
    · obtain ⟨xs, rfl, hxs⟩ := h1
      rw [ptIs_ok h.2 h2]
      simp only [List.map_cons, ptV]
      rw [← varsAre_ok h.1 hxs]
    · rename_i n m
      obtain rfl := Nat.eq_of_beq_eq_true h.1
      rw [ptIs_ok h.2 h2, h1.1]; rfl
theorem ptCon_ok {P : Program} {σ : Env} {W : World} {f : Nat} {pat : List Pt} {r : AV} (h : ∀ w ρ, Gr W w → Calls P f (pat.map (ptV σ)).toArray w fun e w' => ∃ u, e = .returned u ∧ rel σ ρ r u ∧ Gr w w') : ConOk P σ W (ptCon f pat r) := by
  intro vs hp r' us ρ w0 w hr hW hW0 hv hH
  simp only [ptCon] at hr
  cases hb : ptIs pat vs
  · rw [hb] at hr; cases hr
  · rw [hb] at hr
    simp only [cond_true, Option.some.injEq] at hr
    subst hr
    rw [ptIs_ok hb hv]
    exact h w ρ hW

def tailC : Nat → Code → Code
  | 0, c => c
  | n + 1, .seq _ b => tailC n b
  | _, c => c
def lookT (k : Nat) (r : Ex × St) : Bool × Option AV := (match r.1 with | .ret => true | _ => false, r.2.tm[k]?)
theorem relL_any {σ : Env} {ρ : Nat → Option Nat} : ∀ (n : Nat) (us : List Value), us.length = n → relL σ ρ (List.replicate n .any) us
  | 0, us, h => List.eq_nil_of_length_eq_zero h
  | n + 1, [], h => by cases h
  | n + 1, u :: us, h => ⟨u, us, rfl, trivial, relL_any n us (by simpa using h)⟩
theorem split_at' {t l : List Value} {n m : Nat} (h : t.take n = l) (hl : t.length = n + m) : t = l ++ t.drop n ∧ (t.drop n).length = m :=
  ⟨by rw [← h, List.take_append_drop], by simp [hl]⟩
/-- The rest of a body that returns 'true' in a temporary. -/
theorem rest_run {P : Program} {σ : Env} {cx : Cx} {w w1 : World} (hx : CxOk P σ w1 cx) {code : Code} {st : St} {k : Nat} {fn : Func} {e : SE} {a : Act} {ρ : Nat → Option Nat} (hres : fn.results.toList = [.tmp k])
    (hk : (aexec cx (acall cx 18) 100000 code [] st).map (lookT k) = .leaf (true, some (.bool e))) (he : σ.b e = true) (hS : SRel σ ρ st a w1 w1) (hg : Gr w w1) (hd : a.defers = []) :
    code.wp P (bodyPost P fn fun e w' => e = .returned (.bool true) ∧ Gr w w') a w1 := by
  have hk2 : ((aexec cx (acall cx 18) 100000 code [] st).map (lookT k)).sel σ = some (true, some (.bool e)) := by rw [hk]; rfl
  obtain ⟨r, h1, h2⟩ := sel_map hk2
  refine (aexec_sound hx (acall_sound hx 18) 100000 code (pcOk.nil _) h1 hS (Gr.refl _) (Nat.le_refl _) (Nat.le_refl _) ?_).1
  intro a' w' ρ' k1 k2 k3 k4
  obtain ⟨ex, s'⟩ := r
  simp only [lookT, Prod.mk.injEq] at h2
  obtain ⟨h3, h4⟩ := h2
  cases ex with
  | normal => cases h3
  | exit id => cases h3
  | ret =>
    have ha : aresult cx s' fn.results.toList = some [.bool e] := by
      rw [hres]; simp [aresult, h4]
    obtain ⟨u, u1, u2⟩ := results_ok hx k2 ha
    have u3 : u = .bool (σ.b e) := u2
    rw [he] at u3
    subst u3
    exact ⟨by rw [k4, hd], _, u1, rfl, hg.trans k3⟩

/- Boxes laid side by side. -/
def allocL (w : World) : List Obj → World
  | [] => w
  | o :: l => allocL (w.alloc o) l
theorem allocL_gr : ∀ (l : List Obj) (w : World), Gr w (allocL w l)
  | [], w => Gr.refl w
  | o :: l, w => ((Gr.refl w).alloc o).trans (allocL_gr l _)
theorem allocL_size : ∀ (l : List Obj) (w : World), (allocL w l).heap.size = w.heap.size + l.length
  | [], w => rfl
  | o :: l, w => by
    have h := allocL_size l (w.alloc o)
    have e : (w.alloc o).heap.size = w.heap.size + 1 := by simp
    simp only [allocL, List.length_cons]
    omega
theorem allocL_get : ∀ (l : List Obj) (w : World) (i : Nat) (o : Obj), l[i]? = some o → (allocL w l).heap[w.heap.size + i]? = some o
  | [], w, i, o, h => by simp at h
  | a :: l, w, 0, o, h => by
    simp only [List.getElem?_cons_zero, Option.some.injEq] at h; subst h
    show (allocL (w.alloc a) l).heap[w.heap.size]? = some a
    rw [Below.block (allocL_gr l (w.alloc a)) w.heap.size (by simp)]
    exact (MapKept.heap_alloc w _).1
  | a :: l, w, i + 1, o, h => by
    have e : (w.alloc a).heap.size = w.heap.size + 1 := by simp
    have := allocL_get l (w.alloc a) i o (by simpa using h)
    rw [e] at this
    rw [show w.heap.size + (i + 1) = w.heap.size + 1 + i by omega]
    exact this
def seqRho (n m : Nat) (i : Nat) : Option Nat := if i < m then some (n + i) else none
/-- Each box holds its numbers. -/
def boxesRel (σ : Env) (ρ : Nat → Option Nat) : List (Nat × Nat × TypeId) → List Obj → Prop
  | [], [] => True
  | b :: bs, o :: os => (∃ vs, o = .cells vs b.2.2 (0, 0) ∧ relL σ ρ (vars b.1 b.2.1) vs.toList) ∧ boxesRel σ ρ bs os
  | _, _ => False
def boxesHp (bs : List (Nat × Nat × TypeId)) : Hp := bs.map fun b => some ⟨vars b.1 b.2.1, b.2.2, false⟩
theorem boxesRel_get {σ : Env} {ρ : Nat → Option Nat} : ∀ {bs : List (Nat × Nat × TypeId)} {os : List Obj}, boxesRel σ ρ bs os → bs.length = os.length ∧ ∀ (i : Nat) b, bs[i]? = some b → ∃ vs, os[i]? = some (.cells vs b.2.2 (0, 0)) ∧ relL σ ρ (vars b.1 b.2.1) vs.toList
  | [], [], _ => ⟨rfl, fun i b h => by simp at h⟩
  | [], _ :: _, h => h.elim
  | _ :: _, [], h => h.elim
  | b :: bs, o :: os, h => by
    obtain ⟨⟨vs, rfl, h1⟩, h2⟩ := h
    obtain ⟨h3, h4⟩ := boxesRel_get h2
    refine ⟨by simp [h3], fun i c hc => ?_⟩
    cases i with
    | zero => simp only [List.getElem?_cons_zero, Option.some.injEq] at hc; subst hc; exact ⟨vs, rfl, h1⟩
    | succ i => simp only [List.getElem?_cons_succ] at hc ⊢; exact h4 i c hc
theorem boxes_hrel {σ : Env} {w w1 : World} {bs : List (Nat × Nat × TypeId)} {os : List Obj} (h : boxesRel σ (seqRho w.heap.size bs.length) bs os) (hg : Gr (allocL w os) w1) : HRel σ (seqRho w.heap.size bs.length) (boxesHp bs) w1 w1 := by
  obtain ⟨hl, hget⟩ := boxesRel_get h
  have hsz := allocL_size os w
  refine ⟨fun n B hn => ?_, fun n m b h1 h2 => ?_, fun n b h1 => ?_⟩
  · simp only [boxesHp, List.getElem?_map, Option.map_eq_some_iff] at hn
    obtain ⟨b, hb, hB⟩ := hn
    simp only [Option.some.injEq] at hB; subst hB
    obtain ⟨vs, hv, hr⟩ := hget n b hb
    have hlt : n < os.length := (List.getElem?_eq_some_iff.1 hv).1
    refine ⟨w.heap.size + n, vs, by simp [seqRho, hl, hlt], ?_, hr, fun h => by cases h⟩
    rw [Below.block hg (w.heap.size + n) (by omega)]
    exact allocL_get os w n _ hv
  · unfold seqRho at h1 h2
    split at h1 <;> split at h2 <;> simp_all <;> omega
  · unfold seqRho at h1
    split at h1
    · simp only [Option.some.injEq] at h1
      have := hg.size
      omega
    · cases h1
theorem wp_tail3 {P : Program} {A B C R : Code} {Q : Exit → Act → World → Prop} {a : Act} {w : World} (K : Act → World → Prop)
    (h1 : ∀ R', (∀ a w, K a w → R'.wp P Q a w) → (A.seq (B.seq (C.seq R'))).wp P Q a w) (h2 : ∀ a w, K a w → R.wp P Q a w) : (A.seq (B.seq (C.seq R))).wp P Q a w := h1 R h2
theorem wp_tail2 {P : Program} {A B R : Code} {Q : Exit → Act → World → Prop} {a : Act} {w : World} (K : Act → World → Prop)
    (h1 : ∀ R', (∀ a w, K a w → R'.wp P Q a w) → (A.seq (B.seq R')).wp P Q a w) (h2 : ∀ a w, K a w → R.wp P Q a w) : (A.seq (B.seq R)).wp P Q a w := h1 R h2
end Go.Proofs.YtlfoglklibhbnaaGreat.Sx
