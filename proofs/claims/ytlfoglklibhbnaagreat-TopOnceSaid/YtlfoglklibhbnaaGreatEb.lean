/- The reckoner: its expressions, trees and values, and what they stand for. -/
import Derived.Test.YtlfoglklibhbnaaGreatEa

set_option linter.unusedVariables false
namespace Go.Proofs.YtlfoglklibhbnaaGreat.Sx

theorem SE.same_eq : ∀ {a b : SE}, a.same b = true → a = b := by
  intro a
  induction a <;> intro b h <;> cases b <;> simp_all [SE.same] <;> (try (simp only [Nat.beq_eq_true_eq] at h; simp_all)) <;> grind

section
variable (σ : Env)
theorem i_add (a b : SE) : σ.i (mkAdd a b) = IntKind.i64.wrap (σ.i a + σ.i b) := by unfold mkAdd; split <;> rfl
theorem i_sub (a b : SE) : σ.i (mkSub a b) = IntKind.i64.wrap (σ.i a - σ.i b) := by unfold mkSub; split <;> rfl
theorem i_mul (a b : SE) : σ.i (mkMul a b) = IntKind.i64.wrap (σ.i a * σ.i b) := by unfold mkMul; split <;> rfl
theorem i_quo (a b : SE) : σ.i (mkQuo a b) = IntKind.i64.wrap ((σ.i a).tdiv (σ.i b)) := by unfold mkQuo; split <;> rfl
theorem i_rem (a b : SE) : σ.i (mkRem a b) = (σ.i a).tmod (σ.i b) := by unfold mkRem; split <;> rfl
theorem b_no (a : SE) : σ.b (mkNo a) = !σ.b a := by
  unfold mkNo; split
  · rfl
  · simp [Env.b, den]
  · rfl
theorem b_ite (c t e : SE) : σ.b (mkIteB c t e) = if σ.b c then σ.b t else σ.b e := by
  unfold mkIteB; split
  · rename_i b; cases b <;> rfl
  · split
    · simp [Env.b, den]
    · simp only [b_no]; simp [Env.b, den]
    · simp [Env.b, den]
    · simp [Env.b, den]
    · rfl
theorem i_ite (c t e : SE) : σ.i (mkIteI c t e) = if σ.b c then σ.i t else σ.i e := by
  unfold mkIteI; split
  · rename_i b; cases b <;> rfl
  · cases h : t.same e
    · rfl
    · have := SE.same_eq h; subst this; simp
theorem b_self (op : Int → Int → Bool) (raw : SE → SE → SE) (h : ∀ a b, σ.b (raw a b) = op (σ.i a) (σ.i b)) (hr : ∀ x, op x x = op 0 0) (a b : SE) : σ.b (selfCmp op raw a b) = op (σ.i a) (σ.i b) := by
  unfold selfCmp
  cases hs : a.same b
  · exact h _ _
  · have := SE.same_eq hs; subst this
    exact (hr _).symm
theorem b_cmp (op : Int → Int → Bool) (raw : SE → SE → SE) (h : ∀ a b, σ.b (raw a b) = op (σ.i a) (σ.i b)) (hr : ∀ x, op x x = op 0 0) (a b : SE) : σ.b (cmpLit op raw a b) = op (σ.i a) (σ.i b) := by
  unfold cmpLit; split
  · rfl
  · rw [b_ite]; simp only [Env.i, Env.b, den]; split <;> rfl
  · rw [b_ite]; simp only [Env.i, Env.b, den]; split <;> rfl
  · simp only [b_ite]; simp only [Env.i, Env.b, den]; split <;> (try split) <;> rfl
  · simp only [b_ite]; simp only [Env.i, Env.b, den]; split <;> (try split) <;> rfl
  · exact b_self σ op raw h hr _ _
theorem b_eq (a b : SE) : σ.b (mkEq a b) = (σ.i a == σ.i b) := b_cmp σ _ _ (fun _ _ => rfl) (fun x => by simp) a b
theorem b_lt (a b : SE) : σ.b (mkLt a b) = decide (σ.i a < σ.i b) := b_cmp σ _ _ (fun _ _ => rfl) (fun x => by simp) a b
theorem b_le (a b : SE) : σ.b (mkLe a b) = decide (σ.i a ≤ σ.i b) := b_cmp σ _ _ (fun _ _ => rfl) (fun x => by simp) a b
end

/- Ways. -/
def pcOk (σ : Env) (pc : Pc) : Prop := ∀ p ∈ pc, σ.b p.1 = p.2
theorem pcOk.nil (σ : Env) : pcOk σ [] := fun _ h => by cases h
theorem pcOk.cons {σ : Env} {pc : Pc} (h : pcOk σ pc) {g : SE} {b : Bool} (hg : σ.b g = b) : pcOk σ ((g, b) :: pc) :=
  List.forall_mem_cons.2 ⟨hg, h⟩
theorem known_ok {σ : Env} {g : SE} {b : Bool} : ∀ {pc : Pc}, pcOk σ pc → known g pc = some b → σ.b g = b
  | [], _, h => by simp [known] at h
  | (h', b') :: rest, hp, h => by
    unfold known at h
    cases hs : h'.same g
    · simp only [hs, cond_false] at h
      exact known_ok (List.forall_mem_cons.1 hp).2 h
    · simp only [hs, cond_true] at h
      have := SE.same_eq hs; subst this
      simp at h; subst h
      exact (List.forall_mem_cons.1 hp).1

theorem sel_bind {α β : Type} {σ : Env} {k : Pc → α → Tree β} {b : β} : ∀ {t : Tree α} {pc : Pc}, pcOk σ pc → (t.bind pc k).sel σ = some b →
    ∃ a pc', pcOk σ pc' ∧ t.sel σ = some a ∧ (k pc' a).sel σ = some b
  | .leaf a, pc, hp, h => ⟨a, pc, hp, rfl, h⟩
  | .fail, pc, hp, h => by simp [Tree.bind, Tree.sel] at h
  | .node g t f, pc, hp, h => by
    simp only [Tree.bind, Tree.sel] at h
    cases hg : σ.b g
    · simp only [hg, Bool.false_eq_true, if_false] at h
      obtain ⟨a, pc', h1, h2, h3⟩ := sel_bind (hp.cons hg) h
      exact ⟨a, pc', h1, by simp [Tree.sel, hg, h2], h3⟩
    · simp only [hg, if_true] at h
      obtain ⟨a, pc', h1, h2, h3⟩ := sel_bind (hp.cons hg) h
      exact ⟨a, pc', h1, by simp [Tree.sel, hg, h2], h3⟩

theorem sel_map {α β : Type} {σ : Env} {f : α → β} {b : β} : ∀ {t : Tree α}, (t.map f).sel σ = some b → ∃ a, t.sel σ = some a ∧ f a = b
  | .leaf a, h => ⟨a, rfl, by simpa [Tree.map, Tree.sel] using h⟩
  | .fail, h => by simp [Tree.map, Tree.sel] at h
  | .node g t s, h => by
    simp only [Tree.map, Tree.sel] at h
    cases hg : σ.b g
    · simp only [hg, Bool.false_eq_true, if_false] at h
      obtain ⟨a, h1, h2⟩ := sel_map h
      exact ⟨a, by simp [Tree.sel, hg, h1], h2⟩
    · simp only [hg, if_true] at h
      obtain ⟨a, h1, h2⟩ := sel_map h
      exact ⟨a, by simp [Tree.sel, hg, h1], h2⟩

theorem sel_part {β : Type} {σ : Env} {pc : Pc} {g : SE} {k : Pc → Bool → Tree β} {b : β} (hp : pcOk σ pc) (h : (part pc g k).sel σ = some b) :
    ∃ pc', pcOk σ pc' ∧ (k pc' (σ.b g)).sel σ = some b := by
  unfold part at h
  split at h
  · exact ⟨pc, hp, h⟩
  · rename_i g
    split at h
    · rename_i b' hk
      have := known_ok hp hk
      refine ⟨pc, hp, ?_⟩
      have e : σ.b (.no g) = !b' := by simp only [Env.b, den] at *; rw [this]
      rw [e]; exact h
    · simp only [Tree.sel] at h
      cases hg : σ.b g
      · simp only [hg, Bool.false_eq_true, if_false] at h
        refine ⟨_, hp.cons hg, ?_⟩
        have e : σ.b (.no g) = true := by simp only [Env.b, den] at *; rw [hg]; rfl
        rw [e]; exact h
      · simp only [hg, if_true] at h
        refine ⟨_, hp.cons hg, ?_⟩
        have e : σ.b (.no g) = false := by simp only [Env.b, den] at *; rw [hg]; rfl
        rw [e]; exact h
  · split at h
    · rename_i b' hk
      have := known_ok hp hk
      exact ⟨pc, hp, by rw [this]; exact h⟩
    · simp only [Tree.sel] at h
      cases hg : σ.b g
      · simp only [hg, Bool.false_eq_true, if_false] at h
        exact ⟨_, hp.cons hg, h⟩
      · simp only [hg, if_true] at h
        exact ⟨_, hp.cons hg, h⟩

theorem sel_needLeaf {α : Type} {σ : Env} {h : SE} {c d : α} (hs : (needLeaf h c).sel σ = some d) : σ.b h = true ∧ c = d := by
  unfold needLeaf at hs
  split at hs
  · exact ⟨rfl, by simpa [Tree.sel] using hs⟩
  · simp only [Tree.sel] at hs
    cases hb : σ.b h
    · simp [hb] at hs
    · simp only [hb, if_true, Option.some.injEq] at hs; exact ⟨rfl, hs⟩
theorem asLeaf_sel {α : Type} {σ : Env} {t : Tree α} {p : SE × α} (h : asLeaf t = some p) (hp : σ.b p.1 = true) : t.sel σ = some p.2 := by
  unfold asLeaf at h
  split at h
  · simp only [Option.some.injEq] at h; subst h; rfl
  · split at h
    · simp only [Option.some.injEq] at h; subst h
      simp only [Tree.sel]; rw [if_pos hp]
    · simp only [Option.some.injEq] at h; subst h
      rw [b_no] at hp
      simp only [Tree.sel]
      rw [if_neg (by simpa using hp)]
    · cases h
  · cases h

/-- A joined leaf is good for whatever the taken one was good for. -/
theorem sel_joinTwo {α : Type} {σ : Env} {j : SE → α → α → Option α} (R : α → Prop)
    (hj : ∀ g a b c, j g a b = some c → R (if σ.b g then a else b) → R c) {g : SE} {t f : Tree α} {c : α} (h : (joinTwo j g t f).sel σ = some c) :
    ∃ a, (if σ.b g then t.sel σ else f.sel σ) = some a ∧ (R a → R c) := by
  have plain : (Tree.node g t f).sel σ = some c → ∃ a, (if σ.b g then t.sel σ else f.sel σ) = some a ∧ (R a → R c) := fun h => ⟨c, h, id⟩
  unfold joinTwo at h
  split at h
  · rename_i p q hp hq
    split at h
    · rename_i c' hc
      obtain ⟨h1, rfl⟩ := sel_needLeaf h
      rw [b_ite] at h1
      refine ⟨if σ.b g then p.2 else q.2, ?_, fun hr => hj g _ _ _ hc hr⟩
      cases hg : σ.b g
      · rw [hg] at h1
        simp only [Bool.false_eq_true, if_false] at h1 ⊢
        exact asLeaf_sel hq h1
      · rw [hg] at h1
        simp only [if_true] at h1 ⊢
        exact asLeaf_sel hp h1
    · exact plain h
  · rename_i p hp hq
    cases hf : isFail f
    · rw [hf] at h; exact plain h
    · rw [hf] at h
      simp only [cond_true] at h
      obtain ⟨h1, rfl⟩ := sel_needLeaf h
      rw [b_ite] at h1
      cases hg : σ.b g
      · rw [hg] at h1; cases h1
      · rw [hg] at h1
        simp only [if_true] at h1 ⊢
        exact ⟨p.2, asLeaf_sel hp h1, id⟩
  · rename_i q hp hq
    cases hf : isFail t
    · rw [hf] at h; exact plain h
    · rw [hf] at h
      simp only [cond_true] at h
      obtain ⟨h1, rfl⟩ := sel_needLeaf h
      rw [b_ite] at h1
      cases hg : σ.b g
      · rw [hg] at h1
        simp only [Bool.false_eq_true, if_false] at h1 ⊢
        exact ⟨q.2, asLeaf_sel hq h1, id⟩
      · rw [hg] at h1; cases h1
  · exact plain h
theorem sel_join {α : Type} {σ : Env} {j : SE → α → α → Option α} (R : α → Prop)
    (hj : ∀ g a b c, j g a b = some c → R (if σ.b g then a else b) → R c) :
    ∀ {t : Tree α} {c : α}, (t.join j).sel σ = some c → ∃ a, t.sel σ = some a ∧ (R a → R c)
  | .leaf a, c, h => ⟨a, rfl, by simp only [Tree.join, Tree.sel, Option.some.injEq] at h; subst h; exact id⟩
  | .fail, c, h => by simp [Tree.join, Tree.sel] at h
  | .node g t f, c, h => by
    unfold Tree.join at h
    obtain ⟨a, h1, h2⟩ := sel_joinTwo R hj h
    simp only [Tree.sel]
    cases hg : σ.b g
    · simp only [hg, Bool.false_eq_true, if_false] at h1 ⊢
      obtain ⟨b, h3, h4⟩ := sel_join R hj h1
      exact ⟨b, h3, fun hb => h2 (h4 hb)⟩
    · simp only [hg, if_true] at h1 ⊢
      obtain ⟨b, h3, h4⟩ := sel_join R hj h1
      exact ⟨b, h3, fun hb => h2 (h4 hb)⟩

theorem sel_ofOption {β : Type} {σ : Env} {o : Option β} {b : β} (h : (ofOption o).sel σ = some b) : o = some b := by
  cases o <;> simp [ofOption, Tree.sel] at h ⊢; exact h
theorem sel_val' {σ : Env} {o : Option AV} {e : Eff} (h : (val' o).sel σ = some e) : ∃ v, o = some v ∧ e = .val v := by
  have := sel_ofOption h
  cases o <;> simp at this ⊢; exact this.symm
theorem sel_leaf {β : Type} {σ : Env} {a b : β} (h : (Tree.leaf a).sel σ = some b) : a = b := by simpa [Tree.sel] using h
theorem sel_fail {β : Type} {σ : Env} {b : β} (h : (Tree.fail : Tree β).sel σ = some b) : False := by simp [Tree.sel] at h

theorem sel_among_go {β : Type} {σ : Env} {e : SE} {n : Nat} {k : Pc → Nat → Tree β} {b : β} : ∀ (m i : Nat) {pc : Pc}, pcOk σ pc → (among.go pc e n i m k).sel σ = some b →
    ∃ (pc' : Pc) (j : Nat), pcOk σ pc' ∧ σ.i e = (j : Int) ∧ i ≤ j ∧ j < i + m ∧ (k pc' j).sel σ = some b
  | 0, i, pc, hp, h => by simp [among.go, Tree.sel] at h
  | m + 1, i, pc, hp, h => by
    unfold among.go at h
    obtain ⟨pc', hp', h⟩ := sel_part hp h
    rw [b_eq] at h
    have e1 : σ.i (.lit (i : Int)) = i := rfl
    rw [e1] at h
    cases hc : (σ.i e == (i : Int))
    · simp only [hc, cond_false] at h
      obtain ⟨pc', j, h1, h2, h3, h4, h5⟩ := sel_among_go m (i + 1) hp' h
      exact ⟨pc', j, h1, h2, by omega, by omega, h5⟩
    · simp only [hc, cond_true] at h
      exact ⟨pc', i, hp', by simpa using hc, by omega, by omega, h⟩
theorem sel_among {β : Type} {σ : Env} {e : SE} {n : Nat} {k : Pc → Nat → Tree β} {b : β} {pc : Pc} (hp : pcOk σ pc) (h : (among pc e n k).sel σ = some b) :
    ∃ (pc' : Pc) (j : Nat), pcOk σ pc' ∧ σ.i e = (j : Int) ∧ j < n ∧ (k pc' j).sel σ = some b := by
  unfold among at h
  split at h
  · rename_i i
    cases hc : (decide (0 ≤ i) && decide (i < (n : Int)))
    · simp only [hc, cond_false] at h; exact (sel_fail h).elim
    · simp only [hc, cond_true] at h
      simp only [Bool.and_eq_true, decide_eq_true_eq] at hc
      exact ⟨pc, i.toNat, hp, by show i = _; omega, by omega, h⟩
  · obtain ⟨pc', j, h1, h2, h3, h4, h5⟩ := sel_among_go n 0 hp h
    exact ⟨pc', j, h1, h2, by omega, h5⟩

/- Values. -/
def oneV : Value → Bool
  | .agg _ | .tuple _ => false
  | _ => true
mutual
def rel (σ : Env) (ρ : Nat → Option Nat) : AV → Value → Prop
  | .int e, v => v = .int .i64 (σ.i e)
  | .bool e, v => v = .bool (σ.b e)
  | .ptr none, v => v = .pointer none
  | .ptr (some (n, o)), v => ∃ b, ρ n = some b ∧ v = .pointer (some ⟨b, o, none⟩)
  | .slice none l c, v => v = .slice none l c
  | .slice (some (n, o)) l c, v => ∃ b, ρ n = some b ∧ v = .slice (some ⟨b, o, none⟩) l c
  | .func fn f c, v => ∃ fs cs, v = .func fn fs cs ∧ relL σ ρ f fs.toList ∧ relL σ ρ c cs.toList
  | .nilFunc, v => v = .nilFunc
  | .agg l, v => ∃ vs, v = .agg vs ∧ relL σ ρ l vs.toList
  | .tuple l, v => ∃ vs, v = .tuple vs ∧ relL σ ρ l vs.toList
  | .raw i, v => v = σ.rv i ∧ oneV v = true
  | .any, _ => True
def relL (σ : Env) (ρ : Nat → Option Nat) : List AV → List Value → Prop
  | [], vs => vs = []
  | x :: xs, vs => ∃ v vs', vs = v :: vs' ∧ rel σ ρ x v ∧ relL σ ρ xs vs'
end

def sub (ρ ρ' : Nat → Option Nat) : Prop := ∀ n b, ρ n = some b → ρ' n = some b
theorem sub.refl (ρ : Nat → Option Nat) : sub ρ ρ := fun _ _ h => h
theorem sub.trans {a b c : Nat → Option Nat} (h : sub a b) (k : sub b c) : sub a c := fun n x hx => k n x (h n x hx)

mutual
theorem rel_mono {σ : Env} {ρ ρ' : Nat → Option Nat} (hs : sub ρ ρ') : ∀ (x : AV) (v : Value), rel σ ρ x v → rel σ ρ' x v
  | .int e, v, h => h
  | .bool e, v, h => h
  | .ptr none, v, h => h
  | .ptr (some (n, o)), v, h => let ⟨b, h1, h2⟩ := h; ⟨b, hs _ _ h1, h2⟩
  | .slice none l c, v, h => h
  | .slice (some (n, o)) l c, v, h => let ⟨b, h1, h2⟩ := h; ⟨b, hs _ _ h1, h2⟩
  | .func fn f c, v, h => let ⟨fs, cs, h1, h2, h3⟩ := h; ⟨fs, cs, h1, relL_mono hs f _ h2, relL_mono hs c _ h3⟩
  | .nilFunc, v, h => h
  | .agg l, v, h => let ⟨vs, h1, h2⟩ := h; ⟨vs, h1, relL_mono hs l _ h2⟩
  | .tuple l, v, h => let ⟨vs, h1, h2⟩ := h; ⟨vs, h1, relL_mono hs l _ h2⟩
  | .raw i, v, h => h
  | .any, v, h => h
theorem relL_mono {σ : Env} {ρ ρ' : Nat → Option Nat} (hs : sub ρ ρ') : ∀ (xs : List AV) (vs : List Value), relL σ ρ xs vs → relL σ ρ' xs vs
  | [], vs, h => h
  | x :: xs, vs, h => let ⟨v, vs', h1, h2, h3⟩ := h; ⟨v, vs', h1, rel_mono hs x v h2, relL_mono hs xs vs' h3⟩
end

section
variable {σ : Env} {ρ : Nat → Option Nat}
theorem relL_nil : relL σ ρ [] [] := rfl
theorem relL_cons {x : AV} {xs : List AV} {v : Value} {vs : List Value} : relL σ ρ (x :: xs) (v :: vs) ↔ rel σ ρ x v ∧ relL σ ρ xs vs :=
  ⟨fun h => by obtain ⟨a, b, h1, h2, h3⟩ := h; injection h1 with h4 h5; subst h4; subst h5; exact ⟨h2, h3⟩, fun h => ⟨v, vs, rfl, h.1, h.2⟩⟩
theorem relL_length : ∀ {xs : List AV} {vs : List Value}, relL σ ρ xs vs → xs.length = vs.length
  | [], vs, h => by have : vs = [] := h; subst this; rfl
  | x :: xs, vs, h => by obtain ⟨v, vs', rfl, _, h3⟩ := h; simp [relL_length h3]
theorem relL_get : ∀ {xs : List AV} {vs : List Value}, relL σ ρ xs vs → ∀ (i : Nat) (x : AV), xs[i]? = some x → ∃ v, vs[i]? = some v ∧ rel σ ρ x v
  | [], vs, h, i, x, hx => by simp at hx
  | y :: xs, vs, h, i, x, hx => by
    obtain ⟨v, vs', rfl, h2, h3⟩ := h
    cases i with
    | zero => simp at hx; subst hx; exact ⟨v, rfl, h2⟩
    | succ i => simp at hx; simpa using relL_get h3 i x hx
theorem relL_append : ∀ {xs ys : List AV} {vs us : List Value}, relL σ ρ xs vs → relL σ ρ ys us → relL σ ρ (xs ++ ys) (vs ++ us)
  | [], ys, vs, us, h, k => by have : vs = [] := h; subst this; exact k
  | x :: xs, ys, vs, us, h, k => by obtain ⟨v, vs', rfl, h2, h3⟩ := h; exact ⟨v, vs' ++ us, rfl, h2, relL_append h3 k⟩
theorem relL_take : ∀ {xs : List AV} {vs : List Value} (n : Nat), relL σ ρ xs vs → relL σ ρ (xs.take n) (vs.take n)
  | [], vs, n, h => by have : vs = [] := h; subst this; simp; exact rfl
  | x :: xs, vs, 0, h => rfl
  | x :: xs, vs, n + 1, h => by obtain ⟨v, vs', rfl, h2, h3⟩ := h; exact ⟨v, _, rfl, h2, relL_take n h3⟩
theorem relL_drop : ∀ {xs : List AV} {vs : List Value} (n : Nat), relL σ ρ xs vs → relL σ ρ (xs.drop n) (vs.drop n)
  | [], vs, n, h => by have : vs = [] := h; subst this; simp; exact rfl
  | x :: xs, vs, 0, h => h
  | x :: xs, vs, n + 1, h => by obtain ⟨v, vs', rfl, h2, h3⟩ := h; exact relL_drop n h3
theorem relL_set : ∀ {xs : List AV} {vs : List Value} (i : Nat) {x : AV} {v : Value}, relL σ ρ xs vs → rel σ ρ x v → relL σ ρ (xs.set i x) (vs.set i v)
  | [], vs, i, x, v, h, k => by have : vs = [] := h; subst this; simp; exact rfl
  | y :: xs, vs, 0, x, v, h, k => by obtain ⟨u, vs', rfl, h2, h3⟩ := h; exact ⟨v, vs', rfl, k, h3⟩
  | y :: xs, vs, i + 1, x, v, h, k => by obtain ⟨u, vs', rfl, h2, h3⟩ := h; exact ⟨u, _, rfl, h2, relL_set i h3 k⟩
theorem relL_replicate {x : AV} {v : Value} (h : rel σ ρ x v) : ∀ n, relL σ ρ (List.replicate n x) (List.replicate n v)
  | 0 => rfl
  | n + 1 => ⟨v, _, rfl, h, relL_replicate h n⟩
theorem rel_undef : rel σ ρ .undef undef := ⟨#[], rfl, rfl⟩

/- Joins. -/
theorem addrSame_eq {a b : Option (Nat × Nat)} (h : addrSame a b = true) : a = b := by
  unfold addrSame at h
  split at h
  · rfl
  · simp only [Bool.and_eq_true] at h; rw [Nat.eq_of_beq_eq_true h.1, Nat.eq_of_beq_eq_true h.2]
  · cases h
theorem rel_joinCell {g : SE} {a b : AV} {v : Value} (h : rel σ ρ (if σ.b g then a else b) v) : rel σ ρ (joinCell g a b) v := by
  unfold joinCell
  split
  · show v = _
    rw [i_ite]
    split at h <;> simp_all [rel]
  · show v = _
    rw [b_ite]
    split at h <;> simp_all [rel]
  · rename_i a b
    cases hs : addrSame a b
    · trivial
    · have := addrSame_eq hs; subst this; simpa using h
  · rename_i a l c b m d
    cases hs : (addrSame a b && Nat.beq l m && Nat.beq c d)
    · trivial
    · simp only [Bool.and_eq_true] at hs
      obtain ⟨⟨h1, h2⟩, h3⟩ := hs
      have := addrSame_eq h1; subst this
      have := Nat.eq_of_beq_eq_true h2; subst this
      have := Nat.eq_of_beq_eq_true h3; subst this
      simpa using h
  · simpa using h
  · rename_i i j
    cases hs : Nat.beq i j
    · trivial
    · have := Nat.eq_of_beq_eq_true hs; subst this; simpa using h
  · trivial
theorem relL_joinCells {g : SE} : ∀ {l m r : List AV} {vs : List Value}, joinCells g l m = some r → relL σ ρ (if σ.b g then l else m) vs → relL σ ρ r vs
  | [], [], r, vs, h, k => by simp [joinCells] at h; subst h; simpa using k
  | a :: l, b :: m, r, vs, h, k => by
    simp only [joinCells, Option.map_eq_some_iff] at h
    obtain ⟨r', h1, rfl⟩ := h
    have e : (if σ.b g then a :: l else b :: m) = (if σ.b g then a else b) :: (if σ.b g then l else m) := by split <;> rfl
    rw [e] at k
    obtain ⟨v, vs', rfl, h2, h3⟩ := k
    exact ⟨v, vs', rfl, rel_joinCell h2, relL_joinCells h1 h3⟩
  | [], _ :: _, _, _, h, _ => by simp [joinCells] at h
  | _ :: _, [], _, _, h, _ => by simp [joinCells] at h
theorem sameFn_eq {f g : Fn} (h : sameFn f g = true) : f = g := by
  unfold sameFn at h
  split at h
  · rw [Nat.eq_of_beq_eq_true h]
  · cases h
theorem sameCaptured_eq : ∀ {l m : List AV}, sameCaptured l m = true → l = m
  | [], [], _ => rfl
  | .ptr a :: l, .ptr b :: m, h => by
    simp only [sameCaptured, Bool.and_eq_true] at h
    rw [addrSame_eq h.1, sameCaptured_eq h.2]
  | [], _ :: _, h => by simp [sameCaptured] at h
  | x :: l, [], h => by cases x <;> simp [sameCaptured] at h
  | x :: l, y :: m, h => by
    cases x <;> first | (simp [sameCaptured] at h; done) | (cases y <;> first | (simp [sameCaptured] at h; done) | (simp only [sameCaptured, Bool.and_eq_true] at h; rw [addrSame_eq h.1, sameCaptured_eq h.2]))
theorem rel_joinFlat {g : SE} {a b : AV} {v : Value} (h : rel σ ρ (if σ.b g then a else b) v) : rel σ ρ (joinFlat g a b) v := by
  unfold joinFlat
  split
  · rename_i l m
    split
    · rename_i x hx
      have e : (if σ.b g then AV.agg l else .agg m) = .agg (if σ.b g then l else m) := by split <;> rfl
      rw [e] at h
      obtain ⟨vs, h1, h2⟩ := h
      exact ⟨vs, h1, relL_joinCells hx h2⟩
    · trivial
  · rename_i f c h' d
    cases hs : (sameFn f h' && sameCaptured c d)
    · trivial
    · simp only [Bool.and_eq_true] at hs
      have e1 := sameFn_eq hs.1; have e2 := sameCaptured_eq hs.2
      subst e1; subst e2; simpa using h
  · exact rel_joinCell h
theorem relL_joinFlats {g : SE} : ∀ {l m r : List AV} {vs : List Value}, joinFlats g l m = some r → relL σ ρ (if σ.b g then l else m) vs → relL σ ρ r vs
  | [], [], r, vs, h, k => by simp [joinFlats] at h; subst h; simpa using k
  | a :: l, b :: m, r, vs, h, k => by
    simp only [joinFlats, Option.map_eq_some_iff] at h
    obtain ⟨r', h1, rfl⟩ := h
    have e : (if σ.b g then a :: l else b :: m) = (if σ.b g then a else b) :: (if σ.b g then l else m) := by split <;> rfl
    rw [e] at k
    obtain ⟨v, vs', rfl, h2, h3⟩ := k
    exact ⟨v, vs', rfl, rel_joinFlat h2, relL_joinFlats h1 h3⟩
  | [], _ :: _, _, _, h, _ => by simp [joinFlats] at h
  | _ :: _, [], _, _, h, _ => by simp [joinFlats] at h
theorem rel_joinAV {g : SE} {a b : AV} {v : Value} (h : rel σ ρ (if σ.b g then a else b) v) : rel σ ρ (joinAV g a b) v := by
  unfold joinAV
  split
  · rename_i l m
    split
    · rename_i x hx
      have e : (if σ.b g then AV.tuple l else .tuple m) = .tuple (if σ.b g then l else m) := by split <;> rfl
      rw [e] at h
      obtain ⟨vs, h1, h2⟩ := h
      exact ⟨vs, h1, relL_joinFlats hx h2⟩
    · trivial
  · exact rel_joinFlat h
theorem relL_joinAVs {g : SE} : ∀ {l m r : List AV} {vs : List Value}, joinAVs g l m = some r → relL σ ρ (if σ.b g then l else m) vs → relL σ ρ r vs
  | [], [], r, vs, h, k => by simp [joinAVs] at h; subst h; simpa using k
  | a :: l, b :: m, r, vs, h, k => by
    simp only [joinAVs, Option.map_eq_some_iff] at h
    obtain ⟨r', h1, rfl⟩ := h
    have e : (if σ.b g then a :: l else b :: m) = (if σ.b g then a else b) :: (if σ.b g then l else m) := by split <;> rfl
    rw [e] at k
    obtain ⟨v, vs', rfl, h2, h3⟩ := k
    exact ⟨v, vs', rfl, rel_joinAV h2, relL_joinAVs h1 h3⟩
  | [], _ :: _, _, _, h, _ => by simp [joinAVs] at h
  | _ :: _, [], _, _, h, _ => by simp [joinAVs] at h
end
end Go.Proofs.YtlfoglklibhbnaaGreat.Sx
