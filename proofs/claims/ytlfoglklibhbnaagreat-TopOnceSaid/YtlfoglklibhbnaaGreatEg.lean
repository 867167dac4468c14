/- The reckoner: regions in the order of their text. -/
import Derived.Test.YtlfoglklibhbnaaGreatEf
set_option linter.unusedVariables false
set_option linter.unusedSimpArgs false
namespace Go.Proofs.YtlfoglklibhbnaaGreat.Sx
open Go.RowKit

/-- Frame and memory are as the reckoner has them. -/
structure SRel (σ : Env) (ρ : Nat → Option Nat) (s : St) (a : Act) (w0 w : World) : Prop where
  tm : relL σ ρ s.tm a.tmps.toList
  hp : HRel σ ρ s.hp w0 w
  fresh : ∀ n, s.hp.length ≤ n → ρ n = none

section
variable {P : Program} {σ : Env} {W : World} {cx : Cx} {callf : Bool → Nat → Pc → List AV → Hp → Tree (AV × Hp)}

theorem putT_ok {ρ : Nat → Option Nat} {tm : List AV} {a : Act} {dst : Option Tmp} {v : AV} {u : Value} (h : relL σ ρ tm a.tmps.toList) (hv : rel σ ρ v u) :
    relL σ ρ (putT tm dst v) (a.put dst u).tmps.toList := by
  cases dst with
  | none => exact h
  | some d =>
    simp only [putT, Act.put, Array.toList_setIfInBounds]
    exact relL_set d h hv

theorem put_defers (a : Act) (dst : Option Tmp) (u : Value) : (a.put dst u).defers = a.defers := by cases dst <;> rfl

/-- Is it wanted: as the reckoner has it. -/
def gval (σ : Env) (ops : List Oper) (tm : List AV) (o : Oper) : Option Bool :=
  match o.guard with
  | none => some true
  | some (g, want) => match ((ops[g]?).bind (·.dst)).bind (tm[·]?) with
    | some (.bool e) => some (σ.b e == want)
    | some (.tuple []) => some false
    | some (.int _) => some false
    | _ => none

theorem wants_sel {β : Type} {pc : Pc} {ops : List Oper} {tm : List AV} {o : Oper} {k : Pc → Bool → Tree β} {x : β} (hp : pcOk σ pc) (h : (wants pc ops tm o k).sel σ = some x) :
    ∃ pc' b, pcOk σ pc' ∧ gval σ ops tm o = some b ∧ (k pc' b).sel σ = some x := by
  unfold wants at h
  unfold gval
  split at h
  · rename_i hg; exact ⟨pc, true, hp, by rw [hg], h⟩
  · rename_i g want hg
    rw [hg]
    simp only
    split at h
    · rename_i e he
      obtain ⟨pc', hp', h⟩ := sel_part hp h
      exact ⟨pc', _, hp', by rw [he], h⟩
    · rename_i he; exact ⟨pc, _, hp, by rw [he], h⟩
    · rename_i he; exact ⟨pc, _, hp, by rw [he], h⟩
    · exact (sel_fail h).elim

theorem gval_real {ρ : Nat → Option Nat} {ops : List Oper} {tm : List AV} {o : Oper} {b : Bool} {a : Act} (h : gval σ ops tm o = some b)
    (ht : ∀ g want d, o.guard = some (g, want) → (ops[g]?).bind (·.dst) = some d → ∀ v, tm[d]? = some v → ∃ u, a.tmps[d]? = some u ∧ rel σ ρ v u) : Region.wanted o (yielded ops.toArray a.tmps) = b := by
  unfold gval at h
  unfold Region.wanted
  split at h
  · rename_i hg; rw [hg]; simpa using h
  · rename_i g want hg
    rw [hg]
    simp only
    unfold yielded
    have e1 : (ops.toArray[g]?).bind (·.dst) = (ops[g]?).bind (·.dst) := by simp
    rw [e1]
    cases hd : (ops[g]?).bind (·.dst) with
    | none => rw [hd] at h; simp at h
    | some d =>
      rw [hd] at h
      simp only [Option.bind_some] at h ⊢
      have ht := ht g want d hg hd
      split at h
      · rename_i e he
        obtain ⟨u, h1, h2⟩ := ht _ he
        have h2 : u = .bool (σ.b e) := h2
        subst h2; rw [h1]
        simp only [Option.some.injEq] at h; subst h
        cases σ.b e <;> cases want <;> rfl
      · rename_i he
        obtain ⟨u, h1, h2⟩ := ht _ he
        obtain ⟨vs, rfl, _⟩ := h2
        rw [h1]; simp only [Option.some.injEq] at h; subst h; rfl
      · rename_i e he
        obtain ⟨u, h1, h2⟩ := ht _ he
        have h2 : u = .int .i64 (σ.i e) := h2
        subst h2; rw [h1]
        simp only [Option.some.injEq] at h; subst h; rfl
      · cases h

/-- What an operation's effect makes of a state. -/
theorem eff_on {ρ : Nat → Option Nat} {s s1 : St} {a : Act} {w0 w : World} {nm : Nat} {H : Hp} {dst : Option Tmp} {e : Eff} {K : Act → World → Prop} (h0 : w0.heap.size ≤ w.heap.size)
    (hs : relL σ ρ s1.tm a.tmps.toList) (hH1 : HRel σ ρ s1.hp w0 w) (hn : (∃ v b, e = .new v b) → ρ nm = none ∧ nm < s1.hp.length) (hst : ∀ n off cs, e = .st n off cs → ∀ B, H[n]? = some (some B) → s1.hp[n]? = some (some B))
    (hfr : ∀ n, s1.hp.length ≤ n → ρ n = none)
    (h : ∀ a' w' ρ', sub ρ ρ' → (∀ m, (∀ v b, e = .new v b → m ≠ nm) → (∀ v h, e ≠ .out v h) → ρ' m = ρ m) → SRel σ ρ' (e.on nm dst s1) a' w0 w' → Below w0.heap.size w w' → a'.defers = a.defers → K a' w') :
    EffK σ ρ w0 nm H dst a w K e := by
  cases e with
  | val v =>
    intro u w' hu hg
    exact h _ w' ρ (sub.refl _) (fun _ _ _ => rfl) ⟨putT_ok hs hu, hH1.gr hg, hfr⟩ (Below.mono hg h0) (put_defers _ _ _)
  | new v b =>
    intro u w' bb vs h1 h2 h3 h4 h5 hg
    obtain ⟨hn1, hn2⟩ := hn ⟨v, b, rfl⟩
    have hs' := sub_upd (b := bb) hn1
    refine h _ w' (upd ρ nm bb) hs' ?_ ⟨putT_ok (relL_mono hs' _ _ hs) h5, hH1.new hn1 hn2 hg h0 h1 h2 h3 h4, ?_⟩ (Below.mono hg h0) (put_defers _ _ _)
    · intro m hm _
      have := hm v b rfl
      simp [upd, this]
    · intro n hl
      have e1 : (Eff.on nm dst (.new v b) s1).hp.length = s1.hp.length := by simp [Eff.on]
      rw [e1] at hl
      have : n ≠ nm := by omega
      simp [upd, this, hfr n hl]
  | st n off cs =>
    intro w' bb us B hB ho hb hle hr hst'
    refine h _ w' ρ (sub.refl _) (fun _ _ _ => rfl) ⟨putT_ok hs rel_undef, hH1.st (hst n off cs rfl B hB) hb hr hst', ?_⟩ (hst'.below hle) (put_defers _ _ _)
    intro m hl
    have e1 : (Eff.on nm dst (.st n off cs) s1).hp.length = s1.hp.length := by simp only [Eff.on, putH]; split <;> simp
    rw [e1] at hl
    exact hfr m hl
  | out v H' =>
    intro u w' ρ' hsub hf hH hu hb
    exact h _ w' ρ' hsub (fun _ _ hh => absurd rfl (hh v H')) ⟨putT_ok (relL_mono hsub _ _ hs) hu, hH, hf⟩ hb (put_defers _ _ _)

theorem evOk_of {ρ : Nat → Option Nat} {tm : List AV} {a : Act} (h : relL σ ρ tm a.tmps.toList) (xs : List Operand) : EvOk σ ρ tm a xs := fun x _ v hv => rel_ev h hv

theorem aplain_sound (hx : CxOk P σ W cx) (hc : CallOk P σ W callf) {ops : List Oper} {Q : Exit → Act → World → Prop} : ∀ (l : List Oper) {pc : Pc} {s s' : St} {ρ : Nat → Option Nat} {a : Act} {w0 w : World},
    pcOk σ pc → (aplain cx callf ops l pc s).sel σ = some s' → SRel σ ρ s a w0 w → Gr W w → W.heap.size ≤ w0.heap.size → w0.heap.size ≤ w.heap.size →
    (∀ a' w' ρ', sub ρ ρ' → SRel σ ρ' s' a' w0 w' → Below w0.heap.size w w' → a'.defers = a.defers → Q .normal a' w') → wpList P ops.toArray Q l a w
  | [], pc, s, s', ρ, a, w0, w, hp, h, hs, hW, hW0, h0, hQ => by
    have := sel_leaf h; subst this
    exact hQ a w ρ (sub.refl _) hs (Below.refl _ _) rfl
  | o :: l, pc, s, s', ρ, a, w0, w, hp, h, hs, hW, hW0, h0, hQ => by
    unfold aplain at h
    obtain ⟨pc', b, hp', hg, h⟩ := wants_sel hp h
    have hw := gval_real (ρ := ρ) (a := a) hg (fun g want d _ _ v hv => by
      obtain ⟨u, h1, h2⟩ := relL_get hs.tm d v hv
      exact ⟨u, by simpa using h1, h2⟩)
    unfold wpList
    cases b
    · simp only [cond_false] at h
      rw [hw]
      simp only [Bool.false_eq_true, if_false]
      refine aplain_sound hx hc l hp' h ⟨putT_ok hs.tm rel_undef, hs.hp, hs.fresh⟩ hW hW0 h0 (fun a' w' ρ' h1 h2 h3 h4 => hQ a' w' ρ' h1 h2 h3 (h4.trans (put_defers _ _ _)))
    · simp only [cond_true] at h
      rw [hw]
      simp only [if_true]
      refine .inl ?_
      obtain ⟨e, pc2, hp2, he, h⟩ := sel_bind hp' h
      refine aop_sound hx hc hp' he (evOk_of hs.tm _) hs.hp hs.fresh hW hW0 h0 ?_
      have hnew : HRel σ ρ (s.hp ++ [none]) w0 w := hs.hp.less (fun n B hn => by
        rcases Nat.lt_or_ge n s.hp.length with hl | hl
        · rwa [List.getElem?_append_left hl] at hn
        · rw [List.getElem?_append_right hl] at hn
          cases hk : n - s.hp.length with
          | zero => rw [hk] at hn; simp at hn
          | succ k => rw [hk] at hn; simp at hn)
      have fin : ∀ (s1 : St), s1 = ⟨s.tm, e.room s.hp⟩ →
          ∀ a' w' ρ', sub ρ ρ' → SRel σ ρ' (e.on s.hp.length o.dst s1) a' w0 w' → Below w0.heap.size w w' → a'.defers = a.defers → wpList P ops.toArray Q l a' w' := by
        intro s1 e1 a' w' ρ' h1 h2 h3 h4
        subst e1
        exact aplain_sound hx hc l hp2 h h2 (Below.trans hW (Below.mono h3 hW0)) hW0 (Nat.le_trans h0 h3.size) (fun a2 w2 ρ2 k1 k2 k3 k4 => hQ a2 w2 ρ2 (h1.trans k1) k2 (h3.trans k3) (k4.trans h4))
      cases e with
      | new v b =>
        exact eff_on (s := s) (s1 := ⟨s.tm, s.hp ++ [none]⟩) h0 hs.tm hnew (fun _ => ⟨hs.fresh _ (Nat.le_refl _), by simp⟩) (fun _ _ _ hh => by cases hh) (fun n hl => hs.fresh n (by simp at hl; omega))
          (fun a' w' ρ' h1 _ h2 h3 h4 => fin _ rfl a' w' ρ' h1 h2 h3 h4)
      | val v =>
        exact eff_on (s := s) (s1 := s) h0 hs.tm hs.hp (fun ⟨v, b, hh⟩ => by cases hh) (fun _ _ _ hh => by cases hh) hs.fresh (fun a' w' ρ' h1 _ h2 h3 h4 => fin _ rfl a' w' ρ' h1 h2 h3 h4)
      | st n off cs =>
        exact eff_on (s := s) (s1 := s) h0 hs.tm hs.hp (fun ⟨v, b, hh⟩ => by cases hh) (fun _ _ _ _ _ hB => by exact hB) hs.fresh (fun a' w' ρ' h1 _ h2 h3 h4 => fin _ rfl a' w' ρ' h1 h2 h3 h4)
      | out v H' =>
        exact eff_on (s := s) (s1 := s) h0 hs.tm hs.hp (fun ⟨v, b, hh⟩ => by cases hh) (fun _ _ _ hh => by cases hh) hs.fresh (fun a' w' ρ' h1 _ h2 h3 h4 => fin _ rfl a' w' ρ' h1 h2 h3 h4)
end
end Go.Proofs.YtlfoglklibhbnaaGreat.Sx
