/- The reckoner: an operation is what it reckons. -/
import Derived.Test.YtlfoglklibhbnaaGreatEd
set_option linter.unusedVariables false
set_option linter.unusedSimpArgs false
namespace Go.Proofs.YtlfoglklibhbnaaGreat.Sx
open Go.RowKit

section
variable {P : Program} {σ : Env} {W : World} {cx : Cx} {ρ : Nat → Option Nat} {H : Hp} {w0 w : World}

theorem evParts_ok {tm : List AV} {a : Act} : ∀ {ps : List (Nat × Operand)} {qs : List (Nat × AV)}, EvOk σ ρ tm a (ps.map (·.2)) → evParts tm ps = some qs →
    qs.map (·.1) = (ps.map fun p => (p.1, a.eval p.2)).map (·.1) ∧ relL σ ρ (qs.map (·.2)) ((ps.map fun p => (p.1, a.eval p.2)).map (·.2))
  | [], qs, _, h => by simp [evParts] at h; subst h; exact ⟨rfl, rfl⟩
  | (i, x) :: ps, qs, he, h => by
    unfold evParts at h
    split at h
    · rename_i b m hb hm
      simp only [Option.some.injEq] at h; subst h
      obtain ⟨h1, h2⟩ := evParts_ok (fun y hy => he y (by simp at hy ⊢; exact .inr hy)) hm
      exact ⟨by simp at h1 ⊢; exact h1, _, _, rfl, he x (by simp) b hb, h2⟩
    · cases h

theorem oneParts_ok : ∀ {ps : List (Nat × AV)}, oneParts ps = true → ∀ p ∈ ps, ∀ u, rel σ ρ p.2 u → p.2.cells.length = u.cells.size ∧ relL σ ρ p.2.cells u.cells.toList
  | [], _, p, hp => by cases hp
  | q :: ps, h, p, hp => by
    simp only [oneParts, Bool.and_eq_true] at h
    intro u hu
    rcases List.mem_cons.1 hp with rfl | hp
    · have := relL_cells hu h.1
      exact ⟨by simpa using relL_length this, this⟩
    · exact oneParts_ok h.2 p hp u hu

theorem allInts_ok : ∀ {l : List AV} {es : List SE} {us : List Value}, allInts l = some es → relL σ ρ l us → us = es.map fun e => Value.int .i64 (σ.i e)
  | [], es, us, h, k => by simp [allInts] at h; subst h; exact k
  | x :: l, es, us, h, k => by
    cases x <;> simp only [allInts, Option.map_eq_some_iff, reduceCtorEq] at h
    obtain ⟨m, h1, rfl⟩ := h
    obtain ⟨v, vs', rfl, h2, h3⟩ := k
    have : v = .int .i64 (σ.i _) := h2
    rw [this, allInts_ok h1 h3]; rfl

theorem eqAll_ok : ∀ {a b : List SE}, σ.b (eqAll a b) = eqI (a.map σ.i) (b.map σ.i)
  | [], [] => rfl
  | [], _ :: _ => rfl
  | _ :: _, [] => rfl
  | a :: l, b :: m => by
    simp only [eqAll, b_ite, b_eq, List.map_cons, eqI]
    rw [eqAll_ok (a := l) (b := m)]
    cases (σ.i a == σ.i b) <;> simp [Env.b, den]

theorem run_foldlM {f : Value → Value → Sem Value} {g : Int → Int → Int} (hf : ∀ x y w, (f (.int .i64 x) (.int .i64 y)).run P w = .ok (.int .i64 (g x y)) w) : ∀ (l : List Int) (x : Int) (w : World),
    ((l.map (Value.int .i64)).foldlM f (.int .i64 x)).run P w = .ok (.int .i64 (l.foldl g x)) w
  | [], x, w => rfl
  | y :: l, x, w => by
    simp only [List.map_cons, List.foldlM_cons, Sem.run_bind, hf, Result.andThen_ok, List.foldl_cons]
    exact run_foldlM hf l (g x y) w

theorem foldE_ok {f : SE → SE → SE} {g : Int → Int → Int} (hf : ∀ a b, σ.i (f a b) = g (σ.i a) (σ.i b)) : ∀ (l : List SE) (x : SE), σ.i (foldE f x l) = (l.map σ.i).foldl g (σ.i x)
  | [], x => rfl
  | y :: l, x => by simp only [foldE, List.map_cons, List.foldl_cons]; rw [foldE_ok hf l (f x y), hf]

theorem fieldsKnown_ok (hx : CxOk P σ W cx) : ∀ {fs : List Field}, fieldsKnown cx fs = true → ∃ g : Field → Nat, (∀ f ∈ fs, Sx.sizeOf cx f.type = some (g f)) ∧
    ∀ w, (fs.mapM fun f => do pure (f.offset, ← Go.sizeOf f.type) : Sem (List (Nat × Nat))).run P w = .ok (fs.map fun f => (f.offset, g f)) w := by
  intro fs h
  refine ⟨fun f => (Sx.sizeOf cx f.type).getD 0, ?_, ?_⟩
  · induction fs with
    | nil => intro f hf; cases hf
    | cons q l ih =>
      simp only [fieldsKnown, Bool.and_eq_true] at h
      intro f hf
      rcases List.mem_cons.1 hf with rfl | hf
      · obtain ⟨ti, hti⟩ := Option.isSome_iff_exists.1 h.1
        simp [Sx.sizeOf, hti]
      · exact ih h.2 f hf
  · induction fs with
    | nil => intro w; rfl
    | cons q l ih =>
      simp only [fieldsKnown, Bool.and_eq_true] at h
      intro w
      obtain ⟨ti, hti⟩ := Option.isSome_iff_exists.1 h.1
      simp only [List.mapM_cons, Sem.run_bind, (hx.tyf hti).size, Result.andThen_ok, Sem.run_pure, ih h.2, List.map_cons]
      simp [Sx.sizeOf, hti]

theorem rep_ok {z : List AV} {zs : List Value} (h : relL σ ρ z zs) : ∀ n, relL σ ρ (rep z n) (rep zs n)
  | 0 => rfl
  | n + 1 => relL_append h (rep_ok h n)

theorem rep_range (zs : List Value) (hz : 0 < zs.length) : ∀ n, (List.range (n * zs.length)).map (fun i => zs.toArray[i % zs.toArray.size]!) = rep zs n
  | 0 => by simp [rep]
  | n + 1 => by
    have e : (n + 1) * zs.length = zs.length + n * zs.length := by rw [Nat.add_mul, Nat.one_mul, Nat.add_comm]
    rw [e, List.range_add, List.map_append, rep]
    congr 1
    · apply List.ext_getElem
      · simp
      · intro i h1 h2
        simp only [List.getElem_map, List.getElem_range, List.size_toArray]
        rw [Nat.mod_eq_of_lt h2]
        simp [h2]
    · rw [List.map_map, ← rep_range zs hz n]
      apply List.map_congr_left
      intro i _
      simp

end
end Go.Proofs.YtlfoglklibhbnaaGreat.Sx
