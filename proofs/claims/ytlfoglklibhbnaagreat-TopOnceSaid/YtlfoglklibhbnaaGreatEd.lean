/- The reckoner: what single operations do. -/
import Derived.Test.YtlfoglklibhbnaaGreatEc
set_option linter.unusedVariables false
set_option linter.unusedSimpArgs false
namespace Go.Proofs.YtlfoglklibhbnaaGreat.Sx
open Go.RowKit

theorem wp_of_run {P : Program} {o : Oper} {a : Act} {w w' : World} {u : Value} {K : Act → World → Prop} {Q : Exit → Act → World → Prop}
    (h : (execOp a.eval o).run P w = .ok (.value u) w') (k : K (a.put o.dst u) w') : o.wp P a w K Q := by
  unfold Oper.wp; rw [h]; exact k
theorem wp_of_skip {P : Program} {o : Oper} {a : Act} {w w' : World} {K : Act → World → Prop} {Q : Exit → Act → World → Prop}
    (h : (execOp a.eval o).run P w = .ok .skip w') (k : K (a.put o.dst undef) w') : o.wp P a w K Q := by
  unfold Oper.wp; rw [h]; exact k
theorem run_v {P : Program} {s : Sem Value} {w w' : World} {u : Value} (h : s.run P w = .ok u w') : (do pure (.value (← s)) : Sem Next).run P w = .ok (.value u) w' := by
  rw [Sem.run_bind, h]; rfl
theorem run_u {P : Program} {s : Sem Unit} {w w' : World} (h : s.run P w = .ok () w') : (do s; pure .skip : Sem Next).run P w = .ok .skip w' := by
  rw [Sem.run_bind, h]; rfl

theorem list_bnd {l : List Value} {off s : Nat} (h : off + s ≤ l.length) : ((l.drop off).take s).length = s := by
  rw [List.length_take, List.length_drop]; omega

section
variable {P : Program} {σ : Env} {W : World} {cx : Cx} {ρ : Nat → Option Nat} {H : Hp} {w0 w : World}

theorem readAt_ok {n off s : Nat} {cs : List AV} (hH : HRel σ ρ H w0 w) (h : readAt H n off s = some cs) :
    ∃ b vs T, ρ n = some b ∧ w.heap[b]? = some (.cells vs T (0, 0)) ∧ off + s ≤ vs.size ∧ relL σ ρ cs ((vs.toList.drop off).take s) := by
  unfold readAt at h
  split at h
  · rename_i B hB
    cases hb : Nat.ble (off + s) B.cells.length
    · simp [hb] at h
    · simp only [hb, cond_true, Option.some.injEq] at h; subst h
      obtain ⟨b, vs, h1, h2, h3, h4⟩ := hH.blk n B hB
      have := relL_length h3
      have := Nat.le_of_ble_eq_true hb
      exact ⟨b, vs, B.elem, h1, h2, by simp at *; omega, relL_take _ (relL_drop _ h3)⟩
  · cases h

theorem cell_at {b i : Nat} {vs : Array Value} {T : TypeId} {fr : Nat × Nat} (h : w.heap[b]? = some (.cells vs T fr)) : w.cell? ⟨b, i, none⟩ = vs[i]? := by
  simp [World.cell?, h]

theorem run_loadVar_agg {t : TypeId} {ti : TI} (ht : TyOk P t ti) (ha : ti.agg = true) {b off : Nat} {vs : Array Value} {T : TypeId}
    (hb : w.heap[b]? = some (.cells vs T (0, 0))) (hs : off + ti.size ≤ vs.size) : (loadVar t ⟨b, off, none⟩).run P w = .ok (.agg ((vs.toList.drop off).take ti.size).toArray) w := by
  unfold loadVar
  have hl : ((vs.toList.drop off).take ti.size).length = ti.size := list_bnd (by simpa using hs)
  have := run_loadCells_list (P := P) w ⟨b, off, none⟩ ((vs.toList.drop off).take ti.size) (fun j v hj => by
    rw [add_none, cell_at hb]
    have hj' : j < ti.size := by
      apply Classical.byContradiction; intro hn
      rw [List.getElem?_eq_none (by omega)] at hj; cases hj
    rw [List.getElem?_take_of_lt hj', List.getElem?_drop] at hj
    simpa using hj)
  rw [hl] at this
  simp [Sem.run_bind, ht.isAgg', ha, ht.size, this]
theorem run_loadVar_one {t : TypeId} {ti : TI} (ht : TyOk P t ti) (ha : ti.agg = false) {b off : Nat} {vs : Array Value} {T : TypeId} {v : Value}
    (hb : w.heap[b]? = some (.cells vs T (0, 0))) (hv : vs[off]? = some v) : (loadVar t ⟨b, off, none⟩).run P w = .ok v w := by
  unfold loadVar
  simp [Sem.run_bind, ht.isAgg', ha, cell_at hb, hv]

theorem take_one {l : List Value} {off : Nat} {v : Value} (h : ∃ u, (l.drop off).take 1 = [u] ∧ u = v) : l[off]? = some v := by
  obtain ⟨u, h1, rfl⟩ := h
  cases hd : l.drop off with
  | nil => rw [hd] at h1; cases h1
  | cons x r =>
    rw [hd] at h1; simp at h1; subst h1
    have : (l.drop off)[0]? = some x := by rw [hd]; rfl
    rw [List.getElem?_drop] at this; simpa using this

theorem run_storeVar {t : TypeId} {s : Nat} (hs : (Go.sizeOf t).run P w = .ok s w) {b off : Nat} {vs : Array Value} {T : TypeId} {v : Value}
    (hb : w.heap[b]? = some (.cells vs T (0, 0))) (hv : v.cells.size = s) (hl : off + s ≤ vs.size) (h1 : ∀ x ∈ v.cells.toList, x.oneCell' = true) :
    ∃ w', (storeVar t ⟨b, off, none⟩ v).run P w = .ok () w' ∧ StoreTo w b off v.cells.toList w' := by
  have := run_storeCells_at (P := P) b off T v.cells.toList 0 vs w hb (by simp; omega) h1
  refine ⟨w.setRow b (vs.toList.take (off + 0) ++ v.cells.toList ++ vs.toList.drop (off + 0 + v.cells.toList.length)).toArray, ?_, ?_⟩
  · unfold storeVar
    simp [Sem.run_bind, hs, hv, this]
  · refine ⟨fun us U hu => ?_, fun k hk => setRow_other w b k _ hk, by simp [World.setRow], rfl, rfl, rfl⟩
    rw [hb] at hu; simp only [Option.some.injEq, Obj.cells.injEq] at hu
    obtain ⟨rfl, rfl, _⟩ := hu
    simpa using setRow_heap w b vs _ T _ hb

theorem partOf_ok (hx : CxOk P σ W cx) {t : TypeId} {cs : List AV} {off : Nat} {v : AV} {us : Array Value} (h : partOf cx t cs off = some v) (hr : relL σ ρ cs us.toList) :
    ∃ u, (Go.part t us off).run P w = .ok u w ∧ rel σ ρ v u := by
  unfold partOf at h
  split at h
  · rename_i ti hti
    have ht := hx.tyf hti
    have hl := relL_length hr
    cases ha : ti.agg
    · simp only [ha, cond_false] at h
      obtain ⟨u, h1, h2⟩ := relL_get hr off v h
      refine ⟨u, ?_, h2⟩
      unfold Go.part
      have h1' : us[off]? = some u := by simpa using h1
      simp [Sem.run_bind, ht.isAgg', ha, h1']
    · simp only [ha, cond_true] at h
      cases hb : Nat.ble (off + ti.size) cs.length
      · simp [hb] at h
      · simp only [hb, cond_true, Option.some.injEq] at h; subst h
        refine ⟨.agg ((us.toList.drop off).take ti.size).toArray, ?_, _, rfl, by simpa using relL_take _ (relL_drop _ hr)⟩
        unfold Go.part
        simp only [Sem.run_bind, ht.isAgg', ha, Result.andThen_ok, if_true, ht.size, Sem.run_pure]
        congr 2
        apply Array.ext'
        simp [List.extract_eq_take_drop]
  · cases h

/- Aggregates built. -/
theorem foldl_set (vs : List Value) : ∀ (k off : Nat) (cs : List Value), off + k + vs.length ≤ cs.length →
    ((vs.zipIdx k).foldl (fun (cs : Array Value) (x : Value × Nat) => cs.setIfInBounds (off + x.2) x.1) cs.toArray).toList = cs.take (off + k) ++ vs ++ cs.drop (off + k + vs.length) := by
  induction vs with
  | nil => intro k off cs h; simp
  | cons v vs ih =>
    intro k off cs h
    simp only [List.zipIdx_cons, List.foldl_cons]
    have e : (cs.toArray.setIfInBounds (off + k) v) = (cs.set (off + k) v).toArray := by simp
    simp only [List.length_cons] at h
    rw [e, ih (k + 1) off _ (by simp; omega)]
    have h1 : (cs.set (off + k) v).take (off + (k + 1)) = cs.take (off + k) ++ [v] := by
      rw [← Nat.add_assoc, List.take_add_one]
      rw [List.take_set_of_le (by omega)]
      rw [List.getElem?_set_self (by omega)]; rfl
    have h2 : (cs.set (off + k) v).drop (off + (k + 1) + vs.length) = cs.drop (off + k + (vs.length + 1)) := by
      rw [List.drop_set_of_lt (by omega)]
      congr 1; omega
    rw [h1, h2]
    simp

theorem fill_ok {place place' : Nat → Option (Nat × Nat)} (hp : ∀ i x, place i = some x → place' i = some x) : ∀ {ps : List (Nat × AV)} {us : List (Nat × Value)} {cs r : List AV} {vs : List Value},
    fill place cs ps = some r → relL σ ρ cs vs → (ps.map (·.1) = us.map (·.1)) → relL σ ρ (ps.map (·.2)) (us.map (·.2)) → (∀ p ∈ ps, ∀ u, rel σ ρ p.2 u → p.2.cells.length = u.cells.size ∧ relL σ ρ p.2.cells u.cells.toList) →
    ∃ ws, Instr.fill place' vs.toArray us = some ws.toArray ∧ relL σ ρ r ws
  | [], us, cs, r, vs, h, hr, he, hl, hc => by
    have : us = [] := by cases us with | nil => rfl | cons => simp at he
    subst this
    simp [fill] at h; subst h
    exact ⟨vs, rfl, hr⟩
  | (i, v) :: ps, us, cs, r, vs, h, hr, he, hl, hc => by
    cases us with
    | nil => simp at he
    | cons p us =>
      obtain ⟨j, u⟩ := p
      simp only [List.map_cons, List.cons.injEq] at he
      obtain ⟨rfl, he⟩ := he
      simp only [List.map_cons] at hl
      obtain ⟨hvu, hl⟩ := relL_cons.1 hl
      unfold fill at h
      split at h
      · cases h
      · rename_i off size hpl
        cases hb : (Nat.beq v.cells.length size && Nat.ble (off + size) cs.length)
        · simp [hb] at h
        · simp only [hb, cond_true] at h
          simp only [Bool.and_eq_true] at hb
          have hsz := Nat.eq_of_beq_eq_true hb.1
          have hle := Nat.le_of_ble_eq_true hb.2
          obtain ⟨hcu, hru⟩ := hc (i, v) (by simp) u hvu
          have hlen := relL_length hr
          have e : u.cells.zipIdx.foldl (fun (cs : Array Value) (x : Value × Nat) => cs.setIfInBounds (off + x.2) x.1) vs.toArray = (vs.take off ++ u.cells.toList ++ vs.drop (off + size)).toArray := by
            apply Array.ext'
            have := foldl_set u.cells.toList 0 off vs (by simp at *; omega)
            rw [← Array.foldl_toList, Array.toList_zipIdx, this]
            simp only [Nat.add_zero, Array.length_toList]
            congr 2; simp at *; omega
          have hr' : relL σ ρ (cs.take off ++ v.cells ++ cs.drop (off + size)) (vs.take off ++ u.cells.toList ++ vs.drop (off + size)) :=
            relL_append (relL_append (relL_take _ hr) hru) (relL_drop _ hr)
          obtain ⟨ws, h1, h2⟩ := fill_ok hp h hr' he hl (fun p hp => hc p (by simp [hp]))
          refine ⟨ws, ?_, h2⟩
          unfold Instr.fill
          rw [hp _ _ hpl]
          simp only
          rw [if_neg (by simp at *; omega), e]
          exact h1
end
end Go.Proofs.YtlfoglklibhbnaaGreat.Sx
