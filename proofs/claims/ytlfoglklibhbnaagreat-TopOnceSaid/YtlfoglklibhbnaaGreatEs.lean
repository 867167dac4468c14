/- A region whose last operation waits for all others: these first, then it. -/
import Derived.Test.YtlfoglklibhbnaaGreatEh
set_option linter.unusedVariables false
set_option linter.unusedSimpArgs false
namespace Go.Proofs.YtlfoglklibhbnaaGreat.Sx
open Go.RowKit

section
variable {P : Program}
theorem upon_conv {o : Oper} {a : Act} {K K' : Act → World → Prop} {Q Q' : Exit → Act → World → Prop} (hK : ∀ a w, K a w → K' a w) (hQ : ∀ e a w, e ≠ .normal → Q e a w → Q' e a w) {r : Result Next} (h : o.upon P a K Q r) : o.upon P a K' Q' r := by
  have hlet : LetsOut Q → LetsOut Q' := fun ⟨a, w, h⟩ => ⟨a, w, hQ _ _ _ (by intro e; cases e) h⟩
  cases r with
  | ok n w' =>
    cases n <;> simp only [Oper.upon] at h ⊢ <;>
      first
        | exact hK _ _ h
        | exact Calls.mono h (fun e w'' he => by cases e <;> first | exact hK _ _ he | exact hQ _ _ _ (by intro e; cases e) he | exact hlet he)
        | exact Rows.mono h (fun _ _ he => hK _ _ he)
  | halt x w' => cases x <;> simp only [Oper.upon] at h ⊢ <;> first | exact hQ _ _ _ (by intro e; cases e) h | exact h
theorem wpOp_conv {ops ops' : Array Oper} {i : Nat} {a : Act} {w : World} {K K' : Act → World → Prop} {Q Q' : Exit → Act → World → Prop} (ho : ops'[i]? = ops[i]?)
    (hy : ∀ o, ops[i]? = some o → Region.wanted o (yielded ops' a.tmps) = Region.wanted o (yielded ops a.tmps))
    (hK : ∀ a w, K a w → K' a w) (hQ : ∀ e a w, e ≠ .normal → Q e a w → Q' e a w) (h : wpOp P ops Q i K a w) : wpOp P ops' Q' i K' a w := by
  unfold wpOp at h ⊢
  rw [ho]
  cases hi : ops[i]? with
  | none => rw [hi] at h; exact hK _ _ h
  | some o =>
    rw [hi] at h
    simp only at h ⊢
    rw [hy o hi]
    split
    · rename_i hw
      rw [if_pos hw] at h
      rcases h with h | ⟨h1, a, w, h2⟩
      · exact .inl (upon_conv hK hQ h)
      · exact .inr ⟨h1, a, w, hQ _ _ _ (by intro e; cases e) h2⟩
    · rename_i hw
      rw [if_neg hw] at h
      exact hK _ _ h

theorem splitLast_ok : ∀ {l l0 : List Oper} {o : Oper}, splitLast l = some (l0, o) → l = l0 ++ [o]
  | [], l0, o, h => by cases h
  | p :: l, l0, o, h => by
    unfold splitLast at h
    split at h
    · rename_i hn
      injection h with h; injection h with h1 h2
      subst h1 h2
      cases l with
      | nil => rfl
      | cons q l => unfold splitLast at hn; split at hn <;> cases hn
    · rename_i p' hp
      obtain ⟨l1, o1⟩ := p'
      injection h with h; injection h with h1 h2
      subst h1 h2
      rw [splitLast_ok hp]; rfl
theorem lastCall_ok {cx : Cx} {l l0 : List Oper} {o : Oper} (h : lastCall cx l = some (l0, o)) : l = l0 ++ [o] ∧ edgesOk 0 (l0 ++ [o]) = true ∧ allBits ((befores (l0 ++ [o]) []).getD l0.length 0) l0.length = true ∧ guardsLt l0.length l0 = true := by
  unfold lastCall at h
  cases hi : cx.inl.isEmpty
  · rw [hi] at h
    simp only [cond_false] at h
    split at h
    · cases h
    · rename_i p hp
      cases hb : (valCall p.2 && edgesOk 0 l && allBits ((befores l []).getD p.1.length 0) p.1.length && guardsLt p.1.length p.1)
      · rw [hb] at h; cases h
      · rw [hb] at h
        simp only [cond_true, Option.some.injEq] at h
        subst h
        have hl := splitLast_ok hp
        simp only [Bool.and_eq_true] at hb
        obtain ⟨⟨⟨h1, h2⟩, h3⟩, h4⟩ := hb
        exact ⟨hl, by rw [← hl]; exact h2, by rw [← hl]; exact h3, h4⟩
  · rw [hi] at h; cases h
theorem gd_any {L : Array Bool} {i : Nat} (b c : Bool) (h : i < L.size) : L.getD i b = L.getD i c := by simp [Array.getD, h]
theorem gd_push {L : Array Bool} {i : Nat} {x b : Bool} (h : i < L.size) : (L.push x).getD i b = L.getD i b := by
  have : i ≠ L.size := by omega
  simp [Array.getD_eq_getD_getElem?, Array.getElem?_push, this]
theorem gd_set {L : Array Bool} {i k : Nat} {x b : Bool} (h : k ≠ i) : (L.setIfInBounds i x).getD k b = L.getD k b := by
  have : i ≠ k := fun e => h e.symm
  simp [Array.getD_eq_getD_getElem?, Array.getElem?_setIfInBounds, this]
theorem gd_set_self {L : Array Bool} {i : Nat} {x b : Bool} (h : i < L.size) : (L.setIfInBounds i x).getD i b = x := by
  simp [Array.getD_eq_getD_getElem?, Array.getElem?_setIfInBounds, h]
theorem gd_push_self {L : Array Bool} {i : Nat} {x b : Bool} (h : i = L.size) : (L.push x).getD i b = x := by
  subst h; simp [Array.getD_eq_getD_getElem?]
def Q1 (P : Program) (ops : Array Oper) (Q : Exit → Act → World → Prop) (N : Nat) (e : Exit) (a : Act) (w : World) : Prop :=
  match e with
  | .normal => wpOp P ops Q N (fun a w => Q .normal a w) a w
  | e => Q e a w
theorem Q1_out {ops : Array Oper} {Q : Exit → Act → World → Prop} {N : Nat} (e : Exit) (a : Act) (w : World) (h : e ≠ .normal) (k : Q1 P ops Q N e a w) : Q e a w := by
  cases e <;> first | exact absurd rfl h | exact k

theorem guardsLt_get {N : Nat} : ∀ {l : List Oper} {i : Nat} {o : Oper}, guardsLt N l = true → l[i]? = some o → ∀ g b, o.guard = some (g, b) → g < N
  | [], i, o, h, hi, g, b, e => by simp at hi
  | p :: l, 0, o, h, hi, g, b, e => by
    simp at hi; subst hi
    simp only [guardsLt, Bool.and_eq_true, e] at h
    exact Nat.le_of_ble_eq_true h.1
  | p :: l, i + 1, o, h, hi, g, b, e => by
    simp only [guardsLt, Bool.and_eq_true] at h
    exact guardsLt_get h.2 (by simpa using hi) g b e
theorem allBits_get {m : Nat} : ∀ {n k : Nat}, allBits m n = true → k < n → m.testBit k = true
  | 0, k, h, hk => by omega
  | n + 1, k, h, hk => by
    simp only [allBits, Bool.and_eq_true] at h
    by_cases e : k = n
    · subst e; exact h.1
    · exact allBits_get h.2 (by omega)

theorem any_last {l : List Oper} {o : Oper} {Q : Exit → Act → World → Prop} (hE : edgesOk 0 (l ++ [o]) = true) (hb : allBits ((befores (l ++ [o]) []).getD l.length 0) l.length = true) (hgd : guardsLt l.length l = true) :
    ∀ (fuel : Nat) (L : Array Bool) (a : Act) (w : World), L.size = l.length → cnt (fun i => !L.getD i false) l.length ≤ fuel →
      (∀ i z, l[i]? = some z → L.getD i false = true → ∀ e ∈ z.after.toList, Region.binds .any e = true → L.getD e.on false = true) →
      wpAny P .any l.toArray (Q1 P (l ++ [o]).toArray Q l.length) fuel L a w → wpAny P .any (l ++ [o]).toArray Q (fuel + 1) (L.push false) a w := by
  intro fuel
  have hget : ∀ i, i < l.length → (l ++ [o])[i]? = l[i]? := fun i hi => List.getElem?_append_left hi
  have hgetN : (l ++ [o])[l.length]? = some o := by simp
  have hp1 : ∀ (L : Array Bool) (i : Nat) (b : Bool), L.size = l.length → i < l.length → (L.push false).getD i b = L.getD i b := by
    intro L i b hs hi
    exact gd_push (by omega)
  have hpN : ∀ (L : Array Bool) (b : Bool), L.size = l.length → (L.push false).getD l.length b = false := by
    intro L b hs
    exact gd_push_self hs.symm
  have hfb : ∀ (L : Array Bool) (i : Nat), L.size = l.length → i < l.length → L.getD i true = L.getD i false := by
    intro L i hs hi
    exact gd_any _ _ (by omega)
  -- the last one waits for all
  have hlast : ∀ (L : Array Bool), L.size = l.length → (∀ i z, l[i]? = some z → L.getD i false = true → ∀ e ∈ z.after.toList, Region.binds .any e = true → L.getD e.on false = true) →
      l.length ∈ Region.ready .any (l ++ [o]).toArray (L.push false) → ∀ k, k < l.length → L.getD k false = true := by
    intro L hs hD hN k hk
    obtain ⟨m1, o', m2, m3⟩ := mem_ready.1 hN
    have ho' : o' = o := by
      have : (l ++ [o])[l.length]? = some o' := by simpa using m2
      rw [hgetN] at this; injection this with h; exact h.symm
    subst ho'
    have := before_listed hE (L := fun k => (L.push false).getD k false) (fun i z hi hL e he hbd => by
      by_cases hil : i < l.length
      · have hz : l[i]? = some z := by rw [← hget i hil]; exact hi
        rw [hp1 L i false hs hil] at hL
        have := hD i z hz hL e he hbd
        have hlt : e.on < l.length := by have := edgesOk_get hE hi e he hbd; omega
        rw [hp1 L e.on false hs hlt]; exact this
      · have hi' : i = l.length := by
          have : i < (l ++ [o']).length := by
            apply Classical.byContradiction; intro hn
            rw [List.getElem?_eq_none (by omega)] at hi; cases hi
          simp at this; omega
        subst hi'
        rw [hpN L false hs] at hL; cases hL) l.length hgetN (fun e he hbd => m3 e (by simpa using he) hbd) k (allBits_get hb hk)
    rw [hp1 L k false hs hk] at this; exact this
  -- some operation is ready as long as not all are listed
  have hsome : ∀ (L : Array Bool), L.size = l.length → Region.ready .any (l ++ [o]).toArray (L.push false) ≠ [] := by
    intro L hs hr
    have all : ∀ i, i < (l ++ [o]).length → (L.push false).getD i false = true := by
      intro i
      induction i using Nat.strongRecOn with
      | _ i ih =>
        intro hi
        cases hL : (L.push false).getD i false
        · exfalso
          have hg := List.getElem?_eq_getElem (l := l ++ [o]) (i := i) hi
          have : i ∈ Region.ready .any (l ++ [o]).toArray (L.push false) := by
            refine mem_ready.2 ⟨?_, (l ++ [o])[i], by simp, fun e he hbd => ih e.on ?_ ?_⟩
            · rw [gd_any true false (by simp at hi ⊢; omega)]; exact hL
            · have := edgesOk_get hE hg e (by simpa using he) hbd; omega
            · have := edgesOk_get hE hg e (by simpa using he) hbd; omega
          rw [hr] at this; cases this
        · rfl
    have := all l.length (by simp)
    rw [hpN L false hs] at this; cases this
  -- when all others are listed
  have hfin : ∀ (fuel : Nat) (L : Array Bool) (a : Act) (w : World), L.size = l.length → (∀ k, k < l.length → L.getD k false = true) → wpAny P .any l.toArray (Q1 P (l ++ [o]).toArray Q l.length) fuel L a w →
      ∀ K : Act → World → Prop, (∀ a w, Q .normal a w → K a w) → wpOp P (l ++ [o]).toArray Q l.length K a w := by
    intro fuel L a w hs hall h K hK
    have hr : Region.ready .any l.toArray L = [] := by
      cases hrd : Region.ready .any l.toArray L with
      | nil => rfl
      | cons i r =>
        exfalso
        have : i ∈ Region.ready .any l.toArray L := by rw [hrd]; simp
        obtain ⟨m1, z, m2, _⟩ := mem_ready.1 this
        have hi : i < l.length := by
          have := (Array.getElem?_eq_some_iff.1 m2).1; simpa using this
        rw [hfb L i hs hi, hall i hi] at m1; cases m1
    have hq : Q1 P (l ++ [o]).toArray Q l.length .normal a w := by
      cases fuel with
      | zero => exact h.2
      | succ f => exact h.1 hr
    exact wpOp_mono hK hq
  have hend : ∀ (fuel : Nat) (L : Array Bool) (a : Act) (w : World), L.size = l.length → (∀ k, k < l.length → L.getD k false = true) → Q .normal a w → wpAny P .any (l ++ [o]).toArray Q fuel ((L.push false).setIfInBounds l.length true) a w := by
    intro fuel L a w hs hall hq
    have hr : Region.ready .any (l ++ [o]).toArray ((L.push false).setIfInBounds l.length true) = [] := by
      cases hrd : Region.ready .any (l ++ [o]).toArray ((L.push false).setIfInBounds l.length true) with
      | nil => rfl
      | cons i r =>
        exfalso
        have : i ∈ Region.ready .any (l ++ [o]).toArray ((L.push false).setIfInBounds l.length true) := by rw [hrd]; simp
        obtain ⟨m1, z, m2, _⟩ := mem_ready.1 this
        have hi : i < (l ++ [o]).length := by
          have := (Array.getElem?_eq_some_iff.1 m2).1; simpa using this
        by_cases e : i = l.length
        · subst e
          rw [gd_set_self (by simp; omega)] at m1; cases m1
        · have hil : i < l.length := by simp at hi; omega
          rw [gd_set e, hp1 L i true hs hil, hfb L i hs hil, hall i hil] at m1; cases m1
    cases fuel with
    | zero => exact ⟨hr, hq⟩
    | succ f => exact ⟨fun _ => hq, fun i hi => by rw [hr] at hi; cases hi⟩
  induction fuel with
  | zero =>
    intro L a w hs hc hD h
    have hall : ∀ i, i < l.length → L.getD i false = true := fun i hi => by
      have := cnt_zero (Nat.le_zero.1 hc) i hi
      simpa using this
    refine ⟨fun hr => absurd hr (hsome L hs), fun i hi => ?_⟩
    have hiN : i = l.length := by
      obtain ⟨m1, z, m2, _⟩ := mem_ready.1 hi
      have hi2 : i < (l ++ [o]).length := by
        have := (Array.getElem?_eq_some_iff.1 m2).1; simpa using this
      apply Classical.byContradiction
      intro hne
      have hil : i < l.length := by simp at hi2; omega
      rw [hp1 L i true hs hil, hfb L i hs hil, hall i hil] at m1; cases m1
    subst hiN
    exact hfin 0 L a w hs hall h _ (fun a w hq => hend 0 L a w hs hall hq)
  | succ fuel ih =>
    intro L a w hs hc hD h
    refine ⟨fun hr => absurd hr (hsome L hs), fun i hi => ?_⟩
    by_cases hiN : i = l.length
    · subst hiN
      have hall := hlast L hs hD hi
      exact hfin (fuel + 1) L a w hs hall h _ (fun a w hq => hend (fuel + 1) L a w hs hall hq)
    · obtain ⟨m1, z, m2, m3⟩ := mem_ready.1 hi
      have hi2 : i < (l ++ [o]).length := by
        have := (Array.getElem?_eq_some_iff.1 m2).1; simpa using this
      have hil : i < l.length := by simp at hi2; omega
      have hz : l[i]? = some z := by rw [← hget i hil]; simpa using m2
      have hLi : L.getD i false = false := by rw [hp1 L i true hs hil, hfb L i hs hil] at m1; exact m1
      have hpre : ∀ e ∈ z.after.toList, Region.binds .any e = true → L.getD e.on false = true := fun e he hbd => by
        have := m3 e (by simpa using he) hbd
        have hlt : e.on < l.length := by
          have := edgesOk_get hE (show (l ++ [o])[i]? = some z by simpa using m2) e he hbd; omega
        rw [hp1 L e.on false hs hlt] at this; exact this
      have hmem : i ∈ Region.ready .any l.toArray L := by
        refine mem_ready.2 ⟨by rw [hfb L i hs hil]; exact hLi, z, by simpa using hz, fun e he hbd => hpre e (by simpa using he) hbd⟩
      have hstep := h.2 i hmem
      have hset : (L.push false).setIfInBounds i true = (L.setIfInBounds i true).push false := by
        have h1 : i < L.size := by omega
        apply Array.ext_getElem?
        intro k
        simp only [Array.getElem?_setIfInBounds, Array.getElem?_push, Array.size_setIfInBounds, Array.size_push]
        by_cases e1 : k = L.size
        · have e2 : i ≠ k := by omega
          simp [e1, e2, show i ≠ L.size by omega]
        · by_cases e2 : i = k
          · subst e2
            have : i < L.size + 1 := by omega
            simp [h1, e1, this]
          · simp [e1, e2]
      have hget2 : ∀ k, k < l.length → k ≠ i → (L.setIfInBounds i true).getD k false = L.getD k false := by
        intro k hk hne
        exact gd_set hne
      have hgeti : (L.setIfInBounds i true).getD i false = true := by
        exact gd_set_self (by omega)
      refine wpOp_conv (ops := l.toArray) ?_ (fun z' hz' => ?_) (fun a' w' hk => ?_) Q1_out hstep
      · simp [hget i hil]
      · have hz'' : l[i]? = some z' := by simpa using hz'
        unfold Region.wanted
        cases hgu : z'.guard with
        | none => rfl
        | some gb =>
          obtain ⟨g, b⟩ := gb
          have hlt := guardsLt_get hgd hz'' g b hgu
          simp only [yielded]
          have : (l ++ [o]).toArray[g]? = l.toArray[g]? := by simp [hget g hlt]
          rw [this]
      · rw [hset]
        refine ih (L.setIfInBounds i true) a' w' (by simpa using hs) ?_ ?_ hk
        · have := cnt_lt (p := fun k => !L.getD k false) (q := fun k => !(L.setIfInBounds i true).getD k false) (fun k hk => by
            by_cases e : k = i
            · subst e; simp [hgeti] at hk
            · by_cases hkl : k < l.length
              · simp only [hget2 k hkl e] at hk; exact hk
              · have : ¬ k < L.size := by omega
                simp [Array.getD, this]) l.length i hil (by simp [hLi]) (by simp [hgeti])
          omega
        · intro k y hy hLk e he hbd
          have hkl : k < l.length := by
            apply Classical.byContradiction; intro hn
            rw [List.getElem?_eq_none (by omega)] at hy; cases hy
          have hbase : L.getD e.on false = true := by
            by_cases ek : k = i
            · subst ek
              rw [hz] at hy; injection hy with hy; subst hy
              exact hpre e he hbd
            · rw [hget2 k hkl ek] at hLk
              exact hD k y hy hLk e he hbd
          by_cases eo : e.on = i
          · rw [eo]; exact hgeti
          · have hol : e.on < l.length := by
              apply Classical.byContradiction; intro hn
              have : ¬ e.on < L.size := by omega
              simp [Array.getD, this] at hbase
            rw [hget2 e.on hol eo]; exact hbase
end
end Go.Proofs.YtlfoglklibhbnaaGreat.Sx
