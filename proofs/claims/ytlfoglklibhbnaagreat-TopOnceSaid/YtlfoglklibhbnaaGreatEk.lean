/- The reckoner: structs of numbers compared; values read off. -/
import Derived.Test.YtlfoglklibhbnaaGreatEj
import Derived.Laws.StructEq
set_option linter.unusedVariables false
set_option linter.unusedSimpArgs false
namespace Go.Proofs.YtlfoglklibhbnaaGreat.Sx
open Go.RowKit

def intFields (P : Program) : Nat → List Field → Prop
  | _, [] => True
  | k, f :: fs => f.name ≠ "_" ∧ P.underlying f.type = some (.int .i64) ∧ f.offset = k ∧ intFields P (k + 1) fs

theorem run_part_int {P : Program} {t : TypeId} (h : P.underlying t = some (.int .i64)) {cs : Array Value} {k : Nat} {v : Value} (hv : cs[k]? = some v) (w : World) : (Go.part t cs k).run P w = .ok v w := by
  unfold Go.part
  have : (isAgg t).run P w = .ok false w := by unfold isAgg; simp [Sem.run_bind, run_underlying h]
  simp [Sem.run_bind, this, hv]

theorem run_eqFields {P : Program} {d : Nat} (w : World) : ∀ (fs : List Field) (k : Nat) (l m : List Int), intFields P k fs → l.length = k + fs.length → m.length = k + fs.length →
    (Op.eqFields (d + 1) (l.map (Value.int .i64)).toArray (m.map (Value.int .i64)).toArray fs).run P w = .ok (eqI (l.drop k) (m.drop k)) w
  | [], k, l, m, h, hl, hm => by
    have e1 : l.drop k = [] := List.drop_eq_nil_of_le (by simp at hl; omega)
    rw [e1]; rfl
  | f :: fs, k, l, m, h, hl, hm => by
    obtain ⟨h1, h2, h3, h4⟩ := h
    simp only [List.length_cons] at hl hm
    have gl := List.getElem?_eq_getElem (l := l) (i := k) (by omega)
    have gm := List.getElem?_eq_getElem (l := m) (i := k) (by omega)
    have a1 : ((l.map (Value.int .i64)).toArray)[k]? = some (.int .i64 l[k]) := by simp [gl]
    have a2 : ((m.map (Value.int .i64)).toArray)[k]? = some (.int .i64 m[k]) := by simp [gm]
    unfold Op.eqFields
    rw [if_pos h1, h3]
    simp only [Sem.run_bind, run_part_int h2 a1, run_part_int h2 a2, Result.andThen_ok, run_equalIn_int w d f.type .i64 .i64 _ _ h2]
    rw [List.drop_eq_getElem_cons (by omega : k < l.length), List.drop_eq_getElem_cons (by omega : k < m.length)]
    simp only [eqI]
    cases hb : (l[k] == m[k])
    · simp
    · simp only [Bool.not_true, Bool.false_eq_true, if_false, Bool.true_and]
      exact run_eqFields w fs (k + 1) l m h4 (by omega) (by omega)

theorem eqOk_struct {P : Program} {t : TypeId} {fs : List Field} (hu : P.underlying t = some (.struct fs.toArray)) (hs : P.stoodInHeld t = false) (hg : P.eqGuardType P.depth t = false) (hf : intFields P 0 fs) : EqOk P t fs.length := by
  have hu' : P.underlying t = some (.struct (P.fieldsOf t)) := by unfold Program.fieldsOf; rw [hu]
  have hfs : (P.fieldsOf t).toList = fs := by unfold Program.fieldsOf; rw [hu]
  intro x y l m w hl hm
  have e := run_equalIn_struct (P := P) w 9999 t (l.map (Value.int .i64)).toArray (m.map (Value.int .i64)).toArray hu' hs
  rw [hfs, run_eqFields w fs 0 l m hf (by omega) (by omega)] at e
  simp only [List.drop_zero] at e
  constructor
  · rw [Sem.run_bind, run_eqGuard_agg w _ _ _ _ _ _ hg, Result.andThen_ok, run_eql_struct, e]; rfl
  · rw [Sem.run_bind, run_eqGuard_agg w _ _ _ _ _ _ hg, Result.andThen_ok, run_neq_struct, e]; rfl

/- Values of numbers alone, read off. -/
def valInts (σ : Env) : List AV → Option (List Value)
  | [] => some []
  | .int e :: l => (valInts σ l).map (.int .i64 (den σ e).i :: ·)
  | .bool e :: l => (valInts σ l).map (.bool (den σ e).b :: ·)
  | _ :: _ => none
def val1 (σ : Env) : AV → Option Value
  | .int e => some (.int .i64 (den σ e).i)
  | .bool e => some (.bool (den σ e).b)
  | .agg l => (valInts σ l).map fun vs => .agg vs.toArray
  | _ => none
def vals1 (σ : Env) : List AV → Option (List Value)
  | [] => some []
  | x :: l => match val1 σ x, vals1 σ l with
    | some v, some vs => some (v :: vs)
    | _, _ => none
def valOf (σ : Env) : AV → Option Value
  | .tuple l => (vals1 σ l).map fun vs => .tuple vs.toArray
  | x => val1 σ x

section
variable {σ : Env} {ρ : Nat → Option Nat}
theorem valInts_ok : ∀ {l : List AV} {vs us : List Value}, valInts σ l = some vs → relL σ ρ l us → us = vs
  | [], vs, us, h, k => by simp [valInts] at h; subst h; exact k
  | x :: l, vs, us, h, k => by
    obtain ⟨u, us', rfl, h1, h2⟩ := k
    cases x <;> simp only [valInts, reduceCtorEq, Option.map_eq_some_iff] at h
    · obtain ⟨vs', h3, rfl⟩ := h
      rw [valInts_ok h3 h2, show u = _ from h1]
    · obtain ⟨vs', h3, rfl⟩ := h
      rw [valInts_ok h3 h2, show u = _ from h1]
theorem val1_ok {x : AV} {v u : Value} (h : val1 σ x = some v) (k : rel σ ρ x u) : u = v := by
  cases x <;> simp only [val1, reduceCtorEq, Option.some.injEq, Option.map_eq_some_iff] at h
  · subst h; exact k
  · subst h; exact k
  · obtain ⟨vs, h1, rfl⟩ := h
    obtain ⟨us, rfl, h2⟩ := k
    have := valInts_ok h1 h2
    rw [← this]
theorem vals1_ok : ∀ {l : List AV} {vs us : List Value}, vals1 σ l = some vs → relL σ ρ l us → us = vs
  | [], vs, us, h, k => by simp [vals1] at h; subst h; exact k
  | x :: l, vs, us, h, k => by
    obtain ⟨u, us', rfl, h1, h2⟩ := k
    unfold vals1 at h
    split at h
    · rename_i v vs' h3 h4
      simp only [Option.some.injEq] at h; subst h
      rw [vals1_ok h4 h2, val1_ok h3 h1]
    · cases h
theorem valOf_ok {x : AV} {v u : Value} (h : valOf σ x = some v) (k : rel σ ρ x u) : u = v := by
  unfold valOf at h
  split at h
  · simp only [Option.map_eq_some_iff] at h
    obtain ⟨vs, h1, rfl⟩ := h
    obtain ⟨us, rfl, h2⟩ := k
    have := vals1_ok h1 h2
    rw [← this]
  · exact val1_ok h k
end

theorem flat_val {P : Program} {σ : Env} {W : World} {G : List Int → Prop} {cx : Cx} {d f : Nat} {sh : List Sh} {F : List Int → Value} {R : AV} {h' : Hp} (hx : ∀ l, G l → CxOk P (σ.at l) W cx)
    (hk : acall cx d false f [] (argsG sh 0 0) (heapG sh 0) = .leaf (R, h')) (hR : ∀ l, l.length = lenSh sh → G l → valOf (σ.at l) R = some (F l)) : Flat P σ W G f sh F :=
  flat_of hx hk fun l hl hg ρ u hu => valOf_ok (hR l hl hg) hu

theorem flat_sel {P : Program} {σ : Env} {W : World} {G : List Int → Prop} {cx : Cx} {d f : Nat} {sh : List Sh} {F : List Int → Value} {T : Tree (AV × Hp)} (hx : ∀ l, G l → CxOk P (σ.at l) W cx)
    (hk : acall cx d false f [] (argsG sh 0 0) (heapG sh 0) = T) (hR : ∀ l, l.length = lenSh sh → G l → ((T.map fun r => valOf (σ.at l) r.1).sel (σ.at l)) = some (some (F l))) : Flat P σ W G f sh F := by
  intro l ρ w0 w us hl hgl hW hW0 h0 hv hH hf
  obtain ⟨r, h1, h2⟩ := sel_map (hR l hl hgl)
  refine ((acall_sound (hx l hgl) d).alone f [] _ _ r us ρ w0 w (pcOk.nil _) (by rw [hk]; exact h1) hW hW0 h0 hv hH hf).mono ?_
  rintro e w' ⟨u, rfl, hu, hg⟩
  exact ⟨by rw [valOf_ok h2 hu], hg⟩

theorem cx_more {P : Program} {σ : Env} {W : World} {G : List Int → Prop} {cx : Cx} {inl : List Nat} (hx : ∀ l, G l → CxOk P (σ.at l) W cx) {cs : List Con} (hc : ∀ c ∈ cs, ∀ l, G l → ConOk P (σ.at l) W c) : ∀ l, G l → CxOk P (σ.at l) W ⟨cx.ty, cx.fn, cs ++ cx.con, inl, cx.eqs⟩ := by
  intro l hl
  refine ⟨(hx l hl).ty, (hx l hl).fn, fun c hc' => ?_, (hx l hl).eqs, (hx l hl).mixed⟩
  rcases List.mem_append.1 hc' with h | h
  · exact hc c h l hl
  · exact (hx l hl).con c h
theorem valsI_at (σ : Env) (a : List Int) (id : Nat) (l : List Int) : ∀ (n k : Nat), valsI (σ.at a) id l k n = valsI σ id l k n
  | 0, k => rfl
  | n + 1, k => by simp only [valsI, valsI_at σ a id l n (k + 1)]; rfl
theorem resV_at (σ : Env) (a : List Int) (id : Nat) (l : List Int) : ∀ (out : List O) (k b : Nat), resV (σ.at a) id l out k b = resV σ id l out k b
  | [], k, b => rfl
  | .i :: r, k, b => by simp only [resV, resV_at σ a id l r]; rfl
  | .b :: r, k, b => by simp only [resV, resV_at σ a id l r]; rfl
  | .g n :: r, k, b => by simp only [resV, resV_at σ a id l r, valsI_at]
def Any (_ : List Int) : Prop := True
def AllI (l : List Int) : Prop := ∀ a ∈ l, I a
def noChk (_ : List SE) : Bool := true
theorem at_eq {P : Program} {σ : Env} {W : World} {G : List Int → Prop} {f : Nat} {sh : List Sh} {out : List O} {id : Nat} (hF : Flat P σ W G f sh fun l => tupleV (resV σ id l out 0 0)) (l : List Int) : Flat P (σ.at l) W G f sh fun l' => tupleV (resV (σ.at l) id l' out 0 0) := by
  have e : (fun l' => tupleV (resV (σ.at l) id l' out 0 0)) = fun l' => tupleV (resV σ id l' out 0 0) := by funext l'; rw [resV_at]
  rw [e]; exact hF
theorem flat_con' {P : Program} {σ : Env} {W : World} {f : Nat} {sh : List Sh} {out : List O} {id : Nat} (hF : Flat P σ W Any f sh fun l => tupleV (resV σ id l out 0 0)) {G : List Int → Prop} (l : List Int) (_ : G l) : ConOk P (σ.at l) W (flatCon f sh out id noChk) :=
  flat_con (σ := σ.at l) (fun _ _ => trivial) (at_eq hF l)

/- Numbers that an int holds. -/
def rangeOk (ok : Nat → Bool) : SE → Bool
  | .var _ => true
  | .lit n => decide (-9223372036854775808 ≤ n) && decide (n ≤ 9223372036854775807)
  | .ite _ t e => rangeOk ok t && rangeOk ok e
  | .app f _ _ => ok f
  | .rem a _ => rangeOk ok a
  | _ => true
def rangesOk (ok : Nat → Bool) : List SE → Bool
  | [] => true
  | e :: l => rangeOk ok e && rangesOk ok l
theorem I_zero : I 0 := by unfold I; decide
theorem wrap_I (x : Int) : I (IntKind.i64.wrap x) := by
  unfold IntKind.wrap I
  simp only [IntKind.signed, IntKind.bits]
  simp
  split <;> omega
theorem tmod_I' {a b : Int} (h : I a) : I (a.tmod b) := by
  have h1 : (a.tmod b).natAbs = a.natAbs % b.natAbs := Int.natAbs_tmod a b
  have h2 : a.natAbs % b.natAbs ≤ a.natAbs := Nat.mod_le _ _
  have h3 : 0 ≤ a → 0 ≤ a.tmod b := fun h => Int.tmod_nonneg b h
  have h4 : a ≤ 0 → a.tmod b ≤ 0 := by
    intro h
    have := Int.tmod_nonneg b (show 0 ≤ -a by omega)
    rw [Int.neg_tmod] at this; omega
  unfold I at *; omega
theorem rangeOk_I {σ : Env} {ok : Nat → Bool} (hv : ∀ i, I (σ.v i)) (hf : ∀ f k l, ok f = true → I (σ.fi f k l)) : ∀ (e : SE), rangeOk ok e = true → I (σ.i e)
  | .var i, _ => hv i
  | .lit n, h => by simp only [rangeOk, Bool.and_eq_true, decide_eq_true_eq] at h; exact h
  | .ite c t e, h => by
    simp only [rangeOk, Bool.and_eq_true] at h
    show I (if (den σ c).b then (den σ t).i else (den σ e).i)
    split
    · exact rangeOk_I hv hf t h.1
    · exact rangeOk_I hv hf e h.2
  | .app f k a, h => hf f k _ h
  | .rem a b, h => tmod_I' (rangeOk_I hv hf a h)
  | .add a b, _ => wrap_I _
  | .sub a b, _ => wrap_I _
  | .mul a b, _ => wrap_I _
  | .quo a b, _ => wrap_I _
  | .blit _, _ => I_zero
  | .eq _ _, _ => I_zero
  | .lt _ _, _ => I_zero
  | .le _ _, _ => I_zero
  | .no _, _ => I_zero
  | .nil, _ => I_zero
  | .cons _ _, _ => I_zero
theorem rangesOk_I {σ : Env} {ok : Nat → Bool} (hv : ∀ i, I (σ.v i)) (hf : ∀ f k l, ok f = true → I (σ.fi f k l)) : ∀ (es : List SE), rangesOk ok es = true → AllI (es.map σ.i)
  | [], _ => by intro a h; cases h
  | e :: l, h => by
    simp only [rangesOk, Bool.and_eq_true] at h
    intro a ha
    rcases List.mem_cons.1 ha with rfl | ha
    · exact rangeOk_I hv hf e h.1
    · exact rangesOk_I hv hf l h.2 a ha
theorem at_v {σ : Env} {l : List Int} (h : AllI l) (i : Nat) : I ((σ.at l).v i) := by
  show I (l.getD i 0)
  rcases Nat.lt_or_ge i l.length with hl | hl
  · have : l.getD i 0 = l[i] := by simp [List.getD, List.getElem?_eq_getElem hl]
    rw [this]; exact h _ (List.getElem_mem hl)
  · have : l.getD i 0 = 0 := by simp [List.getD, List.getElem?_eq_none hl]
    rw [this]; unfold I; decide
theorem flat_conI {P : Program} {σ : Env} {W : World} {f : Nat} {sh : List Sh} {out : List O} {id : Nat} {ok : Nat → Bool} (hf : ∀ f k l, ok f = true → I (σ.fi f k l)) (hF : Flat P σ W AllI f sh fun l => tupleV (resV σ id l out 0 0)) (l : List Int) (hl : AllI l) :
    ConOk P (σ.at l) W (flatCon f sh out id (rangesOk ok)) :=
  flat_con (σ := σ.at l) (fun es h => rangesOk_I (at_v hl) hf es h) (at_eq hF l)

/- A law run at given numbers. -/
def intsV (l : List Int) (i : Nat) : Nat → List Value
  | 0 => []
  | n + 1 => .int .i64 (l.getD i 0) :: intsV l (i + 1) n
def argsV (l : List Int) : List Sh → Nat → List Value
  | [], _ => []
  | .i :: r, i => .int .i64 (l.getD i 0) :: argsV l r (i + 1)
  | .g n :: r, i => .agg (intsV l i n).toArray :: argsV l r (i + n)
  | .s _ _ k :: r, i => .nilFunc :: argsV l r (i + k)
def noSl : List Sh → Bool
  | [] => true
  | .s _ _ _ :: _ => false
  | _ :: r => noSl r
theorem rel_intsV {σ : Env} {ρ : Nat → Option Nat} (l : List Int) : ∀ (n i : Nat), relL (σ.at l) ρ (vars i n) (intsV l i n)
  | 0, i => rfl
  | n + 1, i => ⟨_, _, rfl, rfl, rel_intsV l n (i + 1)⟩
theorem rel_argsV {σ : Env} {ρ : Nat → Option Nat} (l : List Int) : ∀ (sh : List Sh) (i nm : Nat), noSl sh = true → relL (σ.at l) ρ (argsG sh i nm) (argsV l sh i) ∧ heapG sh i = []
  | [], i, nm, _ => ⟨rfl, rfl⟩
  | .i :: r, i, nm, h => by
    obtain ⟨h1, h2⟩ := rel_argsV l r (i + 1) nm h
    exact ⟨⟨_, _, rfl, rfl, h1⟩, h2⟩
  | .g n :: r, i, nm, h => by
    obtain ⟨h1, h2⟩ := rel_argsV l r (i + n) nm h
    exact ⟨⟨_, _, rfl, ⟨_, rfl, rel_intsV l n i⟩, h1⟩, h2⟩
  | .s _ _ _ :: _, _, _, h => by cases h
theorem flat_run {P : Program} {σ : Env} {W : World} {G : List Int → Prop} {f : Nat} {sh : List Sh} {F : List Int → Value} (hF : Flat P σ W G f sh F) (hs : noSl sh = true) (l : List Int) (hl : l.length = lenSh sh) (hG : G l) :
    Calls P f (argsV l sh 0).toArray W fun e w' => e = .returned (F l) ∧ Gr W w' := by
  obtain ⟨h1, h2⟩ := rel_argsV (σ := σ) (ρ := fun _ => none) l sh 0 0 hs
  refine hF l (fun _ => none) W W _ hl hG (Gr.refl W) (Nat.le_refl _) (Nat.le_refl _) h1 ?_ (fun _ _ => rfl)
  rw [h2]; exact hrel_nil W W fun _ => rfl

theorem vars_eq {σ : Env} {ρ : Nat → Option Nat} {l : List Int} : ∀ (n i : Nat) {us : List Value}, relL (σ.at l) ρ (vars i n) us → us = intsV l i n
  | 0, i, us, h => h
  | n + 1, i, us, h => by
    obtain ⟨u, us', rfl, h1, h2⟩ := h
    rw [vars_eq n (i + 1) h2]
    have h1 : u = .int .i64 (l.getD i 0) := h1
    rw [h1]; rfl
theorem argsG_eq {σ : Env} {ρ : Nat → Option Nat} {l : List Int} : ∀ (sh : List Sh) (i nm : Nat) {us : List Value}, noSl sh = true → relL (σ.at l) ρ (argsG sh i nm) us → us = argsV l sh i
  | [], i, nm, us, _, h => h
  | .i :: r, i, nm, us, hs, h => by
    obtain ⟨u, us', rfl, h1, h2⟩ := h
    rw [argsG_eq r (i + 1) nm hs h2]
    have h1 : u = .int .i64 (l.getD i 0) := h1
    rw [h1]; rfl
  | .g n :: r, i, nm, us, hs, h => by
    obtain ⟨u, us', rfl, ⟨vs, h1, h3⟩, h2⟩ := h
    rw [argsG_eq r (i + n) nm hs h2, h1]
    have := vars_eq n i h3
    have e : vs = (intsV l i n).toArray := by apply Array.ext'; simpa using this
    rw [e]; rfl
  | .s _ _ _ :: _, _, _, _, hs, _ => by cases hs
/-- A contract that was walked by hand. -/
theorem flat_calls {P : Program} {σ : Env} {W : World} {G : List Int → Prop} {f : Nat} {sh : List Sh} {F : List Int → Value} (hs : noSl sh = true)
    (h : ∀ (l : List Int) (w : World), l.length = lenSh sh → G l → Calls P f (argsV l sh 0).toArray w fun e w' => e = .returned (F l) ∧ Gr w w') : Flat P σ W G f sh F := by
  intro l ρ w0 w us hl hG hW hW0 h0 hv hH hf
  rw [argsG_eq sh 0 0 hs hv]
  exact h l w hl hG

/- Plain words. -/
theorem cut1 {l : List Int} {n : Nat} (h : l.length = n + 1) : ∃ a r, l = a :: r ∧ r.length = n := by
  cases l with
  | nil => cases h
  | cons a r => exact ⟨a, r, rfl, by simpa using h⟩
theorem cut0 {l : List Int} (h : l.length = 0) : l = [] := List.eq_nil_of_length_eq_zero h
theorem bt1 (c q : Bool) : (if c = true then true else q) = (c || q) := by cases c <;> rfl
theorem bt2 (c q : Bool) : (if c = true then false else q) = (!c && q) := by cases c <;> rfl
theorem bt3 (c q : Bool) : (if c = true then q else false) = (c && q) := by cases c <;> simp
theorem bt4 (c q : Bool) : (if c = true then q else true) = (!c || q) := by cases c <;> simp
theorem wr {x : Int} (h : -9223372036854775808 ≤ x ∧ x ≤ 9223372036854775807) : IntKind.i64.wrap x = x := by
  unfold IntKind.wrap
  simp only [IntKind.signed, IntKind.bits]
  simp
  omega
end Go.Proofs.YtlfoglklibhbnaaGreat.Sx
