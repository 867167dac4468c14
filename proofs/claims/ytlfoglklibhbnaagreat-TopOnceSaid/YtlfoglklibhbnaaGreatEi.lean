/- The reckoner: code, functions, calls. -/
import Derived.Test.YtlfoglklibhbnaaGreatEs
set_option linter.unusedVariables false
set_option linter.unusedSimpArgs false
namespace Go.Proofs.YtlfoglklibhbnaaGreat.Sx
open Go.RowKit

theorem joinHp_get (g : SE) : ∀ (l m : Hp) (n : Nat) (B : Bk), (joinHp g l m)[n]? = some (some B) → ∃ b c, l[n]? = some (some b) ∧ m[n]? = some (some c) ∧ joinBk g (some b) (some c) = some B
  | a :: l, b :: m, 0, B, h => by
    simp only [joinHp, List.getElem?_cons_zero, Option.some.injEq] at h
    rcases a with _ | a
    · cases h
    · rcases b with _ | b
      · cases h
      · exact ⟨a, b, rfl, rfl, h⟩
  | a :: l, b :: m, n + 1, B, h => by
    simp only [joinHp, List.getElem?_cons_succ] at h
    simpa using joinHp_get g l m n B h
  | a :: l, [], 0, B, h => by simp [joinHp] at h
  | a :: l, [], n + 1, B, h => by
    simp only [joinHp, List.getElem?_cons_succ, List.getElem?_map] at h
    cases hh : l[n]? with
    | none => rw [hh] at h; cases h
    | some x => rw [hh] at h; simp at h
  | [], m, n, B, h => by
    simp only [joinHp, List.getElem?_map] at h
    cases hh : m[n]? with
    | none => rw [hh] at h; cases h
    | some x => rw [hh] at h; simp at h
theorem joinHp_len (g : SE) : ∀ (l m : Hp), l.length ≤ (joinHp g l m).length ∧ m.length ≤ (joinHp g l m).length
  | a :: l, b :: m => by have := joinHp_len g l m; simp only [joinHp, List.length_cons]; omega
  | a :: l, [] => by simp [joinHp]
  | [], m => by simp [joinHp]

theorem joinHp_ok {σ : Env} {ρ : Nat → Option Nat} {w0 w : World} {g : SE} {l m : Hp} (h : HRel σ ρ (if σ.b g then l else m) w0 w) : HRel σ ρ (joinHp g l m) w0 w := by
  refine ⟨fun n B hn => ?_, h.inj, h.lt⟩
  obtain ⟨b, c, h1, h2, h3⟩ := joinHp_get g l m n B hn
  unfold joinBk at h3
  simp only at h3
  cases hk : (Nat.beq b.elem c.elem && (b.own == c.own))
  · simp [hk] at h3
  · simp only [hk, cond_true, Option.map_eq_some_iff] at h3
    simp only [Bool.and_eq_true, beq_iff_eq] at hk
    obtain ⟨k1, k2⟩ := hk
    have k1 := Nat.eq_of_beq_eq_true k1
    obtain ⟨cs, h4, rfl⟩ := h3
    cases hg : σ.b g
    · simp only [hg, Bool.false_eq_true, if_false] at h
      obtain ⟨bb, vs, q1, q2, q3, q4⟩ := h.blk n c h2
      refine ⟨bb, vs, q1, by simpa [k1] using q2, relL_joinCells h4 (by simpa [hg] using q3), fun ho => q4 (by rw [← k2]; exact ho)⟩
    · simp only [hg, if_true] at h
      obtain ⟨bb, vs, q1, q2, q3, q4⟩ := h.blk n b h1
      exact ⟨bb, vs, q1, q2, relL_joinCells h4 (by simpa [hg] using q3), q4⟩

theorem joinSt_ok {σ : Env} {ρ : Nat → Option Nat} {a : Act} {w0 w : World} {g : SE} {s t c : St} (h : joinSt g s t = some c) (hs : SRel σ ρ (if σ.b g then s else t) a w0 w) : SRel σ ρ c a w0 w := by
  unfold joinSt at h
  cases hcl : clash s.tm t.tm
  case true => rw [hcl] at h; cases h
  rw [hcl] at h
  simp only [cond_false] at h
  unfold joinSt0 at h
  simp only [Option.map_eq_some_iff] at h
  obtain ⟨tm, h1, rfl⟩ := h
  have e1 : (if σ.b g then s else t).tm = (if σ.b g then s.tm else t.tm) := by split <;> rfl
  have e2 : (if σ.b g then s else t).hp = (if σ.b g then s.hp else t.hp) := by split <;> rfl
  refine ⟨relL_joinAVs h1 (by rw [← e1]; exact hs.tm), joinHp_ok (by rw [← e2]; exact hs.hp), fun n hn => hs.fresh n ?_⟩
  have := joinHp_len g s.hp t.hp
  simp only at hn
  rw [e2]
  split <;> omega

theorem sel_joinSt {σ : Env} {t : Tree St} {c : St} (h : (t.join joinSt).sel σ = some c) : ∃ s, t.sel σ = some s ∧ ∀ ρ a w0 w, SRel σ ρ s a w0 w → SRel σ ρ c a w0 w := by
  obtain ⟨s, h1, _⟩ := sel_join (fun _ => True) (fun _ _ _ _ _ _ => trivial) h
  refine ⟨s, h1, fun ρ a w0 w hs => ?_⟩
  obtain ⟨s', h2, h3⟩ := sel_join (fun s => SRel σ ρ s a w0 w) (fun g x y z hj hr => joinSt_ok hj hr) h
  rw [h1] at h2; simp only [Option.some.injEq] at h2; subst h2
  exact h3 hs

theorem Ex.same_eq {a b : Ex} (h : a.same b = true) : a = b := by
  unfold Ex.same at h
  split at h
  · rfl
  · rw [Nat.eq_of_beq_eq_true h]
  · rfl
  · cases h

theorem sel_joinEx {σ : Env} {t : Tree (Ex × St)} {c : Ex × St} (h : (t.join joinEx).sel σ = some c) : ∃ s, t.sel σ = some (c.1, s) ∧ ∀ ρ a w0 w, SRel σ ρ s a w0 w → SRel σ ρ c.2 a w0 w := by
  have hj : ∀ (R : Ex → St → Prop), (∀ g x s t c, joinSt g s t = some c → R x (if σ.b g then s else t) → R x c) → ∀ g (a b c : Ex × St), joinEx g a b = some c → R (if σ.b g then a else b).1 (if σ.b g then a else b).2 → R c.1 c.2 := by
    intro R hR g a b c hh hr
    unfold joinEx at hh
    cases hs : a.1.same b.1
    · simp [hs] at hh
    · simp only [hs, cond_true, Option.map_eq_some_iff] at hh
      obtain ⟨s, h1, rfl⟩ := hh
      have e := Ex.same_eq hs
      have e1 : (if σ.b g then a else b).1 = a.1 := by split <;> simp [e]
      have e2 : (if σ.b g then a else b).2 = (if σ.b g then a.2 else b.2) := by split <;> rfl
      rw [e1, e2] at hr
      exact hR g _ _ _ _ h1 hr
  obtain ⟨s, h1, _⟩ := sel_join (fun _ => True) (fun _ _ _ _ _ _ => trivial) h
  have hx : s.1 = c.1 := by
    obtain ⟨s', h2, h3⟩ := sel_join (fun y : Ex × St => s.1 = y.1) (fun g a b d hh hr => hj (fun x _ => s.1 = x) (fun _ _ _ _ _ _ hr => hr) g a b d hh hr) h
    rw [h1] at h2; simp only [Option.some.injEq] at h2; subst h2
    exact h3 rfl
  refine ⟨s.2, by rw [h1, ← hx], fun ρ a w0 w hs => ?_⟩
  obtain ⟨s', h2, h3⟩ := sel_join (fun y : Ex × St => SRel σ ρ y.2 a w0 w) (fun g a' b d hh hr => hj (fun _ y => SRel σ ρ y a w0 w) (fun _ _ _ _ _ hq hr => joinSt_ok hq hr) g a' b d hh hr) h
  rw [h1] at h2; simp only [Option.some.injEq] at h2; subst h2
  exact h3 hs

def Ex.out : Ex → Exit
  | .normal => .normal
  | .exit id => .exit id
  | .ret => .ret

section
variable {P : Program} {σ : Env} {W : World} {cx : Cx} {callf : Bool → Nat → Pc → List AV → Hp → Tree (AV × Hp)}

/-- What is asked of what comes behind. -/
def Then (σ : Env) (ρ : Nat → Option Nat) (a : Act) (w0 w : World) (r : Ex × St) (Q : Exit → Act → World → Prop) : Prop :=
  ∀ a' w' ρ', sub ρ ρ' → SRel σ ρ' r.2 a' w0 w' → Below w0.heap.size w w' → a'.defers = a.defers → Q r.1.out a' w'

theorem aexec_sound (hx : CxOk P σ W cx) (hc : CallOk P σ W callf) : ∀ (n : Nat) (c : Code) {pc : Pc} {s : St} {r : Ex × St} {ρ : Nat → Option Nat} {a : Act} {w0 w : World} {Q : Exit → Act → World → Prop},
    pcOk σ pc → (aexec cx callf n c pc s).sel σ = some r → SRel σ ρ s a w0 w → Gr W w → W.heap.size ≤ w0.heap.size → w0.heap.size ≤ w.heap.size → Then σ ρ a w0 w r Q →
    c.wp P Q a w ∧ ∀ x, c = .loop x → Code.rounds P x Q n a w
  | 0, c, pc, s, r, ρ, a, w0, w, Q, hp, h, hs, hW, hW0, h0, hQ => by simp [aexec, Tree.sel] at h
  | n + 1, c, pc, s, r, ρ, a, w0, w, Q, hp, h, hs, hW, hW0, h0, hQ => by
    have next : ∀ {a' w' ρ'}, sub ρ ρ' → Below w0.heap.size w w' → a'.defers = a.defers → Then σ ρ' a' w0 w' r Q := by
      intro a' w' ρ' h1 h2 h3 a2 w2 ρ2 k1 k2 k3 k4
      exact hQ a2 w2 ρ2 (h1.trans k1) k2 (h2.trans k3) (k4.trans h3)
    unfold aexec at h
    cases c with
    | skip =>
      have := sel_leaf h; subst this
      exact ⟨wp_skip (hQ a w ρ (sub.refl _) hs (Below.refl _ _) rfl), fun x hx => by cases hx⟩
    | region id ops draw =>
      refine ⟨?_, fun x hx => by cases hx⟩
      cases draw with
      | false =>
        simp only at h
        obtain ⟨s', h1, rfl⟩ := sel_map h
        obtain ⟨s1, h2, h3⟩ := sel_joinSt h1
        refine wp_region_list ?_
        have := aplain_sound hx hc (Q := Q) ops.toList hp h2 hs hW hW0 h0 (fun a' w' ρ' k1 k2 k3 k4 => hQ a' w' ρ' k1 (h3 _ _ _ _ k2) k3 k4)
        simpa using this
      | true =>
        simp only at h
        obtain ⟨s', h1, rfl⟩ := sel_map h
        obtain ⟨s1, h2, h3⟩ := sel_joinSt h1
        have hg : Gr w w.drew := (Gr.refl w).drew
        refine wp_region_any hx.mixed ?_
        split at h2
        · rename_i p hlast
          obtain ⟨l0, o⟩ := p
          obtain ⟨e1, e2, e3, e4⟩ := lastCall_ok hlast
          have eo : ops = (l0 ++ [o]).toArray := by rw [← e1]
          obtain ⟨s2, pc2, hp2, h4, h5⟩ := sel_bind hp h2
          rw [e1] at h5
          unfold aregion at h4
          simp only at h4
          cases hk : (edgesOk 0 l0 && drawOkAt l0 (befores l0 []) (l0.map (tgtOf l0 s.tm)) 0 l0)
          · simp only [hk, cond_false] at h4; exact (sel_fail h4).elim
          · simp only [hk, cond_true] at h4
            simp only [Bool.and_eq_true] at hk
            subst eo
            have hrun := adraw_sound hx hc (Q := Q1 P (l0 ++ [o]).toArray Q l0.length) (w := w.drew) hk.1 (by simp) hk.2 hp h4 ⟨hs.tm, hs.hp.gr hg, hs.fresh⟩ (Below.trans hW (Below.mono hg (Nat.le_trans hW0 h0))) hW0 h0
              (fun a' w' ρ' k1 k2 k3 k4 => by
                have hgo : Below w0.heap.size w w' := (Below.mono hg h0).trans k3
                have hl := aplain_sound hx hc (Q := Q) [o] hp2 h5 k2 (Below.trans hW (Below.mono hgo hW0)) hW0 (Nat.le_trans h0 hgo.size)
                  (fun a2 w2 ρ2 q1 q2 q3 q4 => hQ a2 w2 ρ2 (k1.trans q1) (h3 _ _ _ _ q2) (hgo.trans q3) (q4.trans k4))
                show wpOp P (l0 ++ [o]).toArray Q l0.length (fun a w => Q .normal a w) a' w'
                have ho : (l0 ++ [o]).toArray[l0.length]? = some o := by simp
                unfold wpOp
                rw [ho]
                exact hl)
            have hsz : (l0 ++ [o]).toArray.size = l0.length + 1 := by simp
            have hz : l0.toArray.size = l0.length := by simp
            rw [hz] at hrun
            rw [hsz, Array.replicate_succ]
            refine any_last e2 e3 e4 l0.length (Array.replicate l0.length false) a _ (by simp) (cnt_self _ _) (fun i z hi hL => ?_) hrun
            exfalso
            have hil : i < l0.length := by
              apply Classical.byContradiction; intro hn
              rw [List.getElem?_eq_none (by omega)] at hi; cases hi
            simp [Array.getD, hil] at hL
        · unfold aregion at h2
          simp only at h2
          cases hk : (edgesOk 0 ops.toList && drawOkAt ops.toList (befores ops.toList []) (ops.toList.map (tgtOf ops.toList s.tm)) 0 ops.toList)
          · simp only [hk, cond_false] at h2; exact (sel_fail h2).elim
          · simp only [hk, cond_true] at h2
            simp only [Bool.and_eq_true] at hk
            have := adraw_sound hx hc (Q := Q) (w := w.drew) hk.1 (by simp) hk.2 hp h2 ⟨hs.tm, hs.hp.gr hg, hs.fresh⟩ (Below.trans hW (Below.mono hg (Nat.le_trans hW0 h0))) hW0 h0
              (fun a' w' ρ' k1 k2 k3 k4 => hQ a' w' ρ' k1 (h3 _ _ _ _ k2) ((Below.mono hg h0).trans k3) k4)
            simpa using this
    | seq x y =>
      refine ⟨?_, fun x hx => by cases hx⟩
      simp only at h
      obtain ⟨r1, pc1, hp1, h1, h2⟩ := sel_bind hp h
      refine wp_seq ?_
      refine (aexec_sound hx hc n x hp h1 hs hW hW0 h0 ?_).1
      intro a' w' ρ' k1 k2 k3 k4
      obtain ⟨e, s1⟩ := r1
      cases e with
      | normal =>
        simp only at h2
        exact (aexec_sound hx hc n y hp1 h2 k2 (Below.trans hW (Below.mono k3 hW0)) hW0 (Nat.le_trans h0 k3.size) (next k1 k3 k4)).1
      | exit id => have := sel_leaf h2; subst this; exact hQ a' w' ρ' k1 k2 k3 k4
      | ret => have := sel_leaf h2; subst this; exact hQ a' w' ρ' k1 k2 k3 k4
    | cond co x y =>
      refine ⟨?_, fun x hx => by cases hx⟩
      simp only at h
      split at h
      · rename_i e he
        obtain ⟨s1, h1, h2⟩ := sel_joinEx h
        obtain ⟨pc1, hp1, h1⟩ := sel_part hp h1
        have hev : a.eval co = .bool (σ.b e) := rel_ev hs.tm he
        refine wp_cond hev ?_
        have hQ' : Then σ ρ a w0 w (r.1, s1) Q := fun a' w' ρ' k1 k2 k3 k4 => hQ a' w' ρ' k1 (h2 _ _ _ _ k2) k3 k4
        cases hb : σ.b e
        · rw [hb] at h1
          simp only [cond_false] at h1
          exact (aexec_sound hx hc n y hp1 h1 hs hW hW0 h0 hQ').1
        · rw [hb] at h1
          simp only [cond_true] at h1
          exact (aexec_sound hx hc n x hp1 h1 hs hW hW0 h0 hQ').1
      · exact (sel_fail h).elim
    | block id x =>
      refine ⟨?_, fun x hx => by cases hx⟩
      simp only at h
      obtain ⟨s1, h1, h2⟩ := sel_joinEx h
      obtain ⟨r1, h3, h4⟩ := sel_map h1
      refine wp_block ?_
      refine (aexec_sound hx hc n x hp h3 hs hW hW0 h0 ?_).1
      intro a' w' ρ' k1 k2 k3 k4
      obtain ⟨e, s2⟩ := r1
      cases e with
      | normal =>
        simp only [Prod.mk.injEq] at h4
        obtain ⟨h5, rfl⟩ := h4
        have := hQ a' w' ρ' k1 (h2 _ _ _ _ k2) k3 k4
        rw [← h5] at this; exact this
      | exit i =>
        simp only at h4
        simp only [Ex.out, Exit.inBlock]
        cases hb : Nat.beq i id
        · rw [hb] at h4
          simp only [cond_false, Prod.mk.injEq] at h4
          obtain ⟨h5, rfl⟩ := h4
          have hne : i ≠ id := fun e => by rw [e, Nat.beq_refl] at hb; cases hb
          rw [if_neg hne]
          have := hQ a' w' ρ' k1 (h2 _ _ _ _ k2) k3 k4
          rw [← h5] at this; exact this
        · rw [hb] at h4
          simp only [cond_true, Prod.mk.injEq] at h4
          obtain ⟨h5, rfl⟩ := h4
          rw [if_pos (Nat.eq_of_beq_eq_true hb)]
          have := hQ a' w' ρ' k1 (h2 _ _ _ _ k2) k3 k4
          rw [← h5] at this; exact this
      | ret =>
        simp only [Prod.mk.injEq] at h4
        obtain ⟨h5, rfl⟩ := h4
        have := hQ a' w' ρ' k1 (h2 _ _ _ _ k2) k3 k4
        rw [← h5] at this; exact this
    | loop x =>
      simp only at h
      obtain ⟨r1, pc1, hp1, h1, h2⟩ := sel_bind hp h
      have hr : Code.rounds P x Q (n + 1) a w := by
        rw [rounds_succ]
        refine (aexec_sound hx hc n x hp h1 hs hW hW0 h0 ?_).1
        intro a' w' ρ' k1 k2 k3 k4
        obtain ⟨e, s1⟩ := r1
        cases e with
        | normal =>
          simp only at h2
          exact (aexec_sound hx hc n (.loop x) hp1 h2 k2 (Below.trans hW (Below.mono k3 hW0)) hW0 (Nat.le_trans h0 k3.size) (next k1 k3 k4)).2 x rfl
        | exit id => have := sel_leaf h2; subst this; exact hQ a' w' ρ' k1 k2 k3 k4
        | ret => have := sel_leaf h2; subst this; exact hQ a' w' ρ' k1 k2 k3 k4
      exact ⟨wp_loop_rounds (n + 1) hr, fun y hy => by injection hy with hy; subst hy; exact hr⟩
    | exit id =>
      have := sel_leaf h; subst this
      exact ⟨wp_exit (hQ a w ρ (sub.refl _) hs (Below.refl _ _) rfl), fun x hx => by cases hx⟩
    | ret =>
      have := sel_leaf h; subst this
      exact ⟨wp_ret (hQ a w ρ (sub.refl _) hs (Below.refl _ _) rfl), fun x hx => by cases hx⟩
    | _ => exact (sel_fail h).elim

theorem aresult_ok (hx : CxOk P σ W cx) {s : St} {ρ : Nat → Option Nat} {a : Act} {w0 w : World} (hs : SRel σ ρ s a w0 w) : ∀ (l : List ResultVar) {vs : List AV}, aresult cx s l = some vs →
    ∃ us, (l.mapM fun x => (match x with | .tmp t => pure (a.tmps.getD t undef) | .cell b t => do loadVar t (← asAddr (a.tmps.getD b undef)) : Sem Value)).run P w = .ok us w ∧ relL σ ρ vs us
  | [], vs, h => by simp [aresult] at h; subst h; exact ⟨[], rfl, rfl⟩
  | .tmp t :: l, vs, h => by
    unfold aresult at h
    split at h
    · rename_i v m hv hm
      simp only [Option.some.injEq] at h; subst h
      obtain ⟨us, h1, h2⟩ := aresult_ok hx hs l hm
      obtain ⟨u, u1, u2⟩ := relL_get hs.tm t v hv
      have e : a.tmps.getD t undef = u := by
        simp only [Array.getD_eq_getD_getElem?]
        rw [← Array.getElem?_toList, u1]; rfl
      refine ⟨u :: us, ?_, u, us, rfl, u2, h2⟩
      simp only [List.mapM_cons, Sem.run_bind, Sem.run_pure, Result.andThen_ok, h1, e]
    · cases h
  | .cell b t :: l, vs, h => by
    unfold aresult at h
    split at h
    · rename_i n off ti m hv hti hm
      obtain ⟨us, h1, h2⟩ := aresult_ok hx hs l hm
      obtain ⟨u, u1, u2⟩ := relL_get hs.tm b _ hv
      obtain ⟨bb, hb, rfl⟩ := u2
      have e : a.tmps.getD b undef = .pointer (some ⟨bb, off, none⟩) := by
        simp only [Array.getD_eq_getD_getElem?]
        rw [← Array.getElem?_toList, u1]; rfl
      have ea : (asAddr (a.tmps.getD b undef)).run P w = .ok ⟨bb, off, none⟩ w := by rw [e]; rfl
      have ht := hx.tyf hti
      cases ha : ti.agg
      · simp only [ha, cond_false] at h
        split at h
        · rename_i c hc'
          simp only [Option.some.injEq] at h; subst h
          obtain ⟨b', vs', T, q1, q2, q3, q4⟩ := readAt_ok hs.hp hc'
          rw [hb] at q1; simp only [Option.some.injEq] at q1; subst q1
          obtain ⟨u, us', h5, h6, h7⟩ := q4
          have h7 : us' = [] := h7
          subst h7
          have hg := take_one (l := vs'.toList) (off := off) ⟨u, h5, rfl⟩
          refine ⟨u :: us, ?_, u, us, rfl, h6, h2⟩
          simp only [List.mapM_cons, Sem.run_bind, ea, Sem.run_pure, Result.andThen_ok, run_loadVar_one ht ha q2 (by simpa using hg : vs'[off]? = some u), h1]
        · cases h
      · simp only [ha, cond_true, Option.map_eq_some_iff] at h
        obtain ⟨cs, hcs, rfl⟩ := h
        obtain ⟨b', vs', T, q1, q2, q3, q4⟩ := readAt_ok hs.hp hcs
        rw [hb] at q1; simp only [Option.some.injEq] at q1; subst q1
        refine ⟨.agg ((vs'.toList.drop off).take ti.size).toArray :: us, ?_, _, us, rfl, ⟨_, rfl, by simpa using q4⟩, h2⟩
        simp only [List.mapM_cons, Sem.run_bind, ea, Sem.run_pure, Result.andThen_ok, run_loadVar_agg ht ha q2 q3, h1]
    · cases h

theorem results_ok (hx : CxOk P σ W cx) {s : St} {ρ : Nat → Option Nat} {a : Act} {w0 w : World} (hs : SRel σ ρ s a w0 w) {fn : Func} {vs : List AV} (h : aresult cx s fn.results.toList = some vs) :
    ∃ u, (results fn a.tmps).run P w = .ok u w ∧ rel σ ρ (tuple1 vs) u := by
  obtain ⟨us, h1, h2⟩ := aresult_ok hx hs _ h
  unfold results
  simp only [Sem.run_bind, Array.mapM_eq_mapM_toList, Sem.run_map]
  have e : (fn.results.toList.mapM fun x => (match x with | .tmp t => pure (a.tmps.getD t undef) | .cell b t => do loadVar t (← asAddr (a.tmps.getD b undef)) : Sem Value)).run P w = .ok us w := h1
  erw [e]
  simp only [Result.andThen_ok, Sem.run_pure]
  have hl := relL_length h2
  match vs, us, h2, hl with
  | [], [], _, _ => exact ⟨_, rfl, _, rfl, rfl⟩
  | [v], [u], h2, _ => exact ⟨_, rfl, (relL_cons.1 h2).1⟩
  | v :: v' :: vs, u :: u' :: us, h2, _ => exact ⟨_, rfl, _, rfl, h2⟩

theorem sel_joinRet {t : Tree (AV × Hp)} {c : AV × Hp} (h : (t.join joinRet).sel σ = some c) : ∃ s, t.sel σ = some s ∧ ∀ ρ w0 w u, HRel σ ρ s.2 w0 w → (∀ n, s.2.length ≤ n → ρ n = none) → rel σ ρ s.1 u → HRel σ ρ c.2 w0 w ∧ (∀ n, c.2.length ≤ n → ρ n = none) ∧ rel σ ρ c.1 u := by
  obtain ⟨s, h1, _⟩ := sel_join (fun _ => True) (fun _ _ _ _ _ _ => trivial) h
  refine ⟨s, h1, fun ρ w0 w u hs hf hr => ?_⟩
  obtain ⟨s', h2, h3⟩ := sel_join (fun s : AV × Hp => HRel σ ρ s.2 w0 w ∧ (∀ n, s.2.length ≤ n → ρ n = none) ∧ rel σ ρ s.1 u) (fun g x y z hj hr => by
    unfold joinRet at hj
    simp only [Option.some.injEq] at hj; subst hj
    have e1 : (if σ.b g then x else y).1 = (if σ.b g then x.1 else y.1) := by split <;> rfl
    have e2 : (if σ.b g then x else y).2 = (if σ.b g then x.2 else y.2) := by split <;> rfl
    rw [e1, e2] at hr
    refine ⟨joinHp_ok hr.1, fun n hn => hr.2.1 n ?_, rel_joinAV hr.2.2⟩
    have := joinHp_len g x.2 y.2
    simp only at hn
    split <;> omega) h
  rw [h1] at h2; simp only [Option.some.injEq] at h2; subst h2
  exact h3 ⟨hs, hf, hr⟩

theorem abody_sound (hx : CxOk P σ W cx) (hc : CallOk P σ W callf) {f : Nat} {pc : Pc} {vs : List AV} {h : Hp} {r : AV × Hp} {us : List Value} {ρ : Nat → Option Nat} {w0 w : World}
    (hp : pcOk σ pc) (hr : (abody cx callf f pc vs h).sel σ = some r) (hW : Gr W w) (hW0 : W.heap.size ≤ w0.heap.size) (h0 : w0.heap.size ≤ w.heap.size) (hv : relL σ ρ vs us) (hH : HRel σ ρ h w0 w) (hf : ∀ n, h.length ≤ n → ρ n = none) :
    Calls P f us.toArray w fun e w' => ∃ u ρ', e = .returned u ∧ sub ρ ρ' ∧ (∀ n, r.2.length ≤ n → ρ' n = none) ∧ HRel σ ρ' r.2 w0 w' ∧ rel σ ρ' r.1 u ∧ Below w0.heap.size w w' := by
  unfold abody at hr
  split at hr
  · rename_i fn hfn
    have hfo := hx.fnf hfn
    split at hr
    · rename_i c hbody
      obtain ⟨r1, h1, h2⟩ := sel_joinRet hr
      obtain ⟨r2, pc2, hp2, h3, h4⟩ := sel_bind hp h1
      refine calls_of_wp hfo.1 hbody ?_
      have hl := relL_length hv
      have hs : SRel σ ρ ⟨vs ++ List.replicate (fn.ntmps - vs.length) .undef, h⟩ { tmps := us.toArray ++ Array.replicate (fn.ntmps - us.toArray.size) undef, defers := [] } w0 w := by
        refine ⟨?_, hH, hf⟩
        simp only [Array.toList_append, Array.toList_replicate, List.size_toArray]
        rw [hl]
        exact relL_append hv (relL_replicate rel_undef _)
      refine (aexec_sound hx hc _ c hp h3 hs hW hW0 h0 ?_).1
      intro a' w' ρ' k1 k2 k3 k4
      obtain ⟨e, s2⟩ := r2
      have fin : ∀ e', e' = Exit.normal ∨ e' = Exit.ret → (ofOption ((aresult cx s2 fn.results.toList).map fun l => (tuple1 l, s2.hp))).sel σ = some r1 →
          bodyPost P fn (fun e w' => ∃ u ρ', e = .returned u ∧ sub ρ ρ' ∧ (∀ n, r.2.length ≤ n → ρ' n = none) ∧ HRel σ ρ' r.2 w0 w' ∧ rel σ ρ' r.1 u ∧ Below w0.heap.size w w') e' a' w' := by
        intro e' he' hh
        have hh := sel_ofOption hh
        simp only [Option.map_eq_some_iff] at hh
        obtain ⟨l, hl1, rfl⟩ := hh
        obtain ⟨u, u1, u2⟩ := results_ok hx k2 hl1
        obtain ⟨q1, q2, q3⟩ := h2 ρ' w0 w' u k2.hp k2.fresh u2
        rcases he' with rfl | rfl
        · exact ⟨k4, u, u1, u, ρ', rfl, k1, q2, q1, q3, k3⟩
        · exact ⟨k4, u, u1, u, ρ', rfl, k1, q2, q1, q3, k3⟩
      cases e with
      | normal => exact fin _ (.inl rfl) h4
      | exit id => exact (sel_fail h4).elim
      | ret => exact fin _ (.inr rfl) h4
    · exact (sel_fail hr).elim
  · exact (sel_fail hr).elim

theorem findCon_ok {f : Nat} {vs : List AV} {h : Hp} {v : AV} : ∀ {l : List Con}, findCon f vs h l = some v → ∃ c ∈ l, c.f = f ∧ c.res vs h = some v
  | [], hh => by cases hh
  | c :: l, hh => by
    unfold findCon at hh
    cases hb : Nat.beq c.f f
    · simp only [hb, cond_false] at hh
      obtain ⟨d, h1, h2⟩ := findCon_ok hh
      exact ⟨d, by simp [h1], h2⟩
    · simp only [hb, cond_true] at hh
      split at hh
      · rename_i v' hv
        simp only [Option.some.injEq] at hh; subst hh
        exact ⟨c, by simp, Nat.eq_of_beq_eq_true hb, hv⟩
      · obtain ⟨d, h1, h2⟩ := findCon_ok hh
        exact ⟨d, by simp [h1], h2⟩

/- Names that were there before. -/
theorem isIn_ok {h : Hp} {m : Nat} (hi : isIn h m = true) {ρ ρ' : Nat → Option Nat} {w0 w : World} (hH : HRel σ ρ h w0 w) (hs : sub ρ ρ') {b : Nat} (hb : ρ' m = some b) : ρ m = some b := by
  unfold isIn at hi
  split at hi
  · rename_i B hB
    obtain ⟨c, vs, h1, _⟩ := hH.blk m B hB
    have := hs _ _ h1
    rw [hb] at this; simp only [Option.some.injEq] at this
    rw [h1, this]
  · cases hi
theorem rel_namesIn {h : Hp} {ρ ρ' : Nat → Option Nat} {w0 w : World} (hH : HRel σ ρ h w0 w) (hs : sub ρ ρ') : ∀ {l : List AV} {us : List Value}, namesIn h l = true → relL σ ρ' l us → relL σ ρ l us
  | [], us, _, hr => hr
  | x :: l, us, hn, hr => by
    obtain ⟨u, us', rfl, h1, h2⟩ := hr
    cases x with
    | int e => exact ⟨u, us', rfl, h1, rel_namesIn hH hs hn h2⟩
    | bool e => exact ⟨u, us', rfl, h1, rel_namesIn hH hs hn h2⟩
    | ptr p =>
      rcases p with _ | ⟨m, o⟩
      · exact ⟨u, us', rfl, h1, rel_namesIn hH hs hn h2⟩
      · simp only [namesIn, Bool.and_eq_true] at hn
        obtain ⟨b, hb, rfl⟩ := h1
        exact ⟨_, us', rfl, ⟨b, isIn_ok hn.1 hH hs hb, rfl⟩, rel_namesIn hH hs hn.2 h2⟩
    | slice p a b =>
      rcases p with _ | ⟨m, o⟩
      · exact ⟨u, us', rfl, h1, rel_namesIn hH hs hn h2⟩
      · simp only [namesIn, Bool.and_eq_true] at hn
        obtain ⟨b, hb, rfl⟩ := h1
        exact ⟨_, us', rfl, ⟨b, isIn_ok hn.1 hH hs hb, rfl⟩, rel_namesIn hH hs hn.2 h2⟩
    | func fn a b => cases hn
    | nilFunc => exact ⟨u, us', rfl, h1, rel_namesIn hH hs hn h2⟩
    | agg l' => cases hn
    | tuple l' => cases hn
    | raw i => exact ⟨u, us', rfl, h1, rel_namesIn hH hs hn h2⟩
    | any => exact ⟨u, us', rfl, h1, rel_namesIn hH hs hn h2⟩
theorem rel_namesIn1 {h : Hp} {ρ ρ' : Nat → Option Nat} {w0 w : World} (hH : HRel σ ρ h w0 w) (hs : sub ρ ρ') {x : AV} {u : Value} (hn : namesIn1 h x = true) (hr : rel σ ρ' x u) : rel σ ρ x u := by
  unfold namesIn1 at hn
  split at hn
  · obtain ⟨vs, rfl, h2⟩ := hr
    exact ⟨vs, rfl, rel_namesIn hH hs hn h2⟩
  · have : relL σ ρ' [x] [u] := ⟨u, [], rfl, hr, rfl⟩
    exact (relL_cons.1 (rel_namesIn hH hs hn this)).1
theorem rel_namesIn1s {h : Hp} {ρ ρ' : Nat → Option Nat} {w0 w : World} (hH : HRel σ ρ h w0 w) (hs : sub ρ ρ') : ∀ {l : List AV} {us : List Value}, namesIn1s h l = true → relL σ ρ' l us → relL σ ρ l us
  | [], us, _, hr => hr
  | x :: l, us, hn, hr => by
    obtain ⟨u, us', rfl, h1, h2⟩ := hr
    simp only [namesIn1s, Bool.and_eq_true] at hn
    exact ⟨u, us', rfl, rel_namesIn1 hH hs hn.1 h1, rel_namesIn1s hH hs hn.2 h2⟩
theorem rel_namesIn2 {h : Hp} {ρ ρ' : Nat → Option Nat} {w0 w : World} (hH : HRel σ ρ h w0 w) (hs : sub ρ ρ') {x : AV} {u : Value} (hn : namesIn2 h x = true) (hr : rel σ ρ' x u) : rel σ ρ x u := by
  unfold namesIn2 at hn
  split at hn
  · obtain ⟨vs, rfl, h2⟩ := hr
    exact ⟨vs, rfl, rel_namesIn1s hH hs hn h2⟩
  · exact rel_namesIn1 hH hs hn hr

theorem weaken_ok {h : Hp} {ρ : Nat → Option Nat} {w0 w : World} (hH : HRel σ ρ h w0 w) : HRel σ ρ (weaken h) w w := by
  refine ⟨fun n B hn => ?_, hH.inj, hH.lt⟩
  simp only [weaken, List.getElem?_map] at hn
  cases hh : h[n]? with
  | none => rw [hh] at hn; cases hn
  | some b =>
    rw [hh] at hn
    cases b with
    | none => simp at hn
    | some C =>
      simp only [Option.map_some, Option.some.injEq] at hn; subst hn
      obtain ⟨b, vs, h1, h2, h3, h4⟩ := hH.blk n C hh
      exact ⟨b, vs, h1, h2, h3, fun ho => by cases ho⟩

theorem acall_sound (hx : CxOk P σ W cx) : ∀ d, CallOk P σ W (acall cx d)
  | 0 => ⟨fun f pc vs h r us ρ w0 w hp hr => (sel_fail hr).elim, fun f pc vs h r us ρ w0 w hp hr => (sel_fail hr).elim⟩
  | d + 1 => by
    have ih := acall_sound hx d
    refine ⟨fun f pc vs h r us ρ w0 w hp hr hW hW0 h0 hv hH hf => ?_, fun f pc vs h r us ρ w0 w hp hr hW hW0 h0 hv hH hf => ?_⟩
    · unfold acall at hr
      simp only [cond_false] at hr
      split at hr
      · rename_i v hc
        have := sel_leaf hr; subst this
        obtain ⟨c, h1, rfl, h2⟩ := findCon_ok hc
        exact hx.con c h1 vs h v us ρ w0 w h2 hW hW0 hv hH
      · obtain ⟨r1, pc1, hp1, h1, h2⟩ := sel_bind hp hr
        cases hn : namesIn2 h r1.1
        · simp only [hn, cond_false] at h2; exact (sel_fail h2).elim
        · simp only [hn, cond_true] at h2
          have := sel_leaf h2; subst this
          have hWs : W.heap.size ≤ w.heap.size := hW.size
          refine (abody_sound hx ih hp h1 hW hWs (Nat.le_refl _) hv (weaken_ok hH) (fun n hn => hf n (by simpa [weaken] using hn))).mono ?_
          rintro e w' ⟨u, ρ', rfl, k1, k2, k3, k4, k5⟩
          exact ⟨u, rfl, rel_namesIn2 hH k1 hn k4, k5⟩
    · unfold acall at hr
      simp only [cond_true] at hr
      exact abody_sound hx ih hp hr hW hW0 h0 hv hH hf

theorem hrel_nil {ρ : Nat → Option Nat} (w0 w : World) (h : ∀ n, ρ n = none) : HRel σ ρ [] w0 w :=
  ⟨fun n B hn => (by simp at hn), fun n m b h1 _ => (by rw [h] at h1; cases h1), fun n b h1 => (by rw [h] at h1; cases h1)⟩

/-- WHAT IS RECKONED IS SO. -/
theorem reckoned (hx : CxOk P σ W cx) {d f : Nat} {vs : List AV} {r : AV × Hp} {us : List Value} (h : (acall cx d false f [] vs []).sel σ = some r) (hv : relL σ (fun _ => none) vs us) :
    Calls P f us.toArray W fun e w' => ∃ u, e = .returned u ∧ rel σ (fun _ => none) r.1 u ∧ Gr W w' :=
  (acall_sound hx d).alone f [] vs [] r us _ W W (pcOk.nil σ) h (Gr.refl W) (Nat.le_refl _) (Nat.le_refl _) hv (hrel_nil W W fun _ => rfl) fun _ _ => rfl
end
end Go.Proofs.YtlfoglklibhbnaaGreat.Sx
