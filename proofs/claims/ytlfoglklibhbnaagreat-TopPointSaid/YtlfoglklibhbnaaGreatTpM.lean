/- Parts of the proof of TopPoint. No condition of their own. -/
import Derived.Test.YtlfoglklibhbnaaGreatTpG
import Derived.CallsIn
import Derived.OrdersIn
import Derived.TacticsIn
import Derived.LoopNIn
set_option linter.unusedVariables false
set_option linter.unusedSimpArgs false
namespace Go.Proofs.YtlfoglklibhbnaaGreat.Sx
open Go.RowKit
def isDef (o : Oper) : Bool := match o.op with
 | .defer _ => true
 | _ => false
def noDef : Code → Bool
 | .region _ ops _ => ops.toList.all fun o => !isDef o
 | .seq x y => noDef x && noDef y
 | .cond _ x y => noDef x && noDef y
 | .block _ x => noDef x
 | .loop x => noDef x
 | _ => true
section
variable {P : Program} {Q : Exit → Act → World → Prop}
theorem isDef_ne {o : Oper} (h : isDef o = false) : ∀ c, o.op ≠ .defer c := by
 intro c e
 unfold isDef at h
 rw [e] at h
 cases h
theorem op_in {l m : Nat} {o : Oper} {a : Act} {w : World} {K : Act → World → Prop} (hd : isDef o = false) (h : o.wp P a w K Q) : o.wpIn (Fence.wide.inRound l) m P a w K Q := by
 refine ⟨fun _ _ => trivial, ?_⟩
 rw [Oper.semAt_eq _ _ _ (isDef_ne hd)]
 unfold Oper.wp at h
 generalize (execOp a.eval o).run P w = r at h
 cases r with
 | ok x w' =>
  cases x <;> simp only [Oper.upon] at h <;> simp only [Oper.uponIn]
  case value => exact h
  case skip => exact h
  case defer => exact h
  case enter f args =>
   refine ⟨(fun e => by cases e), ?_⟩
   have := callsIn_wide (n := m - 1) |>.2 h
   exact ⟨trivial, this.2⟩
  case row row args =>
   refine ⟨(fun e => by cases e), fun c cs _ => ?_⟩
   obtain ⟨v, w'', h1, h2⟩ := h c cs
   exact ⟨v, w'', h1, stepsIn_wide.2 h2⟩
 | halt x w' => cases x <;> simp only [Oper.upon] at h <;> simp only [Oper.uponIn] <;> exact h
theorem list_in {l m : Nat} {ops : Array Oper} (hQ : ¬ LetsOut Q) : ∀ (rest : List Oper) {a : Act} {w : World}, (rest.all fun o => !isDef o) = true → wpList P ops Q rest a w → wpListIn (Fence.wide.inRound l) m P ops Q rest a w
 | [], a, w, _, h => h
 | o :: rest, a, w, hd, h => by
  simp only [List.all_cons, Bool.and_eq_true, Bool.not_eq_true'] at hd
  unfold wpList at h
  unfold wpListIn
  split
  ·rename_i hw
   rw [if_pos hw] at h
   rcases h with h | h
   ·exact op_in hd.1 (Oper.wp_mono (fun a w => list_in hQ rest (by simpa using hd.2)) h)
   ·exact absurd h.2 hQ
  ·rename_i hw
   rw [if_neg hw] at h
   exact ⟨fun _ _ => trivial, list_in hQ rest (by simpa using hd.2) h⟩
theorem any_in {l m : Nat} {md : Region.Mode} {ops : Array Oper} (hQ : ¬ LetsOut Q) (hd : (ops.toList.all fun o => !isDef o) = true) : ∀ (fuel : Nat) {listed : Array Bool} {a : Act} {w : World}, wpAny P md ops Q fuel listed a w → wpAnyIn (Fence.wide.inRound l) m P md ops Q fuel listed a w
 | 0, listed, a, w, h => h
 | fuel + 1, listed, a, w, h => by
  unfold wpAny at h
  unfold wpAnyIn
  refine ⟨h.1, fun i hi => ?_⟩
  have h2 := h.2 i hi
  unfold wpOp at h2
  unfold wpOpIn
  cases ho : ops[i]? with
  | none => rw [ho] at h2; exact any_in hQ hd fuel h2
  | some o =>
   rw [ho] at h2
   have hdo : isDef o = false := by
    have := List.all_eq_true.1 hd o (by
     obtain ⟨hlt, e⟩ := Array.getElem?_eq_some_iff.1 ho
     rw [← e]
     exact Array.getElem_mem_toList hlt)
    simpa using this
   simp only at h2 ⊢
   split
   ·rename_i hw
    rw [if_pos hw] at h2
    rcases h2 with h2 | h2
    ·exact op_in hdo (Oper.wp_mono (fun a w => any_in hQ hd fuel) h2)
    ·exact absurd h2.2 hQ
   ·rename_i hw
    rw [if_neg hw] at h2
    exact ⟨fun _ _ => trivial, any_in hQ hd fuel h2⟩
end
def norm (Q : Exit → Act → World → Prop) : Exit → Act → World → Prop
 | .normal, a, w => Q .normal a w
 | _, _, _ => False
theorem norm_out (Q : Exit → Act → World → Prop) : ¬ LetsOut (norm Q) := fun ⟨_, _, h⟩ => h
section
variable {P : Program} {σ : Env} {W : World} {cx : Cx} {callf : Bool → Nat → Pc → List AV → Hp → Tree (AV × Hp)}
theorem region_list_ok (hx : CxOk P σ W cx) (hc : CallOk P σ W callf) {ops : Array Oper} {pc : Pc} {s s1 : St} {r : Ex × St} {ρ : Nat → Option Nat} {a : Act} {w0 w : World} {Q : Exit → Act → World → Prop}
  (hp : pcOk σ pc) (hs : SRel σ ρ s a w0 w) (hW : Gr W w) (hW0 : W.heap.size ≤ w0.heap.size) (h0 : w0.heap.size ≤ w.heap.size) (h2 : (aplain cx callf ops.toList ops.toList pc s).sel σ = some s1)
  (h3 : ∀ ρ a w0 w, SRel σ ρ s1 a w0 w → SRel σ ρ r.2 a w0 w) (hQ : ∀ a' w' ρ', sub ρ ρ' → SRel σ ρ' r.2 a' w0 w' → Below w0.heap.size w w' → a'.defers = a.defers → Q .normal a' w') : wpList P ops Q ops.toList a w := by
 have := aplain_sound hx hc (Q := Q) ops.toList hp h2 hs hW hW0 h0 (fun a' w' ρ' k1 k2 k3 k4 => hQ a' w' ρ' k1 (h3 _ _ _ _ k2) k3 k4)
 simpa using this
theorem region_any_ok (hx : CxOk P σ W cx) (hc : CallOk P σ W callf) {ops : Array Oper} {pc : Pc} {s s1 : St} {r : Ex × St} {ρ : Nat → Option Nat} {a : Act} {w0 w : World} {Q : Exit → Act → World → Prop}
  (hp : pcOk σ pc) (hs : SRel σ ρ s a w0 w) (hW : Gr W w) (hW0 : W.heap.size ≤ w0.heap.size) (h0 : w0.heap.size ≤ w.heap.size)
  (h2 : (match lastCall cx ops.toList with
   | some p => (aregion cx callf p.1 pc s).bind pc fun pc s1 => aplain cx callf ops.toList [p.2] pc s1
   | none => aregion cx callf ops.toList pc s).sel σ = some s1)
  (h3 : ∀ ρ a w0 w, SRel σ ρ s1 a w0 w → SRel σ ρ r.2 a w0 w) (hQ : ∀ a' w' ρ', sub ρ ρ' → SRel σ ρ' r.2 a' w0 w' → Below w0.heap.size w w' → a'.defers = a.defers → Q .normal a' w') :
  wpAny P .any ops Q ops.size (Array.replicate ops.size false) a w.drew := by
 have hg : Gr w w.drew := (Gr.refl w).drew
 split at h2
 ·rename_i p hlast
  obtain ⟨l0, o⟩ := p
  obtain ⟨e1, e2, e3, e4⟩ := lastCall_ok hlast
  have eo : ops = (l0 ++ [o]).toArray := by rw [← e1]
  obtain ⟨s2, pc2, hp2, h4, h5⟩ := sel_bind hp h2
  rw [e1] at h5
  unfold aregion at h4
  simp only at h4
  cases hk : (edgesOk 0 l0 && drawOkAt l0 (befores l0 []) (l0.map (tgtOf l0 s.tm)) 0 l0)
  ·simp only [hk, cond_false] at h4; exact (sel_fail h4).elim
  ·simp only [hk, cond_true] at h4
   simp only [Bool.and_eq_true] at hk
   subst eo
   have hrun := adraw_sound hx hc (Q := Q1 P (l0 ++ [o]).toArray Q l0.length) (w := w.drew) hk.1 (by simp) hk.2 hp h4 ⟨hs.tm, hs.hp.gr hg, hs.fresh⟩ (Below.trans hW (Below.mono hg (Nat.le_trans hW0 h0))) hW0 h0
    (fun a' w' ρ' k1 k2 k3 k4 => by
     have hgo : Below w0.heap.size w w' := (Below.mono hg h0).trans k3
     have hl := aplain_sound hx hc (Q := Q) [o] hp2 h5 k2 (Below.trans hW (Below.mono hgo hW0)) hW0 (Nat.le_trans h0 hgo.size)
      (fun a2 w2 ρ2 q1 q2 q3 q4 => hQ a2 w2 ρ2 (k1.trans q1) (h3 _ _ _ _ q2) (hgo.trans q3) (q4.trans k4))
     show wpOp P (l0 ++ [o]).toArray Q l0.length (fun a w => Q .normal a w) a' w'
     have ho : (l0 ++ [o]).toArray[l0.length]? = some o := by simp
     unfold wpOp
     rw [ho]
     exact hl)
   have hsz : (l0 ++ [o]).toArray.size = l0.length + 1 := by simp
   have hz : l0.toArray.size = l0.length := by simp
   rw [hz] at hrun
   rw [hsz, Array.replicate_succ]
   refine any_last e2 e3 e4 l0.length (Array.replicate l0.length false) a _ (by simp) (cnt_self _ _) (fun i z hi hL => ?_) hrun
   exfalso
   have hil : i < l0.length := by
    apply Classical.byContradiction; intro hn
    rw [List.getElem?_eq_none (by omega)] at hi; cases hi
   simp [Array.getD, hil] at hL
 ·unfold aregion at h2
  simp only at h2
  cases hk : (edgesOk 0 ops.toList && drawOkAt ops.toList (befores ops.toList []) (ops.toList.map (tgtOf ops.toList s.tm)) 0 ops.toList)
  ·simp only [hk, cond_false] at h2; exact (sel_fail h2).elim
  ·simp only [hk, cond_true] at h2
   simp only [Bool.and_eq_true] at hk
   have := adraw_sound hx hc (Q := Q) (w := w.drew) hk.1 (by simp) hk.2 hp h2 ⟨hs.tm, hs.hp.gr hg, hs.fresh⟩ (Below.trans hW (Below.mono hg (Nat.le_trans hW0 h0))) hW0 h0
    (fun a' w' ρ' k1 k2 k3 k4 => hQ a' w' ρ' k1 (h3 _ _ _ _ k2) ((Below.mono hg h0).trans k3) k4)
   simpa using this
theorem aexec_in (hx : CxOk P σ W cx) (hc : CallOk P σ W callf) {l m : Nat} : ∀ (n : Nat) (c : Code) (hnd : noDef c = true) {pc : Pc} {s : St} {r : Ex × St} {ρ : Nat → Option Nat} {a : Act} {w0 w : World} {Q : Exit → Act → World → Prop},
  pcOk σ pc → (aexec cx callf n c pc s).sel σ = some r → SRel σ ρ s a w0 w → Gr W w → W.heap.size ≤ w0.heap.size → w0.heap.size ≤ w.heap.size → Then σ ρ a w0 w r Q →
  c.wpIn (Fence.wide.inRound l) m P Q a w ∧ ∀ x, c = .loop x → Code.roundsIn (Fence.wide.inRound l) m P x Q n a w
 | 0, c, hnd, pc, s, r, ρ, a, w0, w, Q, hp, h, hs, hW, hW0, h0, hQ => by simp [aexec, Tree.sel] at h
 | n + 1, c, hnd, pc, s, r, ρ, a, w0, w, Q, hp, h, hs, hW, hW0, h0, hQ => by
  have next : ∀ {a' w' ρ'}, sub ρ ρ' → Below w0.heap.size w w' → a'.defers = a.defers → Then σ ρ' a' w0 w' r Q := by
   intro a' w' ρ' h1 h2 h3 a2 w2 ρ2 k1 k2 k3 k4
   exact hQ a2 w2 ρ2 (h1.trans k1) k2 (h2.trans k3) (k4.trans h3)
  unfold aexec at h
  cases c with
  | skip =>
   have := sel_leaf h; subst this
   exact ⟨wpIn_skip (hQ a w ρ (sub.refl _) hs (Below.refl _ _) rfl), fun x hx => by cases hx⟩
  | region id ops draw =>
   refine ⟨?_, fun x hx => by cases hx⟩
   refine wpIn_mono (Q := norm Q) ?_ (fun e a w h => by cases e <;> first | exact h | exact h.elim)
   cases draw with
   | false =>
    simp only at h
    obtain ⟨s', h1, rfl⟩ := sel_map h
    obtain ⟨s1, h2, h3⟩ := sel_joinSt h1
    exact wpIn_region_list (list_in (norm_out Q) _ hnd (region_list_ok (r := (.normal, s')) hx hc hp hs hW hW0 h0 h2 h3 hQ))
   | true =>
    simp only at h
    obtain ⟨s', h1, rfl⟩ := sel_map h
    obtain ⟨s1, h2, h3⟩ := sel_joinSt h1
    exact wpIn_region_any hx.mixed (any_in (norm_out Q) hnd _ (region_any_ok (r := (.normal, s')) hx hc hp hs hW hW0 h0 h2 h3 hQ))
  | seq x y =>
   simp only [noDef, Bool.and_eq_true] at hnd
   obtain ⟨HX, HY⟩ := hnd
   refine ⟨?_, fun x hx => by cases hx⟩
   simp only at h
   obtain ⟨r1, pc1, hp1, h1, h2⟩ := sel_bind hp h
   refine wpIn_seq ?_
   refine (aexec_in hx hc n x HX hp h1 hs hW hW0 h0 ?_).1
   intro a' w' ρ' k1 k2 k3 k4
   obtain ⟨e, s1⟩ := r1
   cases e with
   | normal =>
    simp only at h2
    exact (aexec_in hx hc n y HY hp1 h2 k2 (Below.trans hW (Below.mono k3 hW0)) hW0 (Nat.le_trans h0 k3.size) (next k1 k3 k4)).1
   | exit id => have := sel_leaf h2; subst this; exact hQ a' w' ρ' k1 k2 k3 k4
   | ret => have := sel_leaf h2; subst this; exact hQ a' w' ρ' k1 k2 k3 k4
  | cond co x y =>
   simp only [noDef, Bool.and_eq_true] at hnd
   obtain ⟨HX, HY⟩ := hnd
   refine ⟨?_, fun x hx => by cases hx⟩
   simp only at h
   split at h
   ·rename_i e he
    obtain ⟨s1, h1, h2⟩ := sel_joinEx h
    obtain ⟨pc1, hp1, h1⟩ := sel_part hp h1
    have hev : a.eval co = .bool (σ.b e) := rel_ev hs.tm he
    refine wpIn_cond hev ?_
    have hQ' : Then σ ρ a w0 w (r.1, s1) Q := fun a' w' ρ' k1 k2 k3 k4 => hQ a' w' ρ' k1 (h2 _ _ _ _ k2) k3 k4
    cases hb : σ.b e
    ·rw [hb] at h1
     simp only [cond_false] at h1
     exact (aexec_in hx hc n y HY hp1 h1 hs hW hW0 h0 hQ').1
    ·rw [hb] at h1
     simp only [cond_true] at h1
     exact (aexec_in hx hc n x HX hp1 h1 hs hW hW0 h0 hQ').1
   ·exact (sel_fail h).elim
  | block id x =>
   have HX : noDef x = true := hnd
   refine ⟨?_, fun x hx => by cases hx⟩
   simp only at h
   obtain ⟨s1, h1, h2⟩ := sel_joinEx h
   obtain ⟨r1, h3, h4⟩ := sel_map h1
   refine wpIn_block ?_
   refine (aexec_in hx hc n x HX hp h3 hs hW hW0 h0 ?_).1
   intro a' w' ρ' k1 k2 k3 k4
   obtain ⟨e, s2⟩ := r1
   cases e with
   | normal =>
    simp only [Prod.mk.injEq] at h4
    obtain ⟨h5, rfl⟩ := h4
    have := hQ a' w' ρ' k1 (h2 _ _ _ _ k2) k3 k4
    rw [← h5] at this; exact this
   | exit i =>
    simp only at h4
    simp only [Ex.out, Exit.inBlock]
    cases hb : Nat.beq i id
    ·rw [hb] at h4
     simp only [cond_false, Prod.mk.injEq] at h4
     obtain ⟨h5, rfl⟩ := h4
     have hne : i ≠ id := fun e => by rw [e, Nat.beq_refl] at hb; cases hb
     rw [if_neg hne]
     have := hQ a' w' ρ' k1 (h2 _ _ _ _ k2) k3 k4
     rw [← h5] at this; exact this
    ·rw [hb] at h4
     simp only [cond_true, Prod.mk.injEq] at h4
     obtain ⟨h5, rfl⟩ := h4
     rw [if_pos (Nat.eq_of_beq_eq_true hb)]
     have := hQ a' w' ρ' k1 (h2 _ _ _ _ k2) k3 k4
     rw [← h5] at this; exact this
   | ret =>
    simp only [Prod.mk.injEq] at h4
    obtain ⟨h5, rfl⟩ := h4
    have := hQ a' w' ρ' k1 (h2 _ _ _ _ k2) k3 k4
    rw [← h5] at this; exact this
  | loop x =>
   have HX : noDef x = true := hnd
   simp only at h
   obtain ⟨r1, pc1, hp1, h1, h2⟩ := sel_bind hp h
   have hr : Code.roundsIn (Fence.wide.inRound l) m P x Q (n + 1) a w := by
    rw [roundsIn_succ]
    refine (aexec_in hx hc n x HX hp h1 hs hW hW0 h0 ?_).1
    intro a' w' ρ' k1 k2 k3 k4
    obtain ⟨e, s1⟩ := r1
    cases e with
    | normal =>
     simp only at h2
     exact (aexec_in hx hc n (.loop x) hnd hp1 h2 k2 (Below.trans hW (Below.mono k3 hW0)) hW0 (Nat.le_trans h0 k3.size) (next k1 k3 k4)).2 x rfl
    | exit id => have := sel_leaf h2; subst this; exact hQ a' w' ρ' k1 k2 k3 k4
    | ret => have := sel_leaf h2; subst this; exact hQ a' w' ρ' k1 k2 k3 k4
   exact ⟨wpIn_loop_rounds (n + 1) hr, fun y hy => by injection hy with hy; subst hy; exact hr⟩
  | exit id =>
   have := sel_leaf h; subst this
   exact ⟨wpIn_exit (hQ a w ρ (sub.refl _) hs (Below.refl _ _) rfl), fun x hx => by cases hx⟩
  | ret =>
   have := sel_leaf h; subst this
   exact ⟨wpIn_ret (hQ a w ρ (sub.refl _) hs (Below.refl _ _) rfl), fun x hx => by cases hx⟩
  | _ => exact (sel_fail h).elim
end
end Go.Proofs.YtlfoglklibhbnaaGreat.Sx
