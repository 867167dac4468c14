/- Parts of the proof of TopPoint. No condition of their own. -/
import Derived.Test.YtlfoglklibhbnaaGreatTpE
import Derived.Laws.StructEq
set_option linter.unusedVariables false
set_option linter.unusedSimpArgs false
namespace Go.Proofs.YtlfoglklibhbnaaGreat.Sx
open Go.RowKit
section
variable {P : Program} {σ : Env} {W : World} {cx : Cx} {callf : Bool → Nat → Pc → List AV → Hp → Tree (AV × Hp)} {pc : Pc} {nm : Nat} {tm : List AV} {H : Hp} {e : Eff} {a : Act} {w w0 : World} {ρ : Nat → Option Nat}
theorem run_binInt {op : BinOp} {x y : Int} {t : TypeId} {v : Value} (p q : Operand)
  (h : (match op with
   | .add => some (Value.int .i64 (IntKind.i64.wrap (x + y))) | .sub => some (.int .i64 (IntKind.i64.wrap (x - y))) | .mul => some (.int .i64 (IntKind.i64.wrap (x * y)))
   | .quo => if y = 0 then none else some (.int .i64 (IntKind.i64.wrap (x.tdiv y))) | .rem => if y = 0 then none else some (.int .i64 (x.tmod y))
   | .eql => some (.bool (x == y)) | .neq => some (.bool (!(x == y))) | .lss => some (.bool (decide (x < y))) | .leq => some (.bool (decide (x ≤ y))) | .gtr => some (.bool (decide (y < x))) | .geq => some (.bool (decide (y ≤ x)))
   | _ => none) = some v) : (do eqGuard op t p q (.int .i64 x) (.int .i64 y); binOp op t (.int .i64 x) (.int .i64 y)).run P w = .ok v w := by
 cases op <;> simp only [reduceCtorEq, Option.some.injEq, Option.ite_none_left_eq_some] at h
 all_goals first
  | (obtain ⟨h0, h⟩ := h; subst h; simp [eqGuard, binOp, Op.intDiv, h0]; done)
  | (subst h; simp [eqGuard, binOp, Op.intArith, Op.intCmp, bne]; done)
theorem aop_sound (hx : CxOk P σ W cx) (hc : CallOk P σ W callf) {o : Oper} (hp : pcOk σ pc) (h : (aop cx callf pc nm tm H o).sel σ = some e) (he : EvOk σ ρ tm a o.op.operands.toList)
  (hH : HRel σ ρ H w0 w) (hf : ∀ n, H.length ≤ n → ρ n = none) (hW : Gr W w) (hW0 : W.heap.size ≤ w0.heap.size) (h0 : w0.heap.size ≤ w.heap.size)
  {K : Act → World → Prop} {Q : Exit → Act → World → Prop} (hK : EffK σ ρ w0 nm H o.dst a w K e) : o.wp P a w K Q := by
 obtain ⟨dst, op, ty, pos, after, guard⟩ := o
 cases op
 case move x =>
  simp only [aop] at h
  obtain ⟨v, hv, rfl⟩ := sel_val' h
  exact wp_of_run rfl (hK _ _ (he x (by simp [Op.operands]) v hv) (Gr.refl w))
 case assign x =>
  simp only [aop] at h
  obtain ⟨v, hv, rfl⟩ := sel_val' h
  exact wp_of_run rfl (hK _ _ (he x (by simp [Op.operands]) v hv) (Gr.refl w))
 case pick c x y =>
  simp only [aop] at h
  split at h
  ·rename_i ec hec
   obtain ⟨pc', hp', h⟩ := sel_part hp h
   obtain ⟨v, hv, rfl⟩ := sel_val' h
   have hc' : a.eval c = .bool (σ.b ec) := he c (by simp [Op.operands]) _ hec
   refine wp_of_run (u := a.eval (bif σ.b ec then x else y)) (w' := w) ?_ (hK _ _ (he _ ?_ v hv) (Gr.refl w))
   ·simp only [execOp, hc', asBool, Sem.run_bind, Sem.run_pure, Result.andThen_ok]
    cases σ.b ec <;> rfl
   ·cases σ.b ec <;> simp [Op.operands]
  ·exact (sel_fail h).elim
 case alloc t =>
  simp only [aop] at h
  have h := sel_ofOption h
  simp only [Option.map_eq_some_iff] at h
  obtain ⟨z, hz, rfl⟩ := h
  obtain ⟨v, hv, hr⟩ := hx.zeros (σ' := σ) (ρ := ρ) hz w
  refine wp_of_run (u := .pointer (some ⟨w.heap.size, 0, none⟩)) (w' := w.alloc (.cells v.cells t)) ?_ ?_
  ·exact run_v (by simp only [Instr.alloc, Sem.run_bind, hv, Result.andThen_ok]; rfl)
  ·exact hK _ _ w.heap.size v.cells (Nat.le_refl _) (by simp) (MapKept.heap_alloc w _).1 hr ⟨_, upd_self, rfl⟩ (gr_alloc _ _)
 case box t x =>
  simp only [aop] at h
  have h := sel_ofOption h
  simp only [Option.bind_eq_some_iff] at h
  obtain ⟨v, hv, h⟩ := h
  cases ho : oneAll v.cells
  ·simp [ho] at h
  ·simp only [ho, cond_true, Option.some.injEq] at h; subst h
   have hr := he x (by simp [Op.operands]) v hv
   refine wp_of_run (u := .pointer (some ⟨w.heap.size, 0, none⟩)) (w' := w.alloc (.cells (a.eval x).cells t)) (run_v rfl) ?_
   exact hK _ _ w.heap.size (a.eval x).cells (Nat.le_refl _) (by simp) (MapKept.heap_alloc w _).1 (relL_cells hr ho) ⟨_, upd_self, rfl⟩ (gr_alloc _ _)
 case build t ps =>
  simp only [aop] at h
  split at h
  ·rename_i qs z fs hqs hz hd
   cases hk : (fieldsKnown cx fs.toList && oneParts qs)
   ·simp only [hk, cond_false] at h; exact (sel_fail h).elim
   ·simp only [hk, cond_true] at h
    simp only [Bool.and_eq_true] at hk
    obtain ⟨v, hv, rfl⟩ := sel_val' h
    simp only [Option.map_eq_some_iff] at hv
    obtain ⟨r, hr, rfl⟩ := hv
    obtain ⟨zv, hzv, hzr⟩ := hx.zeros (σ' := σ) (ρ := ρ) hz w
    obtain ⟨g, hg, hmap⟩ := fieldsKnown_ok hx hk.1
    obtain ⟨e1, e2⟩ := evParts_ok (σ := σ) (ρ := ρ) (a := a) (fun y hy => he y (by simpa [Op.operands] using hy)) hqs
    obtain ⟨ws, hw1, hw2⟩ := fill_ok (place' := fun i => ((fs.toList.map fun f => (f.offset, g f)).toArray)[i]?) (by
     intro i p hp
     unfold placeOf at hp
     split at hp
     ·rename_i f hf'
      rw [hg f (List.mem_of_getElem? hf')] at hp
      simp only [Option.map_some, Option.some.injEq] at hp; subst hp
      simp [hf']
     ·cases hp) hr hzr e1 e2 (oneParts_ok hk.2)
    refine wp_of_run (u := .agg ws.toArray) (w' := w) (run_v ?_) (hK _ _ ⟨_, rfl, by simpa using hw2⟩ (Gr.refl w))
    unfold Instr.build
    simp only [Sem.run_bind, Sem.run_map, hzv, Result.andThen_ok, hx.desc hd, Array.mapM_eq_mapM_toList]
    rw [hmap w]
    simp only [Result.andThen_ok, Array.toList_map]
    have e3 : (Array.toList ps).map (fun x => match x with | (i, x) => (i, a.eval x)) = ps.toList.map fun p => (p.1, a.eval p.2) := rfl
    rw [Array.toArray_toList] at hw1
    rw [e3, hw1]
    rfl
  ·rename_i qs z n el hqs hz hd
   split at h
   ·rename_i s hs
    cases hk : oneParts qs
    ·simp only [hk, cond_false] at h; exact (sel_fail h).elim
    ·simp only [hk, cond_true] at h
     obtain ⟨v, hv, rfl⟩ := sel_val' h
     simp only [Option.map_eq_some_iff] at hv
     obtain ⟨r, hr, rfl⟩ := hv
     obtain ⟨zv, hzv, hzr⟩ := hx.zeros (σ' := σ) (ρ := ρ) hz w
     obtain ⟨e1, e2⟩ := evParts_ok (σ := σ) (ρ := ρ) (a := a) (fun y hy => he y (by simpa [Op.operands] using hy)) hqs
     obtain ⟨ws, hw1, hw2⟩ := fill_ok (place' := fun i => some (i * s, s)) (fun _ _ h => h) hr hzr e1 e2 (oneParts_ok hk)
     refine wp_of_run (u := .agg ws.toArray) (w' := w) (run_v ?_) (hK _ _ ⟨_, rfl, by simpa using hw2⟩ (Gr.refl w))
     unfold Instr.build
     simp only [Sem.run_bind, Sem.run_map, hzv, Result.andThen_ok, hx.desc hd, hx.size hs, Array.toList_map]
     have e3 : (Array.toList ps).map (fun x => match x with | (i, x) => (i, a.eval x)) = ps.toList.map fun p => (p.1, a.eval p.2) := rfl
     rw [Array.toArray_toList] at hw1
     rw [e3, hw1]
     rfl
   ·exact (sel_fail h).elim
  ·exact (sel_fail h).elim
 case buildSlice t len ps =>
  simp only [aop] at h
  split at h
  ·rename_i qs el hqs hd
   split at h
   ·rename_i s z hs hz
    cases hk : (Nat.beq z.length s && Nat.ble (len * s) 16777216 && Nat.blt 0 (len * s) && oneParts qs)
    ·simp only [hk, cond_false] at h; exact (sel_fail h).elim
    ·simp only [hk, cond_true] at h
     simp only [Bool.and_eq_true] at hk
     obtain ⟨⟨⟨k1, k2⟩, k3⟩, k4⟩ := hk
     have k1 := Nat.eq_of_beq_eq_true k1
     have k2 := Nat.le_of_ble_eq_true k2
     have k3 : 0 < len * s := Nat.le_of_ble_eq_true k3
     have h := sel_ofOption h
     simp only [Option.bind_eq_some_iff] at h
     obtain ⟨r, hr, h⟩ := h
     cases ho : oneAll r
     ·simp [ho] at h
     ·simp only [ho, cond_true, Option.some.injEq] at h; subst h
      obtain ⟨zv, hzv, hzr⟩ := hx.zeros (σ' := σ) (ρ := ρ) hz w
      have hzl := relL_length hzr
      have hpos : 0 < zv.cells.toList.length := by
       rw [← hzl, k1]; exact Nat.pos_of_ne_zero (fun hz => by rw [hz] at k3; simp at k3)
      obtain ⟨e1, e2⟩ := evParts_ok (σ := σ) (ρ := ρ) (a := a) (fun y hy => he y (by simpa [Op.operands] using hy)) hqs
      obtain ⟨ws, hw1, hw2⟩ := fill_ok (place' := fun i => some (i * s, s)) (fun _ _ h => h) hr (rep_ok hzr len) e1 e2 (oneParts_ok k4)
      have e4 : (Array.range (len * s)).map (fun i => zv.cells[i % zv.cells.size]!) = (rep zv.cells.toList len).toArray := by
       rw [← rep_range _ hpos len]
       apply Array.ext'
       simp only [Array.toList_map, Array.toList_range, Array.toArray_toList]
       rw [← hzl, k1]
      refine wp_of_run (u := .slice (some ⟨w.heap.size, 0, none⟩) len len) (w' := w.alloc (.cells ws.toArray el)) (run_v ?_) ?_
      ·unfold Instr.buildSlice
       simp only [Sem.run_bind, Sem.run_map, Result.andThen_ok, hx.desc hd, hx.size hs, Array.toList_map]
       rw [if_neg (by omega), if_neg (by omega)]
       simp only [Sem.run_bind, hzv, Result.andThen_ok, Sem.run_pure]
       have e3 : (Array.toList ps).map (fun x => match x with | (i, x) => (i, a.eval x)) = ps.toList.map fun p => (p.1, a.eval p.2) := rfl
       rw [e4, e3, hw1]
       rfl
      ·exact hK _ _ w.heap.size ws.toArray (Nat.le_refl _) (by simp) (MapKept.heap_alloc w _).1 (by simpa using hw2) ⟨_, upd_self, rfl⟩ (gr_alloc _ _)
   ·exact (sel_fail h).elim
  ·exact (sel_fail h).elim
 case load t x =>
  simp only [aop] at h
  split at h
  ·rename_i n off ti hv hti
   have ht := hx.tyf hti
   obtain ⟨b, hb, hxe⟩ : ∃ b, ρ n = some b ∧ a.eval x = .pointer (some ⟨b, off, none⟩) := he x (by simp [Op.operands]) _ hv
   cases ha : ti.agg
   ·simp only [ha, cond_false] at h
    split at h
    ·rename_i c hc'
     have := sel_leaf h; subst this
     obtain ⟨b', vs, T, h1, h2, h3, h4⟩ := readAt_ok hH hc'
     rw [hb] at h1; simp only [Option.some.injEq] at h1; subst h1
     obtain ⟨u, us, h5, h6, h7⟩ := h4
     have : us = [] := h7
     subst this
     have hg := take_one (l := vs.toList) (off := off) ⟨u, h5, rfl⟩
     refine wp_of_run (u := u) (w' := w) (run_v ?_) (hK _ _ h6 (Gr.refl w))
     rw [Instr.loadAt, hxe]
     exact run_loadVar_one ht ha h2 (by simpa using hg)
    ·exact (sel_fail h).elim
   ·simp only [ha, cond_true] at h
    obtain ⟨v, hv', rfl⟩ := sel_val' h
    simp only [Option.map_eq_some_iff] at hv'
    obtain ⟨cs, hcs, rfl⟩ := hv'
    obtain ⟨b', vs, T, h1, h2, h3, h4⟩ := readAt_ok hH hcs
    rw [hb] at h1; simp only [Option.some.injEq] at h1; subst h1
    refine wp_of_run (u := _) (w' := w) (run_v ?_) (hK _ _ ⟨((vs.toList.drop off).take ti.size).toArray, rfl, by simpa using h4⟩ (Gr.refl w))
    rw [Instr.loadAt, hxe]
    exact run_loadVar_agg ht ha h2 h3
  ·exact (sel_fail h).elim
 case store t x y =>
  simp only [aop] at h
  split at h
  ·rename_i n off v s hvx hvy hs
   obtain ⟨b, hb, hxe⟩ : ∃ b, ρ n = some b ∧ a.eval x = .pointer (some ⟨b, off, none⟩) := he x (by simp [Op.operands]) _ hvx
   have hry := he y (by simp [Op.operands]) _ hvy
   split at h
   ·rename_i B hB
    cases hk : (B.own && Nat.beq v.cells.length s && Nat.ble (off + s) B.cells.length && oneAll v.cells)
    ·simp only [hk, cond_false] at h; exact (sel_fail h).elim
    ·simp only [hk, cond_true] at h
     simp only [Bool.and_eq_true] at hk
     obtain ⟨⟨⟨k1, k2⟩, k3⟩, k4⟩ := hk
     have k2 := Nat.eq_of_beq_eq_true k2
     have k3 := Nat.le_of_ble_eq_true k3
     have := sel_leaf h; subst this
     have hrc := relL_cells hry k4
     obtain ⟨b', vs, h1, h2, h3, h4⟩ := hH.blk n B hB
     rw [hb] at h1; simp only [Option.some.injEq] at h1; subst h1
     have l1 := relL_length hrc
     have l2 := relL_length h3
     simp only [Array.length_toList] at l1 l2
     obtain ⟨w', hw1, hw2⟩ := run_storeVar (P := P) (t := t) (hx.size hs w) h2 (v := a.eval y) (by omega) (off := off) (by omega) (ones_of_rel hrc k4)
     refine wp_of_skip (w' := w') (run_u ?_) (hK _ b _ B hB k1 hb (h4 k1) hrc hw2)
     rw [Instr.storeAt, hxe]
     exact hw1
   ·exact (sel_fail h).elim
  ·exact (sel_fail h).elim
 case nilCheck x =>
  simp only [aop] at h
  split at h
  ·rename_i p hv
   obtain ⟨n, off⟩ := p
   have := sel_leaf h; subst this
   have hr := he x (by simp [Op.operands]) _ hv
   obtain ⟨b, hb, hxe⟩ := hr
   refine wp_of_run (u := .pointer (some ⟨b, off, none⟩)) (w' := w) ?_ (hK _ _ ⟨b, hb, rfl⟩ (Gr.refl w))
   simp only [execOp, hxe]; rfl
  ·rename_i f fs cs hv
   have := sel_leaf h; subst this
   have hr := he x (by simp [Op.operands]) _ hv
   obtain ⟨gs, ds, hxe, h1, h2⟩ := hr
   refine wp_of_run (u := .func (.func f) gs ds) (w' := w) ?_ (hK _ _ ⟨gs, ds, rfl, h1, h2⟩ (Gr.refl w))
   simp only [execOp, hxe]; rfl
  ·exact (sel_fail h).elim
 case binOp op t x y yt =>
  simp only [aop] at h
  split at h
  ·rename_i ea eb hva hvb
   have e1 : a.eval x = .int .i64 (σ.i ea) := he x (by simp [Op.operands]) _ hva
   have e2 : a.eval y = .int .i64 (σ.i eb) := he y (by simp [Op.operands]) _ hvb
   have key : ∀ v u, e = .val v → rel σ ρ v u → (do eqGuard op t x y (a.eval x) (a.eval y); binOp op t (a.eval x) (a.eval y)).run P w = .ok u w →
     Oper.wp P ⟨dst, .binOp op t x y yt, ty, pos, after, guard⟩ a w K Q := by
    intro v u hv hr hrun
    subst hv
    exact wp_of_run (run_v hrun) (hK _ _ hr (Gr.refl w))
   rw [e1, e2] at key
   unfold binInt at h
   cases op <;> simp only at h
   case add => exact key _ _ (sel_leaf h).symm (by show _ = _; rw [i_add]) (run_binInt x y rfl)
   case sub => exact key _ _ (sel_leaf h).symm (by show _ = _; rw [i_sub]) (run_binInt x y rfl)
   case mul => exact key _ _ (sel_leaf h).symm (by show _ = _; rw [i_mul]) (run_binInt x y rfl)
   case quo =>
    obtain ⟨pc', hp', h⟩ := sel_part hp h
    rw [b_eq] at h
    cases hz : (σ.i eb == σ.i (.lit 0))
    ·simp only [hz, cond_false] at h
     have hz' : ¬ σ.i eb = 0 := by have e0 : σ.i (.lit 0) = 0 := rfl; rw [e0] at hz; simpa using hz
     exact key _ _ (sel_leaf h).symm (by show _ = _; rw [i_quo]) (run_binInt x y (by show (if σ.i eb = 0 then none else some _) = some _; rw [if_neg hz']))
    ·simp only [hz, cond_true] at h; exact (sel_fail h).elim
   case rem =>
    obtain ⟨pc', hp', h⟩ := sel_part hp h
    rw [b_eq] at h
    cases hz : (σ.i eb == σ.i (.lit 0))
    ·simp only [hz, cond_false] at h
     have hz' : ¬ σ.i eb = 0 := by have e0 : σ.i (.lit 0) = 0 := rfl; rw [e0] at hz; simpa using hz
     exact key _ _ (sel_leaf h).symm (by show _ = _; rw [i_rem]) (run_binInt x y (by show (if σ.i eb = 0 then none else some _) = some _; rw [if_neg hz']))
    ·simp only [hz, cond_true] at h; exact (sel_fail h).elim
   case eql => exact key _ _ (sel_leaf h).symm (by show _ = _; rw [b_eq]) (run_binInt x y rfl)
   case neq => exact key _ _ (sel_leaf h).symm (by show _ = _; rw [b_no, b_eq]) (run_binInt x y rfl)
   case lss => exact key _ _ (sel_leaf h).symm (by show _ = _; rw [b_lt]) (run_binInt x y rfl)
   case leq => exact key _ _ (sel_leaf h).symm (by show _ = _; rw [b_le]) (run_binInt x y rfl)
   case gtr => exact key _ _ (sel_leaf h).symm (by show _ = _; rw [b_lt]) (run_binInt x y rfl)
   case geq => exact key _ _ (sel_leaf h).symm (by show _ = _; rw [b_le]) (run_binInt x y rfl)
   all_goals exact (sel_fail h).elim
  ·rename_i la lb hva hvb
   obtain ⟨v, hv, rfl⟩ := sel_val' h
   unfold binAgg at hv
   split at hv
   ·rename_i n es fs hn hes hfs
    cases hk : (Nat.beq es.length n && Nat.beq fs.length n)
    ·simp [hk] at hv
    ·simp only [hk, cond_true] at hv
     simp only [Bool.and_eq_true] at hk
     have k1 := Nat.eq_of_beq_eq_true hk.1
     have k2 := Nat.eq_of_beq_eq_true hk.2
     obtain ⟨us, e1, r1⟩ := he x (by simp [Op.operands]) _ hva
     obtain ⟨vs, e2, r2⟩ := he y (by simp [Op.operands]) _ hvb
     have a1 := allInts_ok hes r1
     have a2 := allInts_ok hfs r2
     have b1 : us = ((es.map σ.i).map (Value.int .i64)).toArray := by apply Array.ext'; simp [a1]
     have b2 : vs = ((fs.map σ.i).map (Value.int .i64)).toArray := by apply Array.ext'; simp [a2]
     have := hx.eqf hn x y (es.map σ.i) (fs.map σ.i) w (by simpa using k1) (by simpa using k2)
     split at hv
     ·simp only [Option.some.injEq] at hv; subst hv
      refine wp_of_run (u := .bool (eqI (es.map σ.i) (fs.map σ.i))) (w' := w) (run_v ?_) (hK _ _ (by show _ = _; rw [eqAll_ok]) (Gr.refl w))
      rw [e1, e2, b1, b2]; exact this.1
     ·simp only [Option.some.injEq] at hv; subst hv
      refine wp_of_run (u := .bool (!eqI (es.map σ.i) (fs.map σ.i))) (w' := w) (run_v ?_) (hK _ _ (by show _ = _; rw [b_no, eqAll_ok]) (Gr.refl w))
      rw [e1, e2, b1, b2]; exact this.2
     ·cases hv
   ·cases hv
  ·rename_i ea eb hva hvb
   have e1 : a.eval x = .bool (σ.b ea) := he x (by simp [Op.operands]) _ hva
   have e2 : a.eval y = .bool (σ.b eb) := he y (by simp [Op.operands]) _ hvb
   split at h
   ·rename_i hd
    have := sel_leaf h; subst this
    have hu : P.underlying t = some .bool := by
     unfold descOf at hd
     simp only [Option.map_eq_some_iff] at hd
     obtain ⟨ti, h1, h2⟩ := hd
     rw [← h2]; exact (hx.tyf h1).1
    refine wp_of_run (u := .bool (σ.b ea == σ.b eb)) (w' := w) (run_v ?_) (hK _ _ (by show _ = _; rw [b_ite, b_no]; cases σ.b ea <;> cases σ.b eb <;> rfl) (Gr.refl w))
    rw [e1, e2]
    have := run_equalIn_bool' (P := P) w 9999 t (σ.b ea) (σ.b eb) hu
    simp only [eqGuard, Sem.run_bind, binOp, Op.equal, Op.maxDepth]
    simp [this]
   ·rename_i hd
    have := sel_leaf h; subst this
    have hu : P.underlying t = some .bool := by
     unfold descOf at hd
     simp only [Option.map_eq_some_iff] at hd
     obtain ⟨ti, h1, h2⟩ := hd
     rw [← h2]; exact (hx.tyf h1).1
    refine wp_of_run (u := .bool (!(σ.b ea == σ.b eb))) (w' := w) (run_v ?_) (hK _ _ (by show _ = _; rw [b_ite, b_no]; cases σ.b ea <;> cases σ.b eb <;> rfl) (Gr.refl w))
    rw [e1, e2]
    have := run_equalIn_bool' (P := P) w 9999 t (σ.b ea) (σ.b eb) hu
    simp only [eqGuard, Sem.run_bind, binOp, Op.equal, Op.maxDepth]
    simp [this]
   ·exact (sel_fail h).elim
  ·exact (sel_fail h).elim
 case unOp op t x =>
  simp only [aop] at h
  split at h
  ·rename_i ea hva
   have := sel_leaf h; subst this
   have e1 : a.eval x = .int .i64 (σ.i ea) := he x (by simp [Op.operands]) _ hva
   refine wp_of_run (u := .int .i64 (IntKind.i64.wrap (0 - σ.i ea))) (w' := w) (run_v ?_) (hK _ _ (by show _ = _; rw [i_sub]; rfl) (Gr.refl w))
   rw [e1]; rfl
  ·rename_i ea hva
   have := sel_leaf h; subst this
   have e1 : a.eval x = .bool (σ.b ea) := he x (by simp [Op.operands]) _ hva
   refine wp_of_run (u := .bool (!σ.b ea)) (w' := w) (run_v ?_) (hK _ _ (by show _ = _; rw [b_no]) (Gr.refl w))
   rw [e1]; rfl
  ·exact (sel_fail h).elim
 case convert s d x =>
  simp only [aop] at h
  split at h
  ·rename_i ea ds hva hs hd
   have := sel_leaf h; subst this
   have e1 : a.eval x = .int .i64 (σ.i ea) := he x (by simp [Op.operands]) _ hva
   refine wp_of_run (u := .int .i64 (IntKind.i64.wrap (σ.i ea))) (w' := w) (run_v ?_) (hK _ _ (by show _ = _; rw [i_add]; simp [Env.i, den]) (Gr.refl w))
   rw [e1]
   unfold convert
   simp only [Sem.run_bind, hx.desc hs, hx.desc hd, Result.andThen_ok]
   cases ds <;> rfl
  ·exact (sel_fail h).elim
 case fieldAddr t x f =>
  simp only [aop] at h
  split at h
  ·rename_i n off fd hva hfd
   split at h
   ·rename_i s hs
    cases hk : Nat.blt 0 s
    ·simp only [hk, cond_false] at h; exact (sel_fail h).elim
    ·simp only [hk, cond_true] at h
     have k0 : 0 < s := Nat.le_of_ble_eq_true hk
     have := sel_leaf h; subst this
     obtain ⟨b, hb, e1⟩ : ∃ b, ρ n = some b ∧ a.eval x = .pointer (some ⟨b, off, none⟩) := he x (by simp [Op.operands]) _ hva
     simp only [Option.bind_eq_some_iff] at hfd
     obtain ⟨fs, hfs, hff⟩ := hfd
     unfold fieldsOf at hfs
     split at hfs
     ·rename_i gs hd
      simp only [Option.some.injEq] at hfs; subst hfs
      refine wp_of_run (u := .pointer (some ⟨b, off + fd.offset, none⟩)) (w' := w) (run_v ?_) (hK _ _ ⟨b, hb, rfl⟩ (Gr.refl w))
      rw [e1]
      unfold Instr.fieldAt
      have hff' : gs[f]? = some fd := by simpa using hff
      simp only [Sem.run_bind, hx.desc hd, Result.andThen_ok, hff', Instr.sureAddr, Sem.run_pure, fieldPlace, hx.size hs]
      rw [if_neg (by omega)]
      simp [add_none]
     ·cases hfs
   ·exact (sel_fail h).elim
  ·exact (sel_fail h).elim
 case field t x f =>
  simp only [aop] at h
  split at h
  ·rename_i cs fd hva hfd
   obtain ⟨v, hv, rfl⟩ := sel_val' h
   obtain ⟨us, e1, r1⟩ := he x (by simp [Op.operands]) _ hva
   simp only [Option.bind_eq_some_iff] at hfd
   obtain ⟨fs, hfs, hff⟩ := hfd
   unfold fieldsOf at hfs
   split at hfs
   ·rename_i gs hd
    simp only [Option.some.injEq] at hfs; subst hfs
    obtain ⟨u, h1, h2⟩ := partOf_ok (w := w) hx hv r1
    refine wp_of_run (u := u) (w' := w) (run_v ?_) (hK _ _ h2 (Gr.refl w))
    rw [e1]
    unfold Instr.field
    have hff' : gs[f]? = some fd := by simpa using hff
    simp only [Sem.run_bind, hx.desc hd, Result.andThen_ok, hff', asAgg, Sem.run_pure, h1]
   ·cases hfs
  ·exact (sel_fail h).elim
 case indexAddr t x ix =>
  simp only [aop] at h
  split at h
  ·rename_i n off ei len el hva hvi hd
   split at h
   ·rename_i s hs
    obtain ⟨pc', j, hp', hj, hlt, h⟩ := sel_among hp h
    have := sel_leaf h; subst this
    obtain ⟨b, hb, e1⟩ : ∃ b, ρ n = some b ∧ a.eval x = .pointer (some ⟨b, off, none⟩) := he x (by simp [Op.operands]) _ hva
    have e2 : a.eval ix = .int .i64 (σ.i ei) := he ix (by simp [Op.operands]) _ hvi
    rw [hj] at e2
    refine wp_of_run (u := .pointer (some ⟨b, off + j * s, none⟩)) (w' := w) (run_v ?_) (hK _ _ ⟨b, hb, rfl⟩ (Gr.refl w))
    rw [e1, e2]
    unfold Instr.indexAt
    simp only [Sem.run_bind, asIntOf, Sem.run_pure, hx.desc hd, Result.andThen_ok, Instr.sureAddr]
    rw [if_pos ⟨by omega, by omega⟩]
    simp [hx.size hs, add_none]
   ·exact (sel_fail h).elim
  ·rename_i n off len cap ei el hva hvi hd
   split at h
   ·rename_i s hs
    obtain ⟨pc', j, hp', hj, hlt, h⟩ := sel_among hp h
    have := sel_leaf h; subst this
    obtain ⟨b, hb, e1⟩ : ∃ b, ρ n = some b ∧ a.eval x = .slice (some ⟨b, off, none⟩) len cap := he x (by simp [Op.operands]) _ hva
    have e2 : a.eval ix = .int .i64 (σ.i ei) := he ix (by simp [Op.operands]) _ hvi
    rw [hj] at e2
    refine wp_of_run (u := .pointer (some ⟨b, off + j * s, none⟩)) (w' := w) (run_v ?_) (hK _ _ ⟨b, hb, rfl⟩ (Gr.refl w))
    rw [e1, e2]
    unfold Instr.indexAt
    simp only [Sem.run_bind, asIntOf, Sem.run_pure, hx.desc hd, Result.andThen_ok]
    rw [if_pos ⟨by omega, by omega⟩]
    simp [hx.size hs, add_none]
   ·exact (sel_fail h).elim
  ·exact (sel_fail h).elim
 case index t x ix =>
  simp only [aop] at h
  split at h
  ·rename_i cs ei len el hva hvi hd
   split at h
   ·rename_i s hs
    obtain ⟨pc', j, hp', hj, hlt, h⟩ := sel_among hp h
    obtain ⟨v, hv, rfl⟩ := sel_val' h
    obtain ⟨us, e1, r1⟩ := he x (by simp [Op.operands]) _ hva
    have e2 : a.eval ix = .int .i64 (σ.i ei) := he ix (by simp [Op.operands]) _ hvi
    rw [hj] at e2
    obtain ⟨u, h1, h2⟩ := partOf_ok (w := w) hx hv r1
    refine wp_of_run (u := u) (w' := w) (run_v ?_) (hK _ _ h2 (Gr.refl w))
    rw [e1, e2]
    unfold Instr.index
    simp only [Sem.run_bind, asIntOf, Sem.run_pure, hx.desc hd, Result.andThen_ok]
    rw [if_pos ⟨by omega, by omega⟩]
    simp [hx.size hs, h1]
   ·exact (sel_fail h).elim
  ·exact (sel_fail h).elim
 case slice t x lo hi mx =>
  cases mx with
  | some m => simp only [aop] at h; exact (sel_fail h).elim
  | none =>
   simp only [aop] at h
   split at h
   ·rename_i n off len el hva hlo hhi hd
    have elo : lo = none := by cases lo with | none => rfl | some o => simp [evOpt] at hlo
    have ehi : hi = none := by cases hi with | none => rfl | some o => simp [evOpt] at hhi
    subst elo; subst ehi
    split at h
    ·rename_i s hs
     cases hk : Nat.blt 0 len
     ·simp only [hk, cond_false] at h; exact (sel_fail h).elim
     ·simp only [hk, cond_true] at h
      have k0 : 0 < len := Nat.le_of_ble_eq_true hk
      have := sel_leaf h; subst this
      obtain ⟨b, hb, e1⟩ : ∃ b, ρ n = some b ∧ a.eval x = .pointer (some ⟨b, off, none⟩) := he x (by simp [Op.operands]) _ hva
      refine wp_of_run (u := .slice (some ⟨b, off, none⟩) len len) (w' := w) (run_v ?_) (hK _ _ ⟨b, hb, rfl⟩ (Gr.refl w))
      rw [e1]
      unfold Instr.sliceAt
      simp only [Sem.run_bind, hx.desc hd, Result.andThen_ok, Instr.sureAddr, Sem.run_pure, Option.map_none, Instr.sliceBounds, hx.size hs]
      rw [if_neg (by omega)]
      simp [add_none]
    ·exact (sel_fail h).elim
   ·exact (sel_fail h).elim
 case extract x i =>
  simp only [aop] at h
  split at h
  ·rename_i l hva
   obtain ⟨v, hv, rfl⟩ := sel_val' h
   obtain ⟨us, e1, r1⟩ := he x (by simp [Op.operands]) _ hva
   obtain ⟨u, h1, h2⟩ := relL_get r1 i v hv
   refine wp_of_run (u := u) (w' := w) (run_v ?_) (hK _ _ h2 (Gr.refl w))
   rw [e1]
   unfold Instr.extract
   have h1' : us[i]? = some u := by simpa using h1
   simp [h1']
  ·exact (sel_fail h).elim
 case makeFunc fn fs cs =>
  cases fn with
  | func f =>
   simp only [aop] at h
   split at h
   ·rename_i as ds has hds
    have := sel_leaf h; subst this
    have r1 := relL_evs (σ := σ) (ρ := ρ) (a := a) (fun y hy => he y (by simp [Op.operands] at hy ⊢; exact .inl hy)) has
    have r2 := relL_evs (σ := σ) (ρ := ρ) (a := a) (fun y hy => he y (by simp [Op.operands] at hy ⊢; exact .inr hy)) hds
    refine wp_of_run (u := .func (.func f) (fs.map a.eval) (cs.map a.eval)) (w' := w) (run_v rfl) (hK _ _ ⟨_, _, rfl, by simpa using r1, by simpa using r2⟩ (Gr.refl w))
   ·exact (sel_fail h).elim
  | _ => simp only [aop] at h; exact (sel_fail h).elim
 case call c =>
  obtain ⟨callee, args, argTypes⟩ := c
  cases callee with
  | builtin b =>
   simp only [aop] at h
   split at h
   ·rename_i vs hvs
    have r1 := relL_evs (σ := σ) (ρ := ρ) (a := a) (fun y hy => he y (by simpa [Op.operands, Call.operands] using hy)) hvs
    split at h
    ·rename_i p l cp
     split at h
     ·rename_i el hd
      have := sel_leaf h; subst this
      simp only [Option.bind_eq_some_iff] at hd
      obtain ⟨t, ht, hd⟩ := hd
      obtain ⟨u, us, e1, hr, e2⟩ := r1
      have e2 : us = [] := e2
      subst e2
      obtain ⟨p', hu⟩ : ∃ p', u = .slice p' l cp := by
       rcases p with _ | ⟨n, off⟩
       ·exact ⟨_, hr⟩
       ·obtain ⟨b, _, hb⟩ := hr; exact ⟨_, hb⟩
      refine wp_of_run (u := .int .i64 l) (w' := w) ?_ (hK _ _ rfl (Gr.refl w))
      have e3 : args.map a.eval = #[u] := by apply Array.ext'; simpa using e1
      simp only [execOp, resolve, Sem.run_bind, Sem.run_pure, Result.andThen_ok, invoke, builtin]
      rw [e3]
      unfold Builtin.len_
      simp [ht, hx.desc hd, hu, goInt]
     ·exact (sel_fail h).elim
    ·split at h
     ·rename_i ee es hes
      have := sel_leaf h; subst this
      have e1 := allInts_ok hes r1
      refine wp_of_run (u := .int .i64 ((es.map σ.i).foldl (fun x y => if y < x then y else x) (σ.i ee))) (w' := w) ?_ (hK _ _ ?_ (Gr.refl w))
      ·simp only [execOp, resolve, Sem.run_bind, Sem.run_pure, Result.andThen_ok, invoke, builtin]
       unfold Builtin.min_
       rw [Array.toList_map, e1]
       have := run_foldlM (P := P) (f := Builtin.min2) (g := fun x y => if y < x then y else x) (fun x y w => rfl) (es.map σ.i) (σ.i ee) w
       rw [List.map_map] at this
       simp only [List.map_cons]
       exact (congrArg (fun r => Result.andThen r fun a w' => Result.ok (Next.value a) w') this)
      ·show _ = _
       rw [foldE_ok (σ := σ) (g := fun x y => if y < x then y else x)]
       intro p q
       unfold minE
       rw [i_ite, b_lt]
       simp
     ·exact (sel_fail h).elim
    ·split at h
     ·rename_i ee es hes
      have := sel_leaf h; subst this
      have e1 := allInts_ok hes r1
      refine wp_of_run (u := .int .i64 ((es.map σ.i).foldl (fun x y => if x < y then y else x) (σ.i ee))) (w' := w) ?_ (hK _ _ ?_ (Gr.refl w))
      ·simp only [execOp, resolve, Sem.run_bind, Sem.run_pure, Result.andThen_ok, invoke, builtin]
       unfold Builtin.max_
       rw [Array.toList_map, e1]
       have := run_foldlM (P := P) (f := Builtin.max2) (g := fun x y => if x < y then y else x) (fun x y w => rfl) (es.map σ.i) (σ.i ee) w
       rw [List.map_map] at this
       simp only [List.map_cons]
       exact (congrArg (fun r => Result.andThen r fun a w' => Result.ok (Next.value a) w') this)
      ·show _ = _
       rw [foldE_ok (σ := σ) (g := fun x y => if x < y then y else x)]
       intro p q
       unfold maxE
       rw [i_ite, b_lt]
       simp
     ·exact (sel_fail h).elim
    ·exact (sel_fail h).elim
   ·exact (sel_fail h).elim
  | invoke r m => simp only [aop] at h; exact (sel_fail h).elim
  | value f =>
   simp only [aop] at h
   split at h
   ·rename_i g first captured vs hf' hvs
    have r1 := relL_evs (σ := σ) (ρ := ρ) (a := a) (fun y hy => he y (by simp [Op.operands, Call.operands] at hy ⊢; exact .inr hy)) hvs
    obtain ⟨fs, cs, e1, r2, r3⟩ := he f (by simp [Op.operands, Call.operands]) _ hf'
    split at h
    ·rename_i fn hfn
     have hfo := hx.fnf hfn
     have hr : relL σ ρ (first ++ vs ++ captured) (fs.toList ++ args.toList.map a.eval ++ cs.toList) := relL_append (relL_append r2 r1) r3
     have hrun : (execOp a.eval ⟨dst, .call ⟨.value f, args, argTypes⟩, ty, pos, after, guard⟩).run P w = .ok (.enter g (fs.toList ++ args.toList.map a.eval ++ cs.toList).toArray) w := by
      simp only [execOp, resolve, e1, Deferred.ofValue, Sem.run_bind, Sem.run_pure, Result.andThen_ok, invoke, callFunc]
      have hp0 : (program).run P w = .ok P w := rfl
      rw [hp0]
      simp only [Result.andThen_ok, hfo.1]
      rw [if_neg (by rw [hfo.2.1]; exact Bool.false_ne_true), if_neg (by rw [hfo.2.2]; exact Bool.false_ne_true)]
      have e5 : fs ++ args.map a.eval ++ cs = (fs.toList ++ args.toList.map a.eval ++ cs.toList).toArray := by apply Array.ext'; simp
      rw [e5]; rfl
     unfold Oper.wp
     rw [hrun]
     show Calls P g _ w _
     cases hi : cx.inl.contains g
     ·simp only [hi, cond_false] at h
      obtain ⟨r, h1, rfl⟩ := sel_map h
      refine (hc.alone g pc _ _ r _ ρ w0 w hp h1 hW hW0 h0 hr hH hf).mono ?_
      rintro e w' ⟨u, rfl, hu, hg⟩
      exact hK _ _ hu hg
     ·simp only [hi, cond_true] at h
      obtain ⟨r, h1, rfl⟩ := sel_map h
      refine (hc.all g pc _ _ r _ ρ w0 w hp h1 hW hW0 h0 hr hH hf).mono ?_
      rintro e w' ⟨u, ρ', rfl, hs, hf2, hH2, hu, hg⟩
      exact hK _ _ ρ' hs hf2 hH2 hu hg
    ·exact (sel_fail h).elim
   ·exact (sel_fail h).elim
 all_goals (simp only [aop] at h; exact (sel_fail h).elim)
end
end Go.Proofs.YtlfoglklibhbnaaGreat.Sx
namespace Go.Proofs.YtlfoglklibhbnaaGreat.Sx
open Go.RowKit
structure SRel (σ : Env) (ρ : Nat → Option Nat) (s : St) (a : Act) (w0 w : World) : Prop where
 tm : relL σ ρ s.tm a.tmps.toList
 hp : HRel σ ρ s.hp w0 w
 fresh : ∀ n, s.hp.length ≤ n → ρ n = none
section
variable {P : Program} {σ : Env} {W : World} {cx : Cx} {callf : Bool → Nat → Pc → List AV → Hp → Tree (AV × Hp)}
theorem putT_ok {ρ : Nat → Option Nat} {tm : List AV} {a : Act} {dst : Option Tmp} {v : AV} {u : Value} (h : relL σ ρ tm a.tmps.toList) (hv : rel σ ρ v u) :
  relL σ ρ (putT tm dst v) (a.put dst u).tmps.toList := by
 cases dst with
 | none => exact h
 | some d =>
  simp only [putT, Act.put, Array.toList_setIfInBounds]
  exact relL_set d h hv
theorem put_defers (a : Act) (dst : Option Tmp) (u : Value) : (a.put dst u).defers = a.defers := by cases dst <;> rfl
def gval (σ : Env) (ops : List Oper) (tm : List AV) (o : Oper) : Option Bool :=
 match o.guard with
 | none => some true
 | some (g, want) => match ((ops[g]?).bind (·.dst)).bind (tm[·]?) with
  | some (.bool e) => some (σ.b e == want)
  | some (.tuple []) => some false
  | some (.int _) => some false
  | _ => none
theorem wants_sel {β : Type} {pc : Pc} {ops : List Oper} {tm : List AV} {o : Oper} {k : Pc → Bool → Tree β} {x : β} (hp : pcOk σ pc) (h : (wants pc ops tm o k).sel σ = some x) :
  ∃ pc' b, pcOk σ pc' ∧ gval σ ops tm o = some b ∧ (k pc' b).sel σ = some x := by
 unfold wants at h
 unfold gval
 split at h
 ·rename_i hg; exact ⟨pc, true, hp, by rw [hg], h⟩
 ·rename_i g want hg
  rw [hg]
  simp only
  split at h
  ·rename_i e he
   obtain ⟨pc', hp', h⟩ := sel_part hp h
   exact ⟨pc', _, hp', by rw [he], h⟩
  ·rename_i he; exact ⟨pc, _, hp, by rw [he], h⟩
  ·rename_i he; exact ⟨pc, _, hp, by rw [he], h⟩
  ·exact (sel_fail h).elim
theorem gval_real {ρ : Nat → Option Nat} {ops : List Oper} {tm : List AV} {o : Oper} {b : Bool} {a : Act} (h : gval σ ops tm o = some b)
  (ht : ∀ g want d, o.guard = some (g, want) → (ops[g]?).bind (·.dst) = some d → ∀ v, tm[d]? = some v → ∃ u, a.tmps[d]? = some u ∧ rel σ ρ v u) : Region.wanted o (yielded ops.toArray a.tmps) = b := by
 unfold gval at h
 unfold Region.wanted
 split at h
 ·rename_i hg; rw [hg]; simpa using h
 ·rename_i g want hg
  rw [hg]
  simp only
  unfold yielded
  have e1 : (ops.toArray[g]?).bind (·.dst) = (ops[g]?).bind (·.dst) := by simp
  rw [e1]
  cases hd : (ops[g]?).bind (·.dst) with
  | none => rw [hd] at h; simp at h
  | some d =>
   rw [hd] at h
   simp only [Option.bind_some] at h ⊢
   have ht := ht g want d hg hd
   split at h
   ·rename_i e he
    obtain ⟨u, h1, h2⟩ := ht _ he
    have h2 : u = .bool (σ.b e) := h2
    subst h2; rw [h1]
    simp only [Option.some.injEq] at h; subst h
    cases σ.b e <;> cases want <;> rfl
   ·rename_i he
    obtain ⟨u, h1, h2⟩ := ht _ he
    obtain ⟨vs, rfl, _⟩ := h2
    rw [h1]; simp only [Option.some.injEq] at h; subst h; rfl
   ·rename_i e he
    obtain ⟨u, h1, h2⟩ := ht _ he
    have h2 : u = .int .i64 (σ.i e) := h2
    subst h2; rw [h1]
    simp only [Option.some.injEq] at h; subst h; rfl
   ·cases h
theorem eff_on {ρ : Nat → Option Nat} {s s1 : St} {a : Act} {w0 w : World} {nm : Nat} {H : Hp} {dst : Option Tmp} {e : Eff} {K : Act → World → Prop} (h0 : w0.heap.size ≤ w.heap.size)
  (hs : relL σ ρ s1.tm a.tmps.toList) (hH1 : HRel σ ρ s1.hp w0 w) (hn : (∃ v b, e = .new v b) → ρ nm = none ∧ nm < s1.hp.length) (hst : ∀ n off cs, e = .st n off cs → ∀ B, H[n]? = some (some B) → s1.hp[n]? = some (some B))
  (hfr : ∀ n, s1.hp.length ≤ n → ρ n = none)
  (h : ∀ a' w' ρ', sub ρ ρ' → (∀ m, (∀ v b, e = .new v b → m ≠ nm) → (∀ v h, e ≠ .out v h) → ρ' m = ρ m) → SRel σ ρ' (e.on nm dst s1) a' w0 w' → Below w0.heap.size w w' → a'.defers = a.defers → K a' w') :
  EffK σ ρ w0 nm H dst a w K e := by
 cases e with
 | val v =>
  intro u w' hu hg
  exact h _ w' ρ (sub.refl _) (fun _ _ _ => rfl) ⟨putT_ok hs hu, hH1.gr hg, hfr⟩ (Below.mono hg h0) (put_defers _ _ _)
 | new v b =>
  intro u w' bb vs h1 h2 h3 h4 h5 hg
  obtain ⟨hn1, hn2⟩ := hn ⟨v, b, rfl⟩
  have hs' := sub_upd (b := bb) hn1
  refine h _ w' (upd ρ nm bb) hs' ?_ ⟨putT_ok (relL_mono hs' _ _ hs) h5, hH1.new hn1 hn2 hg h0 h1 h2 h3 h4, ?_⟩ (Below.mono hg h0) (put_defers _ _ _)
  ·intro m hm _
   have := hm v b rfl
   simp [upd, this]
  ·intro n hl
   have e1 : (Eff.on nm dst (.new v b) s1).hp.length = s1.hp.length := by simp [Eff.on]
   rw [e1] at hl
   have : n ≠ nm := by omega
   simp [upd, this, hfr n hl]
 | st n off cs =>
  intro w' bb us B hB ho hb hle hr hst'
  refine h _ w' ρ (sub.refl _) (fun _ _ _ => rfl) ⟨putT_ok hs rel_undef, hH1.st (hst n off cs rfl B hB) hb hr hst', ?_⟩ (hst'.below hle) (put_defers _ _ _)
  intro m hl
  have e1 : (Eff.on nm dst (.st n off cs) s1).hp.length = s1.hp.length := by simp only [Eff.on, putH]; split <;> simp
  rw [e1] at hl
  exact hfr m hl
 | out v H' =>
  intro u w' ρ' hsub hf hH hu hb
  exact h _ w' ρ' hsub (fun _ _ hh => absurd rfl (hh v H')) ⟨putT_ok (relL_mono hsub _ _ hs) hu, hH, hf⟩ hb (put_defers _ _ _)
theorem evOk_of {ρ : Nat → Option Nat} {tm : List AV} {a : Act} (h : relL σ ρ tm a.tmps.toList) (xs : List Operand) : EvOk σ ρ tm a xs := fun x _ v hv => rel_ev h hv
theorem aplain_sound (hx : CxOk P σ W cx) (hc : CallOk P σ W callf) {ops : List Oper} {Q : Exit → Act → World → Prop} : ∀ (l : List Oper) {pc : Pc} {s s' : St} {ρ : Nat → Option Nat} {a : Act} {w0 w : World},
  pcOk σ pc → (aplain cx callf ops l pc s).sel σ = some s' → SRel σ ρ s a w0 w → Gr W w → W.heap.size ≤ w0.heap.size → w0.heap.size ≤ w.heap.size →
  (∀ a' w' ρ', sub ρ ρ' → SRel σ ρ' s' a' w0 w' → Below w0.heap.size w w' → a'.defers = a.defers → Q .normal a' w') → wpList P ops.toArray Q l a w
 | [], pc, s, s', ρ, a, w0, w, hp, h, hs, hW, hW0, h0, hQ => by
  have := sel_leaf h; subst this
  exact hQ a w ρ (sub.refl _) hs (Below.refl _ _) rfl
 | o :: l, pc, s, s', ρ, a, w0, w, hp, h, hs, hW, hW0, h0, hQ => by
  unfold aplain at h
  obtain ⟨pc', b, hp', hg, h⟩ := wants_sel hp h
  have hw := gval_real (ρ := ρ) (a := a) hg (fun g want d _ _ v hv => by
   obtain ⟨u, h1, h2⟩ := relL_get hs.tm d v hv
   exact ⟨u, by simpa using h1, h2⟩)
  unfold wpList
  cases b
  ·simp only [cond_false] at h
   rw [hw]
   simp only [Bool.false_eq_true, if_false]
   refine aplain_sound hx hc l hp' h ⟨putT_ok hs.tm rel_undef, hs.hp, hs.fresh⟩ hW hW0 h0 (fun a' w' ρ' h1 h2 h3 h4 => hQ a' w' ρ' h1 h2 h3 (h4.trans (put_defers _ _ _)))
  ·simp only [cond_true] at h
   rw [hw]
   simp only [if_true]
   refine .inl ?_
   obtain ⟨e, pc2, hp2, he, h⟩ := sel_bind hp' h
   refine aop_sound hx hc hp' he (evOk_of hs.tm _) hs.hp hs.fresh hW hW0 h0 ?_
   have hnew : HRel σ ρ (s.hp ++ [none]) w0 w := hs.hp.less (fun n B hn => by
    rcases Nat.lt_or_ge n s.hp.length with hl | hl
    ·rwa [List.getElem?_append_left hl] at hn
    ·rw [List.getElem?_append_right hl] at hn
     cases hk : n - s.hp.length with
     | zero => rw [hk] at hn; simp at hn
     | succ k => rw [hk] at hn; simp at hn)
   have fin : ∀ (s1 : St), s1 = ⟨s.tm, e.room s.hp⟩ →
     ∀ a' w' ρ', sub ρ ρ' → SRel σ ρ' (e.on s.hp.length o.dst s1) a' w0 w' → Below w0.heap.size w w' → a'.defers = a.defers → wpList P ops.toArray Q l a' w' := by
    intro s1 e1 a' w' ρ' h1 h2 h3 h4
    subst e1
    exact aplain_sound hx hc l hp2 h h2 (Below.trans hW (Below.mono h3 hW0)) hW0 (Nat.le_trans h0 h3.size) (fun a2 w2 ρ2 k1 k2 k3 k4 => hQ a2 w2 ρ2 (h1.trans k1) k2 (h3.trans k3) (k4.trans h4))
   cases e with
   | new v b =>
    exact eff_on (s := s) (s1 := ⟨s.tm, s.hp ++ [none]⟩) h0 hs.tm hnew (fun _ => ⟨hs.fresh _ (Nat.le_refl _), by simp⟩) (fun _ _ _ hh => by cases hh) (fun n hl => hs.fresh n (by simp at hl; omega))
     (fun a' w' ρ' h1 _ h2 h3 h4 => fin _ rfl a' w' ρ' h1 h2 h3 h4)
   | val v =>
    exact eff_on (s := s) (s1 := s) h0 hs.tm hs.hp (fun ⟨v, b, hh⟩ => by cases hh) (fun _ _ _ hh => by cases hh) hs.fresh (fun a' w' ρ' h1 _ h2 h3 h4 => fin _ rfl a' w' ρ' h1 h2 h3 h4)
   | st n off cs =>
    exact eff_on (s := s) (s1 := s) h0 hs.tm hs.hp (fun ⟨v, b, hh⟩ => by cases hh) (fun _ _ _ _ _ hB => by exact hB) hs.fresh (fun a' w' ρ' h1 _ h2 h3 h4 => fin _ rfl a' w' ρ' h1 h2 h3 h4)
   | out v H' =>
    exact eff_on (s := s) (s1 := s) h0 hs.tm hs.hp (fun ⟨v, b, hh⟩ => by cases hh) (fun _ _ _ hh => by cases hh) hs.fresh (fun a' w' ρ' h1 _ h2 h3 h4 => fin _ rfl a' w' ρ' h1 h2 h3 h4)
end
end Go.Proofs.YtlfoglklibhbnaaGreat.Sx
namespace Go.Proofs.YtlfoglklibhbnaaGreat.Sx
open Go.RowKit
def vOf : Option Eff → AV
 | some (.val v) => v
 | some (.new v _) => v
 | some (.st _ _ _) => .undef
 | some (.out v _) => v
 | none => .undef
def hOf (nm : Nat) : Option Eff → Hp → Hp
 | some (.new _ b), h => h.set nm (some b)
 | some (.st n off cs), h => putH h n off cs
 | some (.out _ h'), _ => h'
 | _, h => h
def stepOf (h0 j : Nat) (o : Oper) (x : Option Eff) (s : St) : St := ⟨putT s.tm o.dst (vOf x), hOf (h0 + j) x s.hp⟩
theorem stepOf_some (h0 j : Nat) (o : Oper) (e : Eff) (s : St) : stepOf h0 j o (some e) s = e.on (h0 + j) o.dst s := by cases e <;> rfl
theorem stepOf_none (h0 j : Nat) (o : Oper) (s : St) : stepOf h0 j o none s = ⟨putT s.tm o.dst .undef, s.hp⟩ := rfl
theorem putT_comm (t : List AV) {d d' : Option Tmp} (v u : AV) (h : ∀ x, d = some x → d' ≠ some x) : putT (putT t d v) d' u = putT (putT t d' u) d v := by
 cases d with
 | none => rfl
 | some x =>
  cases d' with
  | none => rfl
  | some y =>
   have : x ≠ y := fun e => h x rfl (by rw [e])
   simp only [putT]
   exact List.set_comm _ _ this
theorem putH_len (h : Hp) (n off : Nat) (cs : List AV) : (putH h n off cs).length = h.length := by unfold putH; split <;> simp
theorem putH_ne (h : Hp) {n m : Nat} (off : Nat) (cs : List AV) (hne : n ≠ m) : (putH h n off cs)[m]? = h[m]? := by
 unfold putH; split
 ·exact List.getElem?_set_ne hne
 ·rfl
theorem putH_set (h : Hp) {n m : Nat} (off : Nat) (cs : List AV) (b : Option Bk) (hne : n ≠ m) : putH (h.set m b) n off cs = (putH h n off cs).set m b := by
 unfold putH
 rw [List.getElem?_set_ne (Ne.symm hne)]
 cases h[n]? with
 | none => rfl
 | some o => cases o with
  | none => rfl
  | some B => exact List.set_comm _ _ (Ne.symm hne)
theorem putH_putH (h : Hp) {n m : Nat} (o1 : Nat) (c1 : List AV) (o2 : Nat) (c2 : List AV) (hne : n ≠ m) : putH (putH h m o2 c2) n o1 c1 = putH (putH h n o1 c1) m o2 c2 := by
 have e1 := putH_ne h (n := m) (m := n) o2 c2 (Ne.symm hne)
 have e2 := putH_ne h (n := n) (m := m) o1 c1 hne
 have k : ∀ (g : Hp) (n o : Nat) (c : List AV) (b : Bk), g[n]? = some (some b) → putH g n o c = g.set n (some { b with cells := b.cells.take o ++ c ++ b.cells.drop (o + c.length) }) := fun g n o c b h => by unfold putH; rw [h]
 have z : ∀ (g : Hp) (n o : Nat) (c : List AV), (∀ b, g[n]? ≠ some (some b)) → putH g n o c = g := fun g n o c h => by
  unfold putH; split
  ·rename_i b hb; exact absurd hb (h b)
  ·rfl
 by_cases hn : ∃ b, h[n]? = some (some b)
 ·obtain ⟨a, hn⟩ := hn
  by_cases hm : ∃ b, h[m]? = some (some b)
  ·obtain ⟨b, hm⟩ := hm
   rw [k _ n o1 c1 a (e1.trans hn), k _ m o2 c2 b hm, k _ m o2 c2 b (e2.trans hm), k _ n o1 c1 a hn]
   exact List.set_comm _ _ (Ne.symm hne)
  ·rw [z h m o2 c2 (fun b hb => hm ⟨b, hb⟩), z (putH h n o1 c1) m o2 c2 (fun b hb => hm ⟨b, e2.symm.trans hb⟩)]
 ·rw [z (putH h m o2 c2) n o1 c1 (fun b hb => hn ⟨b, e1.symm.trans hb⟩), z h n o1 c1 (fun b hb => hn ⟨b, hb⟩)]
def isSt : Option Eff → Option Nat
 | some (.st n _ _) => some n
 | _ => none
def isOut : Option Eff → Bool
 | some (.out _ _) => true
 | _ => false
theorem hOf_len (nm : Nat) (x : Option Eff) (h : Hp) (ho : isOut x = false) : (hOf nm x h).length = h.length := by
 rcases x with _ | e
 ·rfl
 ·cases e with
  | val v => rfl
  | new v b => simp [hOf]
  | st n off cs => exact putH_len _ _ _ _
  | out v h' => cases ho
theorem hOf_comm {a b : Nat} {x y : Option Eff} (hab : a ≠ b) (h1 : ∀ n, isSt x = some n → n ≠ b) (h2 : ∀ n, isSt y = some n → n ≠ a) (h3 : ∀ n m, isSt x = some n → isSt y = some m → n ≠ m)
  (o1 : isOut x = false) (o2 : isOut y = false) (h : Hp) : hOf a x (hOf b y h) = hOf b y (hOf a x h) := by
 rcases x with _ | e
 ·rfl
 ·rcases y with _ | f
  ·rfl
  ·cases e with
   | val v => rfl
   | new v B =>
    cases f with
    | val v => rfl
    | new v B => simp only [hOf]; exact List.set_comm _ _ (Ne.symm hab)
    | st n off cs => simp only [hOf]; exact (putH_set _ _ _ _ (h2 n rfl)).symm
    | out v h' => cases o2
   | st n off cs =>
    cases f with
    | val v => rfl
    | new v B => simp only [hOf]; exact putH_set _ _ _ _ (h1 n rfl)
    | st m off2 cs2 => simp only [hOf]; exact putH_putH _ _ _ _ _ (h3 n m rfl rfl)
    | out v h' => cases o2
   | out v h' => cases o1
structure Agree (ts : List Nat) (rd : Bool) (vs : Nat → Bool) (s t : St) : Prop where
 len : s.tm.length = t.tm.length
 hlen : s.hp.length = t.hp.length
 tm : ∀ d ∈ ts, s.tm[d]? = t.tm[d]?
 hp : rd = true → ∀ m, vs m = true → s.hp[m]? = t.hp[m]?
theorem Agree.refl (ts : List Nat) (rd : Bool) (vs : Nat → Bool) (s : St) : Agree ts rd vs s s := ⟨rfl, rfl, fun _ _ => rfl, fun _ _ _ => rfl⟩
theorem Agree.symm {ts : List Nat} {rd : Bool} {vs : Nat → Bool} {s t : St} (h : Agree ts rd vs s t) : Agree ts rd vs t s :=
 ⟨h.len.symm, h.hlen.symm, fun d hd => (h.tm d hd).symm, fun r m hm => (h.hp r m hm).symm⟩
theorem putT_len (t : List AV) (d : Option Tmp) (v : AV) : (putT t d v).length = t.length := by cases d <;> simp [putT]
theorem Agree.both {ts : List Nat} {rd : Bool} {vs : Nat → Bool} {s t : St} (h : Agree ts rd vs s t) (h0 k : Nat) (o : Oper) (x : Option Eff) (ho : isOut x = false) :
  Agree ts rd vs (stepOf h0 k o x s) (stepOf h0 k o x t) := by
 refine ⟨by simp [stepOf, putT_len, h.len], by simp [stepOf, hOf_len _ _ _ ho, h.hlen], fun d hd => ?_, fun r m hm => ?_⟩
 ·simp only [stepOf]
  cases o.dst with
  | none => exact h.tm d hd
  | some y =>
   simp only [putT, List.getElem?_set, h.len, h.tm d hd]
 ·simp only [stepOf]
  have e := h.hp r m hm
  rcases x with _ | f
  ·exact e
  ·cases f with
   | val v => exact e
   | new v B => simp only [hOf, List.getElem?_set, h.hlen, e]
   | st n off cs =>
    simp only [hOf]
    by_cases hn : n = m
    ·subst hn
     unfold putH
     rw [e]
     split
     ·simp only [List.getElem?_set, h.hlen, if_true]
     ·exact e
    ·rw [putH_ne _ _ _ hn, putH_ne _ _ _ hn]; exact e
   | out v h' => cases ho
theorem Agree.left {ts : List Nat} {rd : Bool} {vs : Nat → Bool} {s t : St} (h : Agree ts rd vs s t) (h0 k : Nat) (o : Oper) (x : Option Eff) (ho : isOut x = false)
  (hd : ∀ d, o.dst = some d → d ∉ ts) (hs : rd = true → ∀ n, isSt x = some n → vs n = false) (hv : rd = true → vs (h0 + k) = false) : Agree ts rd vs (stepOf h0 k o x s) t := by
 refine ⟨by simp [stepOf, putT_len, h.len], by simp [stepOf, hOf_len _ _ _ ho, h.hlen], fun d hd' => ?_, fun r m hm => ?_⟩
 ·simp only [stepOf]
  cases hdst : o.dst with
  | none => exact h.tm d hd'
  | some y =>
   have : y ≠ d := fun e => hd y hdst (by rw [e]; exact hd')
   simp only [putT]
   rw [List.getElem?_set_ne this]
   exact h.tm d hd'
 ·simp only [stepOf]
  have e := h.hp r m hm
  rcases x with _ | f
  ·exact e
  ·cases f with
   | val v => exact e
   | new v B =>
    simp only [hOf]
    have : h0 + k ≠ m := fun e => by rw [← e, hv r] at hm; cases hm
    rw [List.getElem?_set_ne this]; exact e
   | st n off cs =>
    simp only [hOf]
    have : n ≠ m := fun e => by have := hs r n rfl; rw [e, hm] at this; cases this
    rw [putH_ne _ _ _ this]; exact e
   | out v h' => cases ho
theorem befores_old : ∀ (l : List Oper) (acc : List Nat) (k : Nat), k < acc.length → (befores l acc).getD k 0 = acc.getD k 0
 | [], acc, k, h => rfl
 | o :: l, acc, k, h => by
  rw [befores, befores_old l _ k (by simp; omega)]
  simp [List.getD, List.getElem?_append_left h]
def maskOf (o : Oper) (acc : List Nat) : Nat := o.after.toList.foldl (fun s e => bif Region.binds .any e then s ||| 2 ^ e.on ||| acc.getD e.on 0 else s) 0
theorem maskOf_spec (es : List Edge) (acc : List Nat) (k : Nat) : ∀ s, (es.foldl (fun s e => bif Region.binds .any e then s ||| 2 ^ e.on ||| acc.getD e.on 0 else s) s).testBit k = true →
  s.testBit k = true ∨ ∃ e ∈ es, Region.binds .any e = true ∧ (e.on = k ∨ (acc.getD e.on 0).testBit k = true) := by
 induction es with
 | nil => intro s h; exact .inl h
 | cons e es ih =>
  intro s h
  simp only [List.foldl_cons] at h
  rcases ih _ h with h | ⟨e', h1, h2, h3⟩
  ·cases hb : Region.binds .any e
   ·simp only [hb, cond_false] at h; exact .inl h
   ·simp only [hb, cond_true, Nat.testBit_or, Bool.or_eq_true] at h
    rcases h with (h | h) | h
    ·exact .inl h
    ·refine .inr ⟨e, by simp, hb, .inl ?_⟩
     rw [Nat.testBit_two_pow] at h
     simpa using h
    ·exact .inr ⟨e, by simp, hb, .inr h⟩
  ·exact .inr ⟨e', by simp [h1], h2, h3⟩
theorem befores_get : ∀ (l : List Oper) (acc : List Nat) (j : Nat) (o : Oper), l[j]? = some o →
  ∃ acc', (befores l acc).getD (acc.length + j) 0 = maskOf o acc' ∧ acc'.length = acc.length + j ∧ ∀ k, k < acc'.length → (befores l acc).getD k 0 = acc'.getD k 0
 | [], acc, j, o, h => by simp at h
 | p :: l, acc, 0, o, h => by
  simp at h; subst h
  refine ⟨acc, ?_, by simp, ?_⟩
  ·rw [befores, befores_old l _ _ (by simp)]
   simp [List.getD, maskOf]
  ·intro k hk
   rw [befores, befores_old l _ k (by simp; omega)]
   simp [List.getD, List.getElem?_append_left hk]
 | p :: l, acc, j + 1, o, h => by
  simp at h
  obtain ⟨acc', h1, h2, h3⟩ := befores_get l (acc ++ [p.after.toList.foldl (fun s e => bif Region.binds .any e then s ||| 2 ^ e.on ||| acc.getD e.on 0 else s) 0]) j o h
  refine ⟨acc', ?_, by simp at h2; omega, ?_⟩
  ·rw [befores]
   simp only [List.length_append, List.length_cons, List.length_nil] at h1
   rw [← h1]; congr 1; omega
  ·intro k hk
   rw [befores]; exact h3 k hk
theorem before_spec {l : List Oper} {j : Nat} {o : Oper} (hj : l[j]? = some o) {k : Nat} (h : ((befores l []).getD j 0).testBit k = true) :
  ∃ e ∈ o.after.toList, Region.binds .any e = true ∧ (e.on = k ∨ (e.on < j ∧ ((befores l []).getD e.on 0).testBit k = true)) := by
 obtain ⟨acc', h1, h2, h3⟩ := befores_get l [] j o hj
 simp only [List.length_nil, Nat.zero_add] at h1 h2
 rw [h1] at h
 rcases maskOf_spec _ _ _ _ h with h | ⟨e, he, hb, h⟩
 ·simp at h
 ·refine ⟨e, he, hb, ?_⟩
  rcases h with h | h
  ·exact .inl h
  ·rcases Nat.lt_or_ge e.on acc'.length with hl | hl
   ·exact .inr ⟨by omega, by rw [h3 _ hl]; exact h⟩
   ·simp [List.getD, List.getElem?_eq_none hl] at h
theorem edgesOk_get : ∀ {l : List Oper} {j i : Nat} {o : Oper}, edgesOk j l = true → l[i]? = some o → ∀ e ∈ o.after.toList, Region.binds .any e = true → e.on < j + i
 | [], j, i, o, h, hi => by simp at hi
 | p :: l, j, 0, o, h, hi => by
  simp at hi; subst hi
  simp only [edgesOk, Bool.and_eq_true, List.all_eq_true] at h
  intro e he hb
  have := h.1 e he
  rw [hb] at this
  simp only [Bool.not_true, Bool.false_or] at this
  exact Nat.le_of_ble_eq_true this
 | p :: l, j, i + 1, o, h, hi => by
  simp at hi
  simp only [edgesOk, Bool.and_eq_true] at h
  intro e he hb
  have := edgesOk_get h.2 hi e he hb
  omega
theorem before_lt {l : List Oper} (hE : edgesOk 0 l = true) : ∀ (j : Nat) {o : Oper}, l[j]? = some o → ∀ k, ((befores l []).getD j 0).testBit k = true → k < j := by
 intro j
 induction j using Nat.strongRecOn with
 | _ j ih =>
  intro o hj k hk
  obtain ⟨e, he, hb, h⟩ := before_spec hj hk
  have hlt := edgesOk_get hE hj e he hb
  rcases h with h | ⟨h1, h2⟩
  ·omega
  ·have hl : e.on < l.length := by
    have : j < l.length := by
     apply Classical.byContradiction; intro hn
     rw [List.getElem?_eq_none (by omega)] at hj; cases hj
    omega
   have := ih e.on h1 (List.getElem?_eq_getElem hl) k h2
   omega
theorem before_listed {l : List Oper} (hE : edgesOk 0 l = true) {L : Nat → Bool} (hD : ∀ i o, l[i]? = some o → L i = true → ∀ e ∈ o.after.toList, Region.binds .any e = true → L e.on = true) :
  ∀ (j : Nat) {o : Oper}, l[j]? = some o → (∀ e ∈ o.after.toList, Region.binds .any e = true → L e.on = true) → ∀ k, ((befores l []).getD j 0).testBit k = true → L k = true := by
 intro j
 induction j using Nat.strongRecOn with
 | _ j ih =>
  intro o hj hr k hk
  obtain ⟨e, he, hb, h⟩ := before_spec hj hk
  have hlt := edgesOk_get hE hj e he hb
  have hL := hr e he hb
  rcases h with h | ⟨h1, h2⟩
  ·rw [← h]; exact hL
  ·have hl : e.on < l.length := by
    have : j < l.length := by
     apply Classical.byContradiction; intro hn
     rw [List.getElem?_eq_none (by omega)] at hj; cases hj
    omega
   have hg := List.getElem?_eq_getElem hl
   exact ih e.on h1 hg (hD e.on _ hg hL) k h2
theorem pairsOk_get {ops : List Oper} {bs : List Nat} {tg : List (Option Nat)} {j : Nat} {y : Oper} : ∀ {l : List Oper} {i m : Nat} {x : Oper}, pairsOk ops bs tg j y i l = true → l[m]? = some x →
  j ≤ i + m ∨ (bs.getD j 0).testBit (i + m) = true ∨ apart ops x y (tg.getD (i + m) none) (tg.getD j none) = true
 | [], i, m, x, h, hm => by simp at hm
 | p :: l, i, 0, x, h, hm => by
  simp at hm; subst hm
  simp only [pairsOk, Bool.and_eq_true, Bool.or_eq_true] at h
  rcases h.1 with (h | h) | h
  ·exact .inl (Nat.le_of_ble_eq_true h)
  ·exact .inr (.inl h)
  ·exact .inr (.inr h)
 | p :: l, i, m + 1, x, h, hm => by
  simp at hm
  simp only [pairsOk, Bool.and_eq_true] at h
  have := pairsOk_get h.2 hm
  rw [show i + (m + 1) = i + 1 + m from by omega]; exact this
theorem drawOkAt_get {ops : List Oper} {bs : List Nat} {tg : List (Option Nat)} : ∀ {l : List Oper} {i m : Nat} {y : Oper}, drawOkAt ops bs tg i l = true → l[m]? = some y → pairsOk ops bs tg (i + m) y 0 ops = true
 | [], i, m, y, h, hm => by simp at hm
 | p :: l, i, 0, y, h, hm => by
  simp at hm; subst hm
  simp only [drawOkAt, Bool.and_eq_true] at h; exact h.1
 | p :: l, i, m + 1, y, h, hm => by
  simp at hm
  simp only [drawOkAt, Bool.and_eq_true] at h
  have := drawOkAt_get h.2 hm
  rw [show i + (m + 1) = i + 1 + m from by omega]; exact this
theorem apart_of {l : List Oper} {bs : List Nat} {tg : List (Option Nat)} (h : drawOkAt l bs tg 0 l = true) {i j : Nat} {x y : Oper} (hx : l[i]? = some x) (hy : l[j]? = some y) (hij : i < j) (hb : (bs.getD j 0).testBit i = false) : apart l x y (tg.getD i none) (tg.getD j none) = true := by
 have h1 := drawOkAt_get h hy
 rw [Nat.zero_add] at h1
 rcases pairsOk_get h1 hx with h | h | h
 ·omega
 ·rw [Nat.zero_add, hb] at h; cases h
 ·rw [Nat.zero_add] at h; exact h
theorem stOk_of {x y : Op} {tx ty : Option Nat} (h : stOk x y tx ty = true) (hx : isStore x = true) (hy : isRead y = true) : ∃ n, tx = some n ∧ (isStore y = true → ∃ m, ty = some m ∧ n ≠ m) := by
 unfold stOk at h
 rw [hx, hy] at h
 cases tx with
 | none => simp at h
 | some n =>
  refine ⟨n, rfl, fun hs => ?_⟩
  rw [hs] at h
  cases ty with
  | none => simp at h
  | some m =>
   refine ⟨m, rfl, fun e => ?_⟩
   subst e
   simp at h
theorem apart_parts {ops : List Oper} {x y : Oper} {tx ty : Option Nat} (h : apart ops x y tx ty = true) :
  (∀ d, x.dst = some d → d ∉ looks ops y) ∧ (∀ d, x.dst = some d → y.dst ≠ some d) ∧ (∀ d, y.dst = some d → d ∉ looks ops x) ∧ (isStore x.op = true → isRead y.op = true → ∃ n, tx = some n ∧ (isStore y.op = true → ∃ m, ty = some m ∧ n ≠ m)) ∧ (isStore y.op = true → isRead x.op = true → ∃ n, ty = some n ∧ (isStore x.op = true → ∃ m, tx = some m ∧ n ≠ m)) := by
 simp only [apart, Bool.and_eq_true] at h
 obtain ⟨⟨⟨h1, h2⟩, h3⟩, h4⟩ := h
 refine ⟨fun d hd => ?_, fun d hd => ?_, fun d hd => ?_, ?_, ?_⟩
 ·simp [hd] at h1; exact h1.1
 ·simp [hd] at h1; exact h1.2
 ·simp [hd] at h2; exact h2
 ·exact stOk_of h3
 ·exact stOk_of h4
theorem store_read {op : Op} (h : isStore op = true) : isRead op = true := by cases op <;> first | rfl | cases h
def cnt (p : Nat → Bool) : Nat → Nat
 | 0 => 0
 | n + 1 => cnt p n + bif p n then 1 else 0
theorem cnt_le {p q : Nat → Bool} (h : ∀ i, q i = true → p i = true) : ∀ n, cnt q n ≤ cnt p n
 | 0 => Nat.le_refl _
 | n + 1 => by
  have := cnt_le h n
  have h1 := h n
  simp only [cnt]
  cases hq : q n <;> cases hp : p n <;> simp_all <;> omega
theorem cnt_lt {p q : Nat → Bool} (h : ∀ i, q i = true → p i = true) : ∀ n i, i < n → p i = true → q i = false → cnt q n < cnt p n
 | 0, i, hi, _, _ => by omega
 | n + 1, i, hi, hp, hq => by
  simp only [cnt]
  by_cases e : i = n
  ·subst e
   have := cnt_le h i
   simp [hp, hq]; omega
  ·have := cnt_lt h n i (by omega) hp hq
   have h1 := h n
   cases hq' : q n <;> cases hp' : p n <;> simp_all <;> omega
theorem cnt_zero {p : Nat → Bool} : ∀ {n}, cnt p n = 0 → ∀ i, i < n → p i = false
 | 0, _, i, hi => by omega
 | n + 1, h, i, hi => by
  simp only [cnt] at h
  have h1 : cnt p n = 0 := by omega
  by_cases e : i = n
  ·subst e; cases hp : p i
   ·rfl
   ·simp [hp] at h
  ·exact cnt_zero h1 i (by omega)
theorem cnt_self (p : Nat → Bool) : ∀ n, cnt p n ≤ n
 | 0 => Nat.le_refl _
 | n + 1 => by have := cnt_self p n; simp only [cnt]; cases p n <;> simp <;> omega
def fold (f : Nat → St → St) (p : Nat → Bool) : Nat → St → St
 | 0, s => s
 | n + 1, s => bif p n then f n (fold f p n s) else fold f p n s
theorem fold_congr {f : Nat → St → St} {p q : Nat → Bool} {s : St} : ∀ n, (∀ i, i < n → p i = q i) → fold f p n s = fold f q n s
 | 0, _ => rfl
 | n + 1, h => by simp only [fold]; rw [fold_congr n (fun i hi => h i (by omega)), h n (by omega)]
theorem fold_insert {f : Nat → St → St} {p : Nat → Bool} {i : Nat} {s : St} (hi : p i = false) (hc : ∀ k, i < k → p k = true → ∀ t, f i (f k t) = f k (f i t)) :
  ∀ n, i < n → fold f (fun k => p k || Nat.beq k i) n s = f i (fold f p n s)
 | 0, h => by omega
 | n + 1, h => by
  simp only [fold]
  by_cases e : i = n
  ·subst e
   rw [hi]
   have : Nat.beq i i = true := Nat.beq_refl i
   rw [this]
   simp only [Bool.or_true, cond_true, Bool.false_or, cond_false]
   congr 1
   exact fold_congr i (fun k hk => by
    have : Nat.beq k i = false := by
     cases hb : Nat.beq k i
     ·rfl
     ·have := Nat.eq_of_beq_eq_true hb; omega
    simp [this])
  ·have hb : Nat.beq n i = false := by
    cases hb : Nat.beq n i
    ·rfl
    ·have := Nat.eq_of_beq_eq_true hb; omega
   rw [hb, Bool.or_false, fold_insert hi hc n (by omega)]
   cases hp : p n
   ·rfl
   ·simp only [cond_true]
    exact (hc n (by omega) hp _).symm
theorem fold_agree {f : Nat → St → St} {p q : Nat → Bool} {R : St → St → Prop} {s : St} (h0 : R s s) (hb : ∀ k t u, R t u → p k = true → q k = true → R (f k t) (f k u))
  (hl : ∀ k t u, R t u → p k = true → q k = false → R (f k t) u) (hr : ∀ k t u, R t u → p k = false → q k = true → R t (f k u)) : ∀ n, R (fold f p n s) (fold f q n s)
 | 0 => h0
 | n + 1 => by
  have ih := fold_agree h0 hb hl hr n
  simp only [fold]
  cases hp : p n <;> cases hq : q n
  ·exact ih
  ·exact hr n _ _ ih hp hq
  ·exact hl n _ _ ih hp hq
  ·exact hb n _ _ ih hp hq
section
variable {P : Program} {σ : Env} {W : World} {cx : Cx} {callf : Bool → Nat → Pc → List AV → Hp → Tree (AV × Hp)}
def Good (σ : Env) (cx : Cx) (callf : Bool → Nat → Pc → List AV → Hp → Tree (AV × Hp)) (ops : List Oper) (bs : List Nat) (tg : List (Option Nat)) (h0 j : Nat) (o : Oper) (s : St) (x : Option Eff) : Prop :=
 match x with
 | some e => gval σ ops s.tm o = some true ∧ (∃ pc, pcOk σ pc ∧ (aop cx callf pc (h0 + j) s.tm (bif isRead o.op then maskH (sees bs tg h0 j) 0 s.hp else s.hp.map fun _ => none) o).sel σ = some e) ∧ drawnEff o (tg.getD j none) h0 (bs.getD j 0) e = true
 | none => gval σ ops s.tm o = some false
theorem adraw_log {ops : List Oper} {bs : List Nat} {tg : List (Option Nat)} {h0 : Nat} : ∀ (l : List Oper) (j : Nat) {pc : Pc} {s s' : St}, pcOk σ pc → (adraw cx callf ops bs tg h0 j l pc s).sel σ = some s' →
  ∃ (x : Nat → Option Eff) (S : Nat → St), S j = s ∧ S (j + l.length) = s' ∧ ∀ i o, l[i]? = some o → Good σ cx callf ops bs tg h0 (j + i) o (S (j + i)) (x (j + i)) ∧ S (j + i + 1) = stepOf h0 (j + i) o (x (j + i)) (S (j + i))
 | [], j, pc, s, s', hp, h => ⟨fun _ => none, fun _ => s, rfl, (sel_leaf h), fun i o hi => by simp at hi⟩
 | o :: l, j, pc, s, s', hp, h => by
  unfold adraw at h
  obtain ⟨pc', b, hp', hg, h⟩ := wants_sel hp h
  have key : ∀ (x0 : Option Eff) (s1 : St), s1 = stepOf h0 j o x0 s → Good σ cx callf ops bs tg h0 j o s x0 → (∃ pc2, pcOk σ pc2 ∧ (adraw cx callf ops bs tg h0 (j + 1) l pc2 s1).sel σ = some s') →
    ∃ (x : Nat → Option Eff) (S : Nat → St), S j = s ∧ S (j + (o :: l).length) = s' ∧ ∀ i o', (o :: l)[i]? = some o' → Good σ cx callf ops bs tg h0 (j + i) o' (S (j + i)) (x (j + i)) ∧ S (j + i + 1) = stepOf h0 (j + i) o' (x (j + i)) (S (j + i)) := by
   intro x0 s1 e1 hgood ⟨pc2, hp2, h2⟩
   obtain ⟨x, S, k1, k2, k3⟩ := adraw_log l (j + 1) hp2 h2
   refine ⟨fun k => if k = j then x0 else x k, fun k => if k = j then s else S k, by simp, ?_, ?_⟩
   ·have : j + (o :: l).length ≠ j := by simp
    simp only [this, if_false]
    rw [← k2]; congr 1; simp; omega
   ·intro i o' hi
    cases i with
    | zero =>
     simp at hi; subst hi
     simp only [Nat.add_zero, if_true]
     have : j + 1 ≠ j := by omega
     simp only [this, if_false]
     exact ⟨hgood, by rw [k1, e1]⟩
    | succ i =>
     simp at hi
     obtain ⟨a1, a2⟩ := k3 i o' hi
     have e2 : j + (i + 1) = j + 1 + i := by omega
     have n1 : j + 1 + i ≠ j := by omega
     have n2 : j + 1 + i + 1 ≠ j := by omega
     rw [e2]
     simp only [n1, n2, if_false]
     exact ⟨a1, a2⟩
  cases b
  ·simp only [cond_false] at h
   exact key none _ rfl hg ⟨pc', hp', h⟩
  ·simp only [cond_true] at h
   obtain ⟨e, pc2, hp2, he, h⟩ := sel_bind hp' h
   cases hd : drawnEff o (tg.getD j none) h0 (bs.getD j 0) e
   ·simp only [hd, cond_false] at h; exact (sel_fail h).elim
   ·simp only [hd, cond_true] at h
    exact key (some e) _ (stepOf_some _ _ _ _ _).symm ⟨hg, ⟨pc', hp', he⟩, hd⟩ ⟨pc2, hp2, h⟩
theorem maskH_get (v : Nat → Bool) : ∀ (h : Hp) (i n : Nat), (maskH v i h)[n]? = (h[n]?).map fun b => bif v (i + n) then b else none
 | [], i, n => by simp [maskH]
 | b :: h, i, 0 => by simp [maskH]
 | b :: h, i, n + 1 => by
  simp only [maskH, List.getElem?_cons_succ]
  rw [maskH_get v h (i + 1) n, show i + 1 + n = i + (n + 1) from by omega]
theorem maskH_len (v : Nat → Bool) : ∀ (h : Hp) (i : Nat), (maskH v i h).length = h.length
 | [], i => rfl
 | b :: h, i => by simp [maskH, maskH_len v h]
theorem hid_of {bs : List Nat} {tg : List (Option Nat)} {j m : Nat} : ∀ {N k : Nat}, k < N → k ≠ j → (bs.getD j 0).testBit k = false → (bs.getD k 0).testBit j = false → tg.getD k none = some m → hid bs tg j m N = true
 | 0, k, h, _, _, _, _ => by omega
 | N + 1, k, h, h1, h2, h3, h4 => by
  simp only [hid, Bool.or_eq_true]
  by_cases e : k = N
  ·subst e
   left
   have hb : Nat.beq k j = false := by
    cases hb : Nat.beq k j
    ·rfl
    ·exact absurd (Nat.eq_of_beq_eq_true hb) h1
   rw [hb, h2, h3, h4]
   simp
  ·right; exact hid_of (by omega) h1 h2 h3 h4
theorem drawn_out {o : Oper} {t : Option Nat} {h0 m : Nat} {e : Eff} (h : drawnEff o t h0 m e = true) : isOut (some e) = false := by cases e <;> first | rfl | cases h
theorem drawn_st {o : Oper} {t : Option Nat} {h0 m n : Nat} {e : Eff} (h : drawnEff o t h0 m e = true) (hs : isSt (some e) = some n) : isStore o.op = true ∧ (n < h0 ∨ m.testBit (n - h0) = true) ∧ (∀ k, t = some k → k = n) := by
 cases e with
 | st k off cs =>
  simp only [isSt, Option.some.injEq] at hs; subst hs
  simp only [drawnEff, Bool.and_eq_true, Bool.or_eq_true] at h
  exact ⟨h.1.1, h.1.2.imp (fun h => Nat.le_of_ble_eq_true h) id, fun k e => by subst e; exact Nat.eq_of_beq_eq_true h.2⟩
 | _ => cases hs
theorem adraw_sound (hx : CxOk P σ W cx) (hc : CallOk P σ W callf) {l : List Oper} {pc : Pc} {s s' : St} {ρ : Nat → Option Nat} {a : Act} {w0 w : World} {Q : Exit → Act → World → Prop}
  (hE : edgesOk 0 l = true) {tg : List (Option Nat)} (htg : tg.length = l.length) (hA : drawOkAt l (befores l []) tg 0 l = true)
  (hp : pcOk σ pc) (h : (adraw cx callf l (befores l []) tg s.hp.length 0 l pc ⟨s.tm, s.hp ++ List.replicate l.length none⟩).sel σ = some s') (hs : SRel σ ρ s a w0 w)
  (hW : Gr W w) (hW0 : W.heap.size ≤ w0.heap.size) (h0 : w0.heap.size ≤ w.heap.size)
  (hQ : ∀ a' w' ρ', sub ρ ρ' → SRel σ ρ' s' a' w0 w' → Below w0.heap.size w w' → a'.defers = a.defers → Q .normal a' w') :
  wpAny P .any l.toArray Q l.toArray.size (Array.replicate l.toArray.size false) a w := by
 obtain ⟨x, S, hS0, hSn, hlog⟩ := adraw_log l 0 hp h
 simp only [Nat.zero_add] at hSn hlog
 generalize hbs : befores l [] = bs at *
 generalize hH0 : s.hp.length = H0 at *
 let f : Nat → St → St := fun k t => match l[k]? with | some o => stepOf H0 k o (x k) t | none => t
 have hf : ∀ k o t, l[k]? = some o → f k t = stepOf H0 k o (x k) t := fun k o t hk => by simp only [f, hk]
 have hSf : ∀ k, k ≤ l.length → S k = fold f (fun _ => true) k (S 0) := by
  intro k
  induction k with
  | zero => intro _; rfl
  | succ k ih =>
   intro hk
   have hg := List.getElem?_eq_getElem (l := l) (i := k) (by omega)
   rw [(hlog k _ hg).2, ih (by omega)]
   simp only [fold, cond_true]
   rw [hf k _ _ hg]
 have hout : ∀ k o, l[k]? = some o → isOut (x k) = false := by
  intro k o hk
  have := (hlog k o hk).1
  cases hxk : x k with
  | none => rfl
  | some e => rw [hxk] at this; exact drawn_out this.2.2
 have hst : ∀ k o n, l[k]? = some o → isSt (x k) = some n → isStore o.op = true ∧ (n < H0 ∨ (bs.getD k 0).testBit (n - H0) = true) ∧ (∀ q, tg.getD k none = some q → q = n) := by
  intro k o n hk hn
  have := (hlog k o hk).1
  cases hxk : x k with
  | none => rw [hxk] at hn; cases hn
  | some e => rw [hxk] at this hn; exact drawn_st this.2.2 hn
 have hblt : ∀ j o, l[j]? = some o → ∀ k, (bs.getD j 0).testBit k = true → k < j := by
  intro j o hj k hk; subst hbs; exact before_lt hE j hj k hk
 have hap : ∀ i j y z, l[i]? = some y → l[j]? = some z → i < j → (bs.getD j 0).testBit i = false → apart l y z (tg.getD i none) (tg.getD j none) = true := fun i j y z h1 h2 h3 h4 => apart_of hA h1 h2 h3 h4
 have hlen0 : (S 0).hp.length = H0 + l.length := by rw [hS0]; simp [hH0]
 have hlens : ∀ p n, n ≤ l.length → (fold f p n (S 0)).hp.length = H0 + l.length ∧ (fold f p n (S 0)).tm.length = (S 0).tm.length := by
  intro p n
  induction n with
  | zero => intro _; exact ⟨hlen0, rfl⟩
  | succ n ih =>
   intro hn
   obtain ⟨i1, i2⟩ := ih (by omega)
   simp only [fold]
   have hg := List.getElem?_eq_getElem (l := l) (i := n) (by omega)
   cases p n
   ·exact ⟨i1, i2⟩
   ·simp only [cond_true]
    rw [hf n _ _ hg]
    exact ⟨by simp only [stepOf]; rw [hOf_len _ _ _ (hout n _ hg)]; exact i1, by simp only [stepOf]; rw [putT_len]; exact i2⟩
 have main : ∀ (fuel : Nat) (L : Array Bool) (a1 : Act) (w1 : World) (ρ1 : Nat → Option Nat), L.size = l.length → cnt (fun i => !L.getD i false) l.length ≤ fuel →
   (∀ i o, l[i]? = some o → L.getD i false = true → ∀ e ∈ o.after.toList, Region.binds .any e = true → L.getD e.on false = true) →
   SRel σ ρ1 (fold f (fun i => L.getD i false) l.length (S 0)) a1 w0 w1 → (∀ i, i < l.length → L.getD i false = false → ρ1 (H0 + i) = none) →
   sub ρ ρ1 → Gr W w1 → w0.heap.size ≤ w1.heap.size → Below w0.heap.size w w1 → a1.defers = a.defers → wpAny P .any l.toArray Q fuel L a1 w1 := by
  intro fuel
  have hend : ∀ (L : Array Bool) (a1 : Act) (w1 : World) (ρ1 : Nat → Option Nat), (∀ i, i < l.length → L.getD i false = true) → SRel σ ρ1 (fold f (fun i => L.getD i false) l.length (S 0)) a1 w0 w1 → sub ρ ρ1 → Below w0.heap.size w w1 → a1.defers = a.defers → Q .normal a1 w1 := by
   intro L a1 w1 ρ1 hall hr hsub hb hd
   have e : fold f (fun i => L.getD i false) l.length (S 0) = s' := by
    rw [← hSn, hSf _ (Nat.le_refl _)]
    exact fold_congr _ (fun i hi => hall i hi)
   rw [e] at hr
   exact hQ a1 w1 ρ1 hsub hr hb hd
  have hready : ∀ (L : Array Bool), L.size = l.length → Region.ready .any l.toArray L = [] → ∀ i, i < l.length → L.getD i false = true := by
   intro L hsz hr i
   induction i using Nat.strongRecOn with
   | _ i ih =>
    intro hi
    cases hL : L.getD i false
    ·exfalso
     have hg := List.getElem?_eq_getElem (l := l) (i := i) hi
     have : i ∈ Region.ready .any l.toArray L := by
      refine mem_ready.2 ⟨?_, l[i], by simp, fun e he hb => ih e.on ?_ ?_⟩
      ·have hi' : i < L.size := by omega
       simp [Array.getD, hi'] at hL ⊢; exact hL
      ·have := edgesOk_get hE hg e (by simpa using he) hb; omega
      ·have := edgesOk_get hE hg e (by simpa using he) hb; omega
     rw [hr] at this; cases this
    ·rfl
  induction fuel with
  | zero =>
   intro L a1 w1 ρ1 hsz hcnt hD hr hfree hsub hW1 h01 hb hd
   have hall : ∀ i, i < l.length → L.getD i false = true := fun i hi => by
    have := cnt_zero (Nat.le_zero.1 hcnt) i hi
    simpa using this
   refine ⟨?_, hend L a1 w1 ρ1 hall hr hsub hb hd⟩
   cases hrd : Region.ready .any l.toArray L with
   | nil => rfl
   | cons i r =>
    exfalso
    have : i ∈ Region.ready .any l.toArray L := by rw [hrd]; simp
    obtain ⟨m1, o, m2, _⟩ := mem_ready.1 this
    have hi : i < l.length := by
     have := (Array.getElem?_eq_some_iff.1 m2).1; simpa using this
    have := hall i hi
    have hi' : i < L.size := by omega
    simp [Array.getD, hi'] at m1 this
    rw [m1] at this; cases this
  | succ fuel ih =>
   intro L a1 w1 ρ1 hsz hcnt hD hr hfree hsub hW1 h01 hb hd
   refine ⟨fun hrd => hend L a1 w1 ρ1 (hready L hsz hrd) hr hsub hb hd, fun i hi => ?_⟩
   obtain ⟨m1, o, m2, m3⟩ := mem_ready.1 hi
   have hil : i < l.length := by have := (Array.getElem?_eq_some_iff.1 m2).1; simpa using this
   have hg : l[i]? = some o := by simpa using m2
   have hLi : L.getD i false = false := by
    have hi' : i < L.size := by omega
    simp [Array.getD, hi'] at m1 ⊢; exact m1
   have hpre : ∀ e ∈ o.after.toList, Region.binds .any e = true → L.getD e.on false = true := fun e he hb => m3 e (by simpa using he) hb
   have hbL : ∀ k, (bs.getD i 0).testBit k = true → L.getD k false = true := by
    intro k hk; subst hbs; exact before_listed hE (L := fun k => L.getD k false) hD i hg hpre k hk
   have hnb : ∀ k z, l[k]? = some z → L.getD k false = true → (bs.getD k 0).testBit i = false := by
    intro k z hk hLk
    cases hb' : (bs.getD k 0).testBit i
    ·rfl
    ·exfalso
     have : L.getD i false = true := by
      subst hbs; exact before_listed hE (L := fun k => L.getD k false) hD k hk (hD k z hk hLk) i hb'
     rw [this] at hLi; cases hLi
   let vs : Nat → Bool := sees bs tg H0 i
   have hvs : ∀ k, (bs.getD i 0).testBit k = false → vs (H0 + k) = false := by
    intro k hk
    have : Nat.blt (H0 + k) H0 = false := by
     cases hb' : Nat.blt (H0 + k) H0
     ·rfl
     ·have := Nat.le_of_ble_eq_true hb'; omega
    simp only [vs, sees, this, Bool.false_or, Nat.add_sub_cancel_left, hk, Bool.false_and]
   have hvt : ∀ k n, k < l.length → k ≠ i → (bs.getD i 0).testBit k = false → (bs.getD k 0).testBit i = false → tg.getD k none = some n → vs n = false := by
    intro k n h1 h2 h3 h4 h5
    simp only [vs, sees, hid_of (show k < tg.length by omega) h2 h3 h4 h5, Bool.not_true, Bool.and_false]
   have hlt' : ∀ k z, l[k]? = some z → k < l.length := fun k z hk => by
    apply Classical.byContradiction; intro hn
    rw [List.getElem?_eq_none (by omega)] at hk; cases hk
   have hag : Agree (looks l o) (isRead o.op) vs (fold f (fun k => L.getD k false) l.length (S 0)) (fold f (fun k => Nat.blt k i) l.length (S 0)) := by
    refine fold_agree (R := Agree (looks l o) (isRead o.op) vs) (Agree.refl _ _ _ _) ?_ ?_ ?_ l.length
    ·intro k t u hR h1 h2
     cases hk : l[k]? with
     | none => simp only [f, hk]; exact hR
     | some z => rw [hf k z _ hk, hf k z _ hk]; exact hR.both _ _ _ _ (hout k z hk)
    ·intro k t u hR h1 h2
     cases hk : l[k]? with
     | none => simp only [f, hk]; exact hR
     | some z =>
      rw [hf k z _ hk]
      have hki : i ≤ k := by
       apply Classical.byContradiction; intro hn
       have : Nat.blt k i = true := Nat.ble_eq_true_of_le (by omega)
       rw [this] at h2; cases h2
      have hne : k ≠ i := fun e => by rw [e, hLi] at h1; cases h1
      obtain ⟨p1, p2, p3, p4, p5⟩ := apart_parts (hap i k o z hg hk (by omega) (hnb k z hk h1))
      have hik : (bs.getD i 0).testBit k = false := by
       cases hb' : (bs.getD i 0).testBit k
       ·rfl
       ·have := hblt i o hg k hb'; omega
      refine hR.left _ _ _ _ (hout k z hk) p3 (fun hrd n hn => ?_) (fun hrd => hvs k ?_)
      ·obtain ⟨q, q1, -⟩ := p5 (hst k z n hk hn).1 hrd
       have := (hst k z n hk hn).2.2 q q1; subst this
       exact hvt k q (hlt' k z hk) hne hik (hnb k z hk h1) q1
      ·cases hb' : (bs.getD i 0).testBit k
       ·rfl
       ·have := hblt i o hg k hb'; omega
    ·intro k t u hR h1 h2
     cases hk : l[k]? with
     | none => simp only [f, hk]; exact hR
     | some z =>
      rw [hf k z _ hk]
      have hki : k < i := Nat.le_of_ble_eq_true h2
      have hbk : (bs.getD i 0).testBit k = false := by
       cases hb' : (bs.getD i 0).testBit k
       ·rfl
       ·have := hbL k hb'; rw [this] at h1; cases h1
      obtain ⟨p1, p2, p3, p4, p5⟩ := apart_parts (hap k i z o hk hg hki hbk)
      have hki' : (bs.getD k 0).testBit i = false := by
       cases hb' : (bs.getD k 0).testBit i
       ·rfl
       ·have := hblt k z hk i hb'; omega
      refine (hR.symm.left _ _ _ _ (hout k z hk) p1 (fun hrd n hn => ?_) (fun hrd => hvs k hbk)).symm
      obtain ⟨q, q1, -⟩ := p4 (hst k z n hk hn).1 hrd
      have := (hst k z n hk hn).2.2 q q1; subst this
      exact hvt k q (hlt' k z hk) (by omega) hbk hki' q1
   have hSi : fold f (fun k => Nat.blt k i) l.length (S 0) = S i := by
    have hgen : ∀ n, i ≤ n → fold f (fun k => Nat.blt k i) n (S 0) = fold f (fun k => Nat.blt k i) i (S 0) := by
     intro n
     induction n with
     | zero => intro h; rw [show i = 0 from by omega]
     | succ n ihn =>
      intro h
      by_cases e : i = n + 1
      ·rw [e]
      ·simp only [fold]
       have : Nat.blt n i = false := by
        cases hb' : Nat.blt n i
        ·rfl
        ·have := Nat.le_of_ble_eq_true hb'; omega
       rw [this]; exact ihn (by omega)
    rw [hgen _ (by omega), hSf i (by omega)]
    exact fold_congr i (fun k hk => Nat.ble_eq_true_of_le (by omega))
   rw [hSi] at hag
   have hins : fold f (fun k => (L.setIfInBounds i true).getD k false) l.length (S 0) = f i (fold f (fun k => L.getD k false) l.length (S 0)) := by
    have hcomm : ∀ k, i < k → L.getD k false = true → ∀ t, f i (f k t) = f k (f i t) := by
     intro k hki hLk t
     cases hk : l[k]? with
     | none => simp only [f, hk]
     | some z =>
      rw [hf k z _ hk, hf i o _ hg, hf i o _ hg, hf k z _ hk]
      have hbk := hnb k z hk hLk
      obtain ⟨p1, p2, p3, p4, p5⟩ := apart_parts (hap i k o z hg hk hki hbk)
      simp only [stepOf]
      congr 1
      ·exact putT_comm _ _ _ (fun d hd hz => p2 d hz hd)
      ·refine hOf_comm (by omega) ?_ ?_ ?_ (hout i o hg) (hout k z hk) _
       ·intro n hn
        rcases (hst i o n hg hn).2.1 with h | h
        ·omega
        ·have := hblt i o hg _ h; omega
       ·intro n hn
        rcases (hst k z n hk hn).2.1 with h | h
        ·omega
        ·intro e; rw [e, Nat.add_sub_cancel_left, hbk] at h; cases h
       ·intro n m hn hm
        obtain ⟨q, q1, q2⟩ := p4 (hst i o n hg hn).1 (store_read (hst k z m hk hm).1)
        obtain ⟨r, r1, r2⟩ := q2 (hst k z m hk hm).1
        rw [← (hst i o n hg hn).2.2 q q1, ← (hst k z m hk hm).2.2 r r1]; exact r2
    rw [← fold_insert (f := f) (s := S 0) (p := fun k => L.getD k false) hLi hcomm l.length hil]
    refine fold_congr _ (fun k hk => ?_)
    by_cases e : i = k
    ·subst e
     have hi' : i < L.size := by omega
     simp [Array.getD, hi']
    ·have hk' : k < L.size := by omega
     have hb' : Nat.beq k i = false := by
      cases hb' : Nat.beq k i
      ·rfl
      ·have := Nat.eq_of_beq_eq_true hb'; omega
     simp [Array.getD, hk', Array.getElem_setIfInBounds, e, hb']
   have hnext : ∀ (a2 : Act) (w2 : World) (ρ2 : Nat → Option Nat), sub ρ1 ρ2 → (∀ k, k < l.length → k ≠ i → ρ2 (H0 + k) = ρ1 (H0 + k)) → SRel σ ρ2 (stepOf H0 i o (x i) (fold f (fun k => L.getD k false) l.length (S 0))) a2 w0 w2 →
     Below w0.heap.size w1 w2 → a2.defers = a1.defers → wpAny P .any l.toArray Q fuel (L.setIfInBounds i true) a2 w2 := by
    intro a2 w2 ρ2 hs2 hρ2 hr2 hb2 hd2
    have hget : ∀ k, k < l.length → k ≠ i → (L.setIfInBounds i true).getD k false = L.getD k false := by
     intro k hk hne
     have hk' : k < L.size := by omega
     have : i ≠ k := fun e => hne e.symm
     simp [Array.getD, hk', Array.getElem_setIfInBounds, this]
    have hgeti : (L.setIfInBounds i true).getD i false = true := by
     have hi' : i < L.size := by omega
     simp [Array.getD, hi']
    have hmono : ∀ k, L.getD k false = true → (L.setIfInBounds i true).getD k false = true := by
     intro k hk
     by_cases e : k = i
     ·rw [e]; exact hgeti
     ·by_cases hk' : k < l.length
      ·rw [hget k hk' e]; exact hk
      ·have : ¬ k < L.size := by omega
       simp [Array.getD, this] at hk
    refine ih (L.setIfInBounds i true) a2 w2 ρ2 (by simpa using hsz) ?_ ?_ ?_ ?_ (hsub.trans hs2) (Below.trans hW1 (Below.mono hb2 hW0)) (Nat.le_trans h01 hb2.size) (hb.trans hb2) (hd2.trans hd)
    ·have := cnt_lt (p := fun k => !L.getD k false) (q := fun k => !(L.setIfInBounds i true).getD k false) (fun k hk => by
      cases hLk : L.getD k false
      ·rfl
      ·have := hmono k hLk; simp [this] at hk) l.length i hil (by simp [hLi]) (by simp [hgeti])
     omega
    ·intro k z hk hLk e he hbe
     by_cases ek : k = i
     ·subst ek
      rw [hg] at hk; simp only [Option.some.injEq] at hk; subst hk
      exact hmono _ (hpre e he hbe)
     ·have hkl : k < l.length := by
       apply Classical.byContradiction; intro hn
       rw [List.getElem?_eq_none (by omega)] at hk; cases hk
      rw [hget k hkl ek] at hLk
      exact hmono _ (hD k z hk hLk e he hbe)
    ·rw [hins, hf i o _ hg]; exact hr2
    ·intro k hk hLk
     have ek : k ≠ i := fun e => by rw [e, hgeti] at hLk; cases hLk
     rw [hρ2 k hk ek]
     rw [hget k hk ek] at hLk
     exact hfree k hk hLk
   have hgood := (hlog i o hg).1
   obtain ⟨hl1, hl2⟩ := hlens (fun k => L.getD k false) l.length (Nat.le_refl _)
   have htm : ∀ d ∈ looks l o, ∀ v, (S i).tm[d]? = some v → ∃ u, a1.tmps[d]? = some u ∧ rel σ ρ1 v u := by
    intro d hd v hv
    rw [← hag.tm d hd] at hv
    obtain ⟨u, u1, u2⟩ := relL_get hr.tm d v hv
    exact ⟨u, by simpa using u1, u2⟩
   unfold wpOp
   rw [m2]
   simp only
   cases hxi : x i with
   | none =>
    rw [hxi] at hgood
    have hw := gval_real (ρ := ρ1) (a := a1) hgood (fun g want d hgd hdd v hv => htm d (by simp [looks, hgd, hdd]) v hv)
    rw [hw]
    simp only [Bool.false_eq_true, if_false]
    refine hnext _ _ ρ1 (sub.refl _) (fun _ _ _ => rfl) ?_ (Below.refl _ _) (put_defers _ _ _)
    rw [hxi, stepOf_none]
    exact ⟨putT_ok hr.tm rel_undef, hr.hp, hr.fresh⟩
   | some e =>
    rw [hxi] at hgood
    obtain ⟨g1, ⟨pc1, g2, g3⟩, g4⟩ := hgood
    have hw := gval_real (ρ := ρ1) (a := a1) g1 (fun g want d hgd hdd v hv => htm d (by simp [looks, hgd, hdd]) v hv)
    rw [hw]
    simp only [if_true]
    refine .inl ?_
    have hSl := hlens (fun _ => true) i (by omega)
    rw [← hSf i (by omega)] at hSl
    have hview : ∀ (n : Nat) (B : Bk), (bif isRead o.op then maskH (sees bs tg H0 i) 0 (S i).hp else (S i).hp.map fun _ => none)[n]? = some (some B) →
      (fold f (fun k => L.getD k false) l.length (S 0)).hp[n]? = some (some B) := by
     intro n B hn
     cases hrd : isRead o.op
     ·rw [hrd] at hn; simp only [cond_false, List.getElem?_map] at hn
      cases hh : (S i).hp[n]? with
      | none => rw [hh] at hn; cases hn
      | some b => rw [hh] at hn; simp at hn
     ·rw [hrd] at hn; simp only [cond_true] at hn
      rw [maskH_get] at hn
      simp only [Nat.zero_add] at hn
      cases hh : (S i).hp[n]? with
      | none => rw [hh] at hn; cases hn
      | some b =>
       rw [hh] at hn
       simp only [Option.map_some, Option.some.injEq] at hn
       cases hv : sees bs tg H0 i n
       ·rw [hv] at hn; cases hn
       ·rw [hv] at hn
        simp only [cond_true] at hn
        rw [hag.hp hrd n hv, hh, hn]
    have hvl : (bif isRead o.op then maskH (sees bs tg H0 i) 0 (S i).hp else (S i).hp.map fun _ => none).length = H0 + l.length := by
     cases isRead o.op
     ·simp only [cond_false, List.length_map]; exact hSl.1
     ·simp only [cond_true, maskH_len]; exact hSl.1
    refine aop_sound hx hc (ρ := ρ1) (w0 := w0) g2 g3 ?_ (hr.hp.less hview) ?_ hW1 hW0 h01 ?_
    ·intro y hy v hv
     cases y with
     | tmp t =>
      obtain ⟨u, u1, u2⟩ := htm t (by
       refine List.mem_append_left _ (List.mem_filterMap.2 ⟨.tmp t, hy, rfl⟩)) v hv
      have e : a1.eval (.tmp t) = u := by
       simp only [Act.eval, Array.getD_eq_getD_getElem?]
       rw [u1]; rfl
      rw [e]; exact u2
     | const c => exact rel_ofConst hv
     | global g => cases hv
     | func g => simp only [ev, Option.some.injEq] at hv; subst hv; exact ⟨#[], #[], rfl, rfl, rfl⟩
    ·intro n hn
     refine hr.fresh n ?_
     rw [hl1]; rw [hvl] at hn; exact hn
    ·refine eff_on (s := S i) (s1 := fold f (fun k => L.getD k false) l.length (S 0)) h01 hr.tm hr.hp ?_ ?_ hr.fresh ?_
     ·intro _; exact ⟨hfree i hil hLi, by rw [hl1]; omega⟩
     ·intro n off cs _ B hB; exact hview n B hB
     ·intro a2 w2 ρ2 k1 k2 k3 k4 k5
      refine hnext a2 w2 ρ2 k1 (fun k hk hne => k2 _ (fun _ _ _ => by omega) (fun v h' hh => by have := drawn_out g4; rw [hh] at this; cases this)) ?_ k4 k5
      rw [hxi, stepOf_some]; exact k3
 have hrep : ∀ i, (Array.replicate l.toArray.size false).getD i false = false := by intro i; simp [Array.getD]
 refine main _ _ a w ρ (by simp) (by simpa using cnt_self _ l.length) (fun i o hi hL => by rw [hrep] at hL; cases hL) ?_ (fun i hi _ => hs.fresh _ (by omega)) (sub.refl _) hW h0 (Below.refl _ _) rfl
 have e : fold f (fun i => (Array.replicate l.toArray.size false).getD i false) l.length (S 0) = S 0 := by
  have hz : ∀ n, fold f (fun _ => false) n (S 0) = S 0 := by
   intro n
   induction n with
   | zero => rfl
   | succ n ih => simp only [fold, cond_false]; exact ih
  rw [fold_congr _ (fun i _ => hrep i)]
  exact hz _
 rw [e, hS0]
 refine ⟨hs.tm, hs.hp.less (fun n B hn => ?_), fun n hn => hs.fresh n (by simp at hn; omega)⟩
 rcases Nat.lt_or_ge n s.hp.length with hl | hl
 ·simp only at hn; rwa [List.getElem?_append_left hl] at hn
 ·simp only at hn; rw [List.getElem?_append_right hl, List.getElem?_replicate] at hn
  split at hn <;> simp at hn
end
end Go.Proofs.YtlfoglklibhbnaaGreat.Sx
