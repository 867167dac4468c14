/- The reckoner: each operation is what it reckons. -/
import Derived.Test.YtlfoglklibhbnaaGreatEe
import Derived.Laws.StructEq
set_option linter.unusedVariables false
set_option linter.unusedSimpArgs false
namespace Go.Proofs.YtlfoglklibhbnaaGreat.Sx
open Go.RowKit

section
variable {P : Program} {σ : Env} {W : World} {cx : Cx} {callf : Bool → Nat → Pc → List AV → Hp → Tree (AV × Hp)} {pc : Pc} {nm : Nat} {tm : List AV} {H : Hp} {e : Eff} {a : Act} {w w0 : World} {ρ : Nat → Option Nat}

theorem run_binInt {op : BinOp} {x y : Int} {t : TypeId} {v : Value} (p q : Operand)
    (h : (match op with
      | .add => some (Value.int .i64 (IntKind.i64.wrap (x + y))) | .sub => some (.int .i64 (IntKind.i64.wrap (x - y))) | .mul => some (.int .i64 (IntKind.i64.wrap (x * y)))
      | .quo => if y = 0 then none else some (.int .i64 (IntKind.i64.wrap (x.tdiv y))) | .rem => if y = 0 then none else some (.int .i64 (x.tmod y))
      | .eql => some (.bool (x == y)) | .neq => some (.bool (!(x == y))) | .lss => some (.bool (decide (x < y))) | .leq => some (.bool (decide (x ≤ y))) | .gtr => some (.bool (decide (y < x))) | .geq => some (.bool (decide (y ≤ x)))
      | _ => none) = some v) : (do eqGuard op t p q (.int .i64 x) (.int .i64 y); binOp op t (.int .i64 x) (.int .i64 y)).run P w = .ok v w := by
  cases op <;> simp only [reduceCtorEq, Option.some.injEq, Option.ite_none_left_eq_some] at h
  all_goals first
    | (obtain ⟨h0, h⟩ := h; subst h; simp [eqGuard, binOp, Op.intDiv, h0]; done)
    | (subst h; simp [eqGuard, binOp, Op.intArith, Op.intCmp, bne]; done)

theorem aop_sound (hx : CxOk P σ W cx) (hc : CallOk P σ W callf) {o : Oper} (hp : pcOk σ pc) (h : (aop cx callf pc nm tm H o).sel σ = some e) (he : EvOk σ ρ tm a o.op.operands.toList)
    (hH : HRel σ ρ H w0 w) (hf : ∀ n, H.length ≤ n → ρ n = none) (hW : Gr W w) (hW0 : W.heap.size ≤ w0.heap.size) (h0 : w0.heap.size ≤ w.heap.size)
    {K : Act → World → Prop} {Q : Exit → Act → World → Prop} (hK : EffK σ ρ w0 nm H o.dst a w K e) : o.wp P a w K Q := by
  obtain ⟨dst, op, ty, pos, after, guard⟩ := o
  cases op
  case move x =>
    simp only [aop] at h
    obtain ⟨v, hv, rfl⟩ := sel_val' h
    exact wp_of_run rfl (hK _ _ (he x (by simp [Op.operands]) v hv) (Gr.refl w))
  case assign x =>
    simp only [aop] at h
    obtain ⟨v, hv, rfl⟩ := sel_val' h
    exact wp_of_run rfl (hK _ _ (he x (by simp [Op.operands]) v hv) (Gr.refl w))
  case pick c x y =>
    simp only [aop] at h
    split at h
    · rename_i ec hec
      obtain ⟨pc', hp', h⟩ := sel_part hp h
      obtain ⟨v, hv, rfl⟩ := sel_val' h
      have hc' : a.eval c = .bool (σ.b ec) := he c (by simp [Op.operands]) _ hec
      refine wp_of_run (u := a.eval (bif σ.b ec then x else y)) (w' := w) ?_ (hK _ _ (he _ ?_ v hv) (Gr.refl w))
      · simp only [execOp, hc', asBool, Sem.run_bind, Sem.run_pure, Result.andThen_ok]
        cases σ.b ec <;> rfl
      · cases σ.b ec <;> simp [Op.operands]
    · exact (sel_fail h).elim
  case alloc t =>
    simp only [aop] at h
    have h := sel_ofOption h
    simp only [Option.map_eq_some_iff] at h
    obtain ⟨z, hz, rfl⟩ := h
    obtain ⟨v, hv, hr⟩ := hx.zeros (σ' := σ) (ρ := ρ) hz w
    refine wp_of_run (u := .pointer (some ⟨w.heap.size, 0, none⟩)) (w' := w.alloc (.cells v.cells t)) ?_ ?_
    · exact run_v (by simp only [Instr.alloc, Sem.run_bind, hv, Result.andThen_ok]; rfl)
    · exact hK _ _ w.heap.size v.cells (Nat.le_refl _) (by simp) (MapKept.heap_alloc w _).1 hr ⟨_, upd_self, rfl⟩ (gr_alloc _ _)
  case box t x =>
    simp only [aop] at h
    have h := sel_ofOption h
    simp only [Option.bind_eq_some_iff] at h
    obtain ⟨v, hv, h⟩ := h
    cases ho : oneAll v.cells
    · simp [ho] at h
    · simp only [ho, cond_true, Option.some.injEq] at h; subst h
      have hr := he x (by simp [Op.operands]) v hv
      refine wp_of_run (u := .pointer (some ⟨w.heap.size, 0, none⟩)) (w' := w.alloc (.cells (a.eval x).cells t)) (run_v rfl) ?_
      exact hK _ _ w.heap.size (a.eval x).cells (Nat.le_refl _) (by simp) (MapKept.heap_alloc w _).1 (relL_cells hr ho) ⟨_, upd_self, rfl⟩ (gr_alloc _ _)
  case build t ps =>
    simp only [aop] at h
    split at h
    · rename_i qs z fs hqs hz hd
      cases hk : (fieldsKnown cx fs.toList && oneParts qs)
      · simp only [hk, cond_false] at h; exact (sel_fail h).elim
      · simp only [hk, cond_true] at h
        simp only [Bool.and_eq_true] at hk
        obtain ⟨v, hv, rfl⟩ := sel_val' h
        simp only [Option.map_eq_some_iff] at hv
        obtain ⟨r, hr, rfl⟩ := hv
        obtain ⟨zv, hzv, hzr⟩ := hx.zeros (σ' := σ) (ρ := ρ) hz w
        obtain ⟨g, hg, hmap⟩ := fieldsKnown_ok hx hk.1
        obtain ⟨e1, e2⟩ := evParts_ok (σ := σ) (ρ := ρ) (a := a) (fun y hy => he y (by simpa [Op.operands] using hy)) hqs
        obtain ⟨ws, hw1, hw2⟩ := fill_ok (place' := fun i => ((fs.toList.map fun f => (f.offset, g f)).toArray)[i]?) (by
          intro i p hp
          unfold placeOf at hp
          split at hp
          · rename_i f hf'
            rw [hg f (List.mem_of_getElem? hf')] at hp
            simp only [Option.map_some, Option.some.injEq] at hp; subst hp
            simp [hf']
          · cases hp) hr hzr e1 e2 (oneParts_ok hk.2)
        refine wp_of_run (u := .agg ws.toArray) (w' := w) (run_v ?_) (hK _ _ ⟨_, rfl, by simpa using hw2⟩ (Gr.refl w))
        unfold Instr.build
        simp only [Sem.run_bind, Sem.run_map, hzv, Result.andThen_ok, hx.desc hd, Array.mapM_eq_mapM_toList]
        rw [hmap w]
        simp only [Result.andThen_ok, Array.toList_map]
        have e3 : (Array.toList ps).map (fun x => match x with | (i, x) => (i, a.eval x)) = ps.toList.map fun p => (p.1, a.eval p.2) := rfl
        rw [Array.toArray_toList] at hw1
        rw [e3, hw1]
        rfl
    · rename_i qs z n el hqs hz hd
      split at h
      · rename_i s hs
        cases hk : oneParts qs
        · simp only [hk, cond_false] at h; exact (sel_fail h).elim
        · simp only [hk, cond_true] at h
          obtain ⟨v, hv, rfl⟩ := sel_val' h
          simp only [Option.map_eq_some_iff] at hv
          obtain ⟨r, hr, rfl⟩ := hv
          obtain ⟨zv, hzv, hzr⟩ := hx.zeros (σ' := σ) (ρ := ρ) hz w
          obtain ⟨e1, e2⟩ := evParts_ok (σ := σ) (ρ := ρ) (a := a) (fun y hy => he y (by simpa [Op.operands] using hy)) hqs
          obtain ⟨ws, hw1, hw2⟩ := fill_ok (place' := fun i => some (i * s, s)) (fun _ _ h => h) hr hzr e1 e2 (oneParts_ok hk)
          refine wp_of_run (u := .agg ws.toArray) (w' := w) (run_v ?_) (hK _ _ ⟨_, rfl, by simpa using hw2⟩ (Gr.refl w))
          unfold Instr.build
          simp only [Sem.run_bind, Sem.run_map, hzv, Result.andThen_ok, hx.desc hd, hx.size hs, Array.toList_map]
          have e3 : (Array.toList ps).map (fun x => match x with | (i, x) => (i, a.eval x)) = ps.toList.map fun p => (p.1, a.eval p.2) := rfl
          rw [Array.toArray_toList] at hw1
          rw [e3, hw1]
          rfl
      · exact (sel_fail h).elim
    · exact (sel_fail h).elim
  case buildSlice t len ps =>
    simp only [aop] at h
    split at h
    · rename_i qs el hqs hd
      split at h
      · rename_i s z hs hz
        cases hk : (Nat.beq z.length s && Nat.ble (len * s) 16777216 && Nat.blt 0 (len * s) && oneParts qs)
        · simp only [hk, cond_false] at h; exact (sel_fail h).elim
        · simp only [hk, cond_true] at h
          simp only [Bool.and_eq_true] at hk
          obtain ⟨⟨⟨k1, k2⟩, k3⟩, k4⟩ := hk
          have k1 := Nat.eq_of_beq_eq_true k1
          have k2 := Nat.le_of_ble_eq_true k2
          have k3 : 0 < len * s := Nat.le_of_ble_eq_true k3
          have h := sel_ofOption h
          simp only [Option.bind_eq_some_iff] at h
          obtain ⟨r, hr, h⟩ := h
          cases ho : oneAll r
          · simp [ho] at h
          · simp only [ho, cond_true, Option.some.injEq] at h; subst h
            obtain ⟨zv, hzv, hzr⟩ := hx.zeros (σ' := σ) (ρ := ρ) hz w
            have hzl := relL_length hzr
            have hpos : 0 < zv.cells.toList.length := by
              rw [← hzl, k1]; exact Nat.pos_of_ne_zero (fun hz => by rw [hz] at k3; simp at k3)
            obtain ⟨e1, e2⟩ := evParts_ok (σ := σ) (ρ := ρ) (a := a) (fun y hy => he y (by simpa [Op.operands] using hy)) hqs
            obtain ⟨ws, hw1, hw2⟩ := fill_ok (place' := fun i => some (i * s, s)) (fun _ _ h => h) hr (rep_ok hzr len) e1 e2 (oneParts_ok k4)
            have e4 : (Array.range (len * s)).map (fun i => zv.cells[i % zv.cells.size]!) = (rep zv.cells.toList len).toArray := by
              rw [← rep_range _ hpos len]
              apply Array.ext'
              simp only [Array.toList_map, Array.toList_range, Array.toArray_toList]
              rw [← hzl, k1]
            refine wp_of_run (u := .slice (some ⟨w.heap.size, 0, none⟩) len len) (w' := w.alloc (.cells ws.toArray el)) (run_v ?_) ?_
            · unfold Instr.buildSlice
              simp only [Sem.run_bind, Sem.run_map, Result.andThen_ok, hx.desc hd, hx.size hs, Array.toList_map]
              rw [if_neg (by omega), if_neg (by omega)]
              simp only [Sem.run_bind, hzv, Result.andThen_ok, Sem.run_pure]
              have e3 : (Array.toList ps).map (fun x => match x with | (i, x) => (i, a.eval x)) = ps.toList.map fun p => (p.1, a.eval p.2) := rfl
              rw [e4, e3, hw1]
              rfl
            · exact hK _ _ w.heap.size ws.toArray (Nat.le_refl _) (by simp) (MapKept.heap_alloc w _).1 (by simpa using hw2) ⟨_, upd_self, rfl⟩ (gr_alloc _ _)
      · exact (sel_fail h).elim
    · exact (sel_fail h).elim
  case load t x =>
    simp only [aop] at h
    split at h
    · rename_i n off ti hv hti
      have ht := hx.tyf hti
      obtain ⟨b, hb, hxe⟩ : ∃ b, ρ n = some b ∧ a.eval x = .pointer (some ⟨b, off, none⟩) := he x (by simp [Op.operands]) _ hv
      cases ha : ti.agg
      · simp only [ha, cond_false] at h
        split at h
        · rename_i c hc'
          have := sel_leaf h; subst this
          obtain ⟨b', vs, T, h1, h2, h3, h4⟩ := readAt_ok hH hc'
          rw [hb] at h1; simp only [Option.some.injEq] at h1; subst h1
          obtain ⟨u, us, h5, h6, h7⟩ := h4
          have : us = [] := h7
          subst this
          have hg := take_one (l := vs.toList) (off := off) ⟨u, h5, rfl⟩
          refine wp_of_run (u := u) (w' := w) (run_v ?_) (hK _ _ h6 (Gr.refl w))
          rw [Instr.loadAt, hxe]
          exact run_loadVar_one ht ha h2 (by simpa using hg)
        · exact (sel_fail h).elim
      · simp only [ha, cond_true] at h
        obtain ⟨v, hv', rfl⟩ := sel_val' h
        simp only [Option.map_eq_some_iff] at hv'
        obtain ⟨cs, hcs, rfl⟩ := hv'
        obtain ⟨b', vs, T, h1, h2, h3, h4⟩ := readAt_ok hH hcs
        rw [hb] at h1; simp only [Option.some.injEq] at h1; subst h1
        refine wp_of_run (u := _) (w' := w) (run_v ?_) (hK _ _ ⟨((vs.toList.drop off).take ti.size).toArray, rfl, by simpa using h4⟩ (Gr.refl w))
        rw [Instr.loadAt, hxe]
        exact run_loadVar_agg ht ha h2 h3
    · exact (sel_fail h).elim
  case store t x y =>
    simp only [aop] at h
    split at h
    · rename_i n off v s hvx hvy hs
      obtain ⟨b, hb, hxe⟩ : ∃ b, ρ n = some b ∧ a.eval x = .pointer (some ⟨b, off, none⟩) := he x (by simp [Op.operands]) _ hvx
      have hry := he y (by simp [Op.operands]) _ hvy
      split at h
      · rename_i B hB
        cases hk : (B.own && Nat.beq v.cells.length s && Nat.ble (off + s) B.cells.length && oneAll v.cells)
        · simp only [hk, cond_false] at h; exact (sel_fail h).elim
        · simp only [hk, cond_true] at h
          simp only [Bool.and_eq_true] at hk
          obtain ⟨⟨⟨k1, k2⟩, k3⟩, k4⟩ := hk
          have k2 := Nat.eq_of_beq_eq_true k2
          have k3 := Nat.le_of_ble_eq_true k3
          have := sel_leaf h; subst this
          have hrc := relL_cells hry k4
          obtain ⟨b', vs, h1, h2, h3, h4⟩ := hH.blk n B hB
          rw [hb] at h1; simp only [Option.some.injEq] at h1; subst h1
          have l1 := relL_length hrc
          have l2 := relL_length h3
          simp only [Array.length_toList] at l1 l2
          obtain ⟨w', hw1, hw2⟩ := run_storeVar (P := P) (t := t) (hx.size hs w) h2 (v := a.eval y) (by omega) (off := off) (by omega) (ones_of_rel hrc k4)
          refine wp_of_skip (w' := w') (run_u ?_) (hK _ b _ B hB k1 hb (h4 k1) hrc hw2)
          rw [Instr.storeAt, hxe]
          exact hw1
      · exact (sel_fail h).elim
    · exact (sel_fail h).elim
  case nilCheck x =>
    simp only [aop] at h
    split at h
    · rename_i p hv
      obtain ⟨n, off⟩ := p
      have := sel_leaf h; subst this
      have hr := he x (by simp [Op.operands]) _ hv
      obtain ⟨b, hb, hxe⟩ := hr
      refine wp_of_run (u := .pointer (some ⟨b, off, none⟩)) (w' := w) ?_ (hK _ _ ⟨b, hb, rfl⟩ (Gr.refl w))
      simp only [execOp, hxe]; rfl
    · rename_i f fs cs hv
      have := sel_leaf h; subst this
      have hr := he x (by simp [Op.operands]) _ hv
      obtain ⟨gs, ds, hxe, h1, h2⟩ := hr
      refine wp_of_run (u := .func (.func f) gs ds) (w' := w) ?_ (hK _ _ ⟨gs, ds, rfl, h1, h2⟩ (Gr.refl w))
      simp only [execOp, hxe]; rfl
    · exact (sel_fail h).elim
  case binOp op t x y yt =>
    simp only [aop] at h
    split at h
    · rename_i ea eb hva hvb
      have e1 : a.eval x = .int .i64 (σ.i ea) := he x (by simp [Op.operands]) _ hva
      have e2 : a.eval y = .int .i64 (σ.i eb) := he y (by simp [Op.operands]) _ hvb
      have key : ∀ v u, e = .val v → rel σ ρ v u → (do eqGuard op t x y (a.eval x) (a.eval y); binOp op t (a.eval x) (a.eval y)).run P w = .ok u w →
          Oper.wp P ⟨dst, .binOp op t x y yt, ty, pos, after, guard⟩ a w K Q := by
        intro v u hv hr hrun
        subst hv
        exact wp_of_run (run_v hrun) (hK _ _ hr (Gr.refl w))
      rw [e1, e2] at key
      unfold binInt at h
      cases op <;> simp only at h
      case add => exact key _ _ (sel_leaf h).symm (by show _ = _; rw [i_add]) (run_binInt x y rfl)
      case sub => exact key _ _ (sel_leaf h).symm (by show _ = _; rw [i_sub]) (run_binInt x y rfl)
      case mul => exact key _ _ (sel_leaf h).symm (by show _ = _; rw [i_mul]) (run_binInt x y rfl)
      case quo =>
        obtain ⟨pc', hp', h⟩ := sel_part hp h
        rw [b_eq] at h
        cases hz : (σ.i eb == σ.i (.lit 0))
        · simp only [hz, cond_false] at h
          have hz' : ¬ σ.i eb = 0 := by have e0 : σ.i (.lit 0) = 0 := rfl; rw [e0] at hz; simpa using hz
          exact key _ _ (sel_leaf h).symm (by show _ = _; rw [i_quo]) (run_binInt x y (by show (if σ.i eb = 0 then none else some _) = some _; rw [if_neg hz']))
        · simp only [hz, cond_true] at h; exact (sel_fail h).elim
      case rem =>
        obtain ⟨pc', hp', h⟩ := sel_part hp h
        rw [b_eq] at h
        cases hz : (σ.i eb == σ.i (.lit 0))
        · simp only [hz, cond_false] at h
          have hz' : ¬ σ.i eb = 0 := by have e0 : σ.i (.lit 0) = 0 := rfl; rw [e0] at hz; simpa using hz
          exact key _ _ (sel_leaf h).symm (by show _ = _; rw [i_rem]) (run_binInt x y (by show (if σ.i eb = 0 then none else some _) = some _; rw [if_neg hz']))
        · simp only [hz, cond_true] at h; exact (sel_fail h).elim
      case eql => exact key _ _ (sel_leaf h).symm (by show _ = _; rw [b_eq]) (run_binInt x y rfl)
      case neq => exact key _ _ (sel_leaf h).symm (by show _ = _; rw [b_no, b_eq]) (run_binInt x y rfl)
      case lss => exact key _ _ (sel_leaf h).symm (by show _ = _; rw [b_lt]) (run_binInt x y rfl)
      case leq => exact key _ _ (sel_leaf h).symm (by show _ = _; rw [b_le]) (run_binInt x y rfl)
      case gtr => exact key _ _ (sel_leaf h).symm (by show _ = _; rw [b_lt]) (run_binInt x y rfl)
      case geq => exact key _ _ (sel_leaf h).symm (by show _ = _; rw [b_le]) (run_binInt x y rfl)
      all_goals exact (sel_fail h).elim
    · rename_i la lb hva hvb
      obtain ⟨v, hv, rfl⟩ := sel_val' h
      unfold binAgg at hv
      split at hv
      · rename_i n es fs hn hes hfs
        cases hk : (Nat.beq es.length n && Nat.beq fs.length n)
        · simp [hk] at hv
        · simp only [hk, cond_true] at hv
          simp only [Bool.and_eq_true] at hk
          have k1 := Nat.eq_of_beq_eq_true hk.1
          have k2 := Nat.eq_of_beq_eq_true hk.2
          obtain ⟨us, e1, r1⟩ := he x (by simp [Op.operands]) _ hva
          obtain ⟨vs, e2, r2⟩ := he y (by simp [Op.operands]) _ hvb
          have a1 := allInts_ok hes r1
          have a2 := allInts_ok hfs r2
          have b1 : us = ((es.map σ.i).map (Value.int .i64)).toArray := by apply Array.ext'; simp [a1]
          have b2 : vs = ((fs.map σ.i).map (Value.int .i64)).toArray := by apply Array.ext'; simp [a2]
          have := hx.eqf hn x y (es.map σ.i) (fs.map σ.i) w (by simpa using k1) (by simpa using k2)
          split at hv
          · simp only [Option.some.injEq] at hv; subst hv
            refine wp_of_run (u := .bool (eqI (es.map σ.i) (fs.map σ.i))) (w' := w) (run_v ?_) (hK _ _ (by show _ = _; rw [eqAll_ok]) (Gr.refl w))
            rw [e1, e2, b1, b2]; exact this.1
          · simp only [Option.some.injEq] at hv; subst hv
            refine wp_of_run (u := .bool (!eqI (es.map σ.i) (fs.map σ.i))) (w' := w) (run_v ?_) (hK _ _ (by show _ = _; rw [b_no, eqAll_ok]) (Gr.refl w))
            rw [e1, e2, b1, b2]; exact this.2
          · cases hv
      · cases hv
    · rename_i ea eb hva hvb
      have e1 : a.eval x = .bool (σ.b ea) := he x (by simp [Op.operands]) _ hva
      have e2 : a.eval y = .bool (σ.b eb) := he y (by simp [Op.operands]) _ hvb
      split at h
      · rename_i hd
        have := sel_leaf h; subst this
        have hu : P.underlying t = some .bool := by
          unfold descOf at hd
          simp only [Option.map_eq_some_iff] at hd
          obtain ⟨ti, h1, h2⟩ := hd
          rw [← h2]; exact (hx.tyf h1).1
        refine wp_of_run (u := .bool (σ.b ea == σ.b eb)) (w' := w) (run_v ?_) (hK _ _ (by show _ = _; rw [b_ite, b_no]; cases σ.b ea <;> cases σ.b eb <;> rfl) (Gr.refl w))
        rw [e1, e2]
        have := run_equalIn_bool' (P := P) w 9999 t (σ.b ea) (σ.b eb) hu
        simp only [eqGuard, Sem.run_bind, binOp, Op.equal, Op.maxDepth]
        simp [this]
      · rename_i hd
        have := sel_leaf h; subst this
        have hu : P.underlying t = some .bool := by
          unfold descOf at hd
          simp only [Option.map_eq_some_iff] at hd
          obtain ⟨ti, h1, h2⟩ := hd
          rw [← h2]; exact (hx.tyf h1).1
        refine wp_of_run (u := .bool (!(σ.b ea == σ.b eb))) (w' := w) (run_v ?_) (hK _ _ (by show _ = _; rw [b_ite, b_no]; cases σ.b ea <;> cases σ.b eb <;> rfl) (Gr.refl w))
        rw [e1, e2]
        have := run_equalIn_bool' (P := P) w 9999 t (σ.b ea) (σ.b eb) hu
        simp only [eqGuard, Sem.run_bind, binOp, Op.equal, Op.maxDepth]
        simp [this]
      · exact (sel_fail h).elim
    · exact (sel_fail h).elim
  case unOp op t x =>
    simp only [aop] at h
    split at h
    · rename_i ea hva
      have := sel_leaf h; subst this
      have e1 : a.eval x = .int .i64 (σ.i ea) := he x (by simp [Op.operands]) _ hva
      refine wp_of_run (u := .int .i64 (IntKind.i64.wrap (0 - σ.i ea))) (w' := w) (run_v ?_) (hK _ _ (by show _ = _; rw [i_sub]; rfl) (Gr.refl w))
      rw [e1]; rfl
    · rename_i ea hva
      have := sel_leaf h; subst this
      have e1 : a.eval x = .bool (σ.b ea) := he x (by simp [Op.operands]) _ hva
      refine wp_of_run (u := .bool (!σ.b ea)) (w' := w) (run_v ?_) (hK _ _ (by show _ = _; rw [b_no]) (Gr.refl w))
      rw [e1]; rfl
    · exact (sel_fail h).elim
  case convert s d x =>
    simp only [aop] at h
    split at h
    · rename_i ea ds hva hs hd
      have := sel_leaf h; subst this
      have e1 : a.eval x = .int .i64 (σ.i ea) := he x (by simp [Op.operands]) _ hva
      refine wp_of_run (u := .int .i64 (IntKind.i64.wrap (σ.i ea))) (w' := w) (run_v ?_) (hK _ _ (by show _ = _; rw [i_add]; simp [Env.i, den]) (Gr.refl w))
      rw [e1]
      unfold convert
      simp only [Sem.run_bind, hx.desc hs, hx.desc hd, Result.andThen_ok]
      cases ds <;> rfl
    · exact (sel_fail h).elim
  case fieldAddr t x f =>
    simp only [aop] at h
    split at h
    · rename_i n off fd hva hfd
      split at h
      · rename_i s hs
        cases hk : Nat.blt 0 s
        · simp only [hk, cond_false] at h; exact (sel_fail h).elim
        · simp only [hk, cond_true] at h
          have k0 : 0 < s := Nat.le_of_ble_eq_true hk
          have := sel_leaf h; subst this
          obtain ⟨b, hb, e1⟩ : ∃ b, ρ n = some b ∧ a.eval x = .pointer (some ⟨b, off, none⟩) := he x (by simp [Op.operands]) _ hva
          simp only [Option.bind_eq_some_iff] at hfd
          obtain ⟨fs, hfs, hff⟩ := hfd
          unfold fieldsOf at hfs
          split at hfs
          · rename_i gs hd
            simp only [Option.some.injEq] at hfs; subst hfs
            refine wp_of_run (u := .pointer (some ⟨b, off + fd.offset, none⟩)) (w' := w) (run_v ?_) (hK _ _ ⟨b, hb, rfl⟩ (Gr.refl w))
            rw [e1]
            unfold Instr.fieldAt
            have hff' : gs[f]? = some fd := by simpa using hff
            simp only [Sem.run_bind, hx.desc hd, Result.andThen_ok, hff', Instr.sureAddr, Sem.run_pure, fieldPlace, hx.size hs]
            rw [if_neg (by omega)]
            simp [add_none]
          · cases hfs
      · exact (sel_fail h).elim
    · exact (sel_fail h).elim
  case field t x f =>
    simp only [aop] at h
    split at h
    · rename_i cs fd hva hfd
      obtain ⟨v, hv, rfl⟩ := sel_val' h
      obtain ⟨us, e1, r1⟩ := he x (by simp [Op.operands]) _ hva
      simp only [Option.bind_eq_some_iff] at hfd
      obtain ⟨fs, hfs, hff⟩ := hfd
      unfold fieldsOf at hfs
      split at hfs
      · rename_i gs hd
        simp only [Option.some.injEq] at hfs; subst hfs
        obtain ⟨u, h1, h2⟩ := partOf_ok (w := w) hx hv r1
        refine wp_of_run (u := u) (w' := w) (run_v ?_) (hK _ _ h2 (Gr.refl w))
        rw [e1]
        unfold Instr.field
        have hff' : gs[f]? = some fd := by simpa using hff
        simp only [Sem.run_bind, hx.desc hd, Result.andThen_ok, hff', asAgg, Sem.run_pure, h1]
      · cases hfs
    · exact (sel_fail h).elim
  case indexAddr t x ix =>
    simp only [aop] at h
    split at h
    · rename_i n off ei len el hva hvi hd
      split at h
      · rename_i s hs
        obtain ⟨pc', j, hp', hj, hlt, h⟩ := sel_among hp h
        have := sel_leaf h; subst this
        obtain ⟨b, hb, e1⟩ : ∃ b, ρ n = some b ∧ a.eval x = .pointer (some ⟨b, off, none⟩) := he x (by simp [Op.operands]) _ hva
        have e2 : a.eval ix = .int .i64 (σ.i ei) := he ix (by simp [Op.operands]) _ hvi
        rw [hj] at e2
        refine wp_of_run (u := .pointer (some ⟨b, off + j * s, none⟩)) (w' := w) (run_v ?_) (hK _ _ ⟨b, hb, rfl⟩ (Gr.refl w))
        rw [e1, e2]
        unfold Instr.indexAt
        simp only [Sem.run_bind, asIntOf, Sem.run_pure, hx.desc hd, Result.andThen_ok, Instr.sureAddr]
        rw [if_pos ⟨by omega, by omega⟩]
        simp [hx.size hs, add_none]
      · exact (sel_fail h).elim
    · rename_i n off len cap ei el hva hvi hd
      split at h
      · rename_i s hs
        obtain ⟨pc', j, hp', hj, hlt, h⟩ := sel_among hp h
        have := sel_leaf h; subst this
        obtain ⟨b, hb, e1⟩ : ∃ b, ρ n = some b ∧ a.eval x = .slice (some ⟨b, off, none⟩) len cap := he x (by simp [Op.operands]) _ hva
        have e2 : a.eval ix = .int .i64 (σ.i ei) := he ix (by simp [Op.operands]) _ hvi
        rw [hj] at e2
        refine wp_of_run (u := .pointer (some ⟨b, off + j * s, none⟩)) (w' := w) (run_v ?_) (hK _ _ ⟨b, hb, rfl⟩ (Gr.refl w))
        rw [e1, e2]
        unfold Instr.indexAt
        simp only [Sem.run_bind, asIntOf, Sem.run_pure, hx.desc hd, Result.andThen_ok]
        rw [if_pos ⟨by omega, by omega⟩]
        simp [hx.size hs, add_none]
      · exact (sel_fail h).elim
    · exact (sel_fail h).elim
  case index t x ix =>
    simp only [aop] at h
    split at h
    · rename_i cs ei len el hva hvi hd
      split at h
      · rename_i s hs
        obtain ⟨pc', j, hp', hj, hlt, h⟩ := sel_among hp h
        obtain ⟨v, hv, rfl⟩ := sel_val' h
        obtain ⟨us, e1, r1⟩ := he x (by simp [Op.operands]) _ hva
        have e2 : a.eval ix = .int .i64 (σ.i ei) := he ix (by simp [Op.operands]) _ hvi
        rw [hj] at e2
        obtain ⟨u, h1, h2⟩ := partOf_ok (w := w) hx hv r1
        refine wp_of_run (u := u) (w' := w) (run_v ?_) (hK _ _ h2 (Gr.refl w))
        rw [e1, e2]
        unfold Instr.index
        simp only [Sem.run_bind, asIntOf, Sem.run_pure, hx.desc hd, Result.andThen_ok]
        rw [if_pos ⟨by omega, by omega⟩]
        simp [hx.size hs, h1]
      · exact (sel_fail h).elim
    · exact (sel_fail h).elim
  case slice t x lo hi mx =>
    cases mx with
    | some m => simp only [aop] at h; exact (sel_fail h).elim
    | none =>
      simp only [aop] at h
      split at h
      · rename_i n off len el hva hlo hhi hd
        have elo : lo = none := by cases lo with | none => rfl | some o => simp [evOpt] at hlo
        have ehi : hi = none := by cases hi with | none => rfl | some o => simp [evOpt] at hhi
        subst elo; subst ehi
        split at h
        · rename_i s hs
          cases hk : Nat.blt 0 len
          · simp only [hk, cond_false] at h; exact (sel_fail h).elim
          · simp only [hk, cond_true] at h
            have k0 : 0 < len := Nat.le_of_ble_eq_true hk
            have := sel_leaf h; subst this
            obtain ⟨b, hb, e1⟩ : ∃ b, ρ n = some b ∧ a.eval x = .pointer (some ⟨b, off, none⟩) := he x (by simp [Op.operands]) _ hva
            refine wp_of_run (u := .slice (some ⟨b, off, none⟩) len len) (w' := w) (run_v ?_) (hK _ _ ⟨b, hb, rfl⟩ (Gr.refl w))
            rw [e1]
            unfold Instr.sliceAt
            simp only [Sem.run_bind, hx.desc hd, Result.andThen_ok, Instr.sureAddr, Sem.run_pure, Option.map_none, Instr.sliceBounds, hx.size hs]
            rw [if_neg (by omega)]
            simp [add_none]
        · exact (sel_fail h).elim
      · exact (sel_fail h).elim
  case extract x i =>
    simp only [aop] at h
    split at h
    · rename_i l hva
      obtain ⟨v, hv, rfl⟩ := sel_val' h
      obtain ⟨us, e1, r1⟩ := he x (by simp [Op.operands]) _ hva
      obtain ⟨u, h1, h2⟩ := relL_get r1 i v hv
      refine wp_of_run (u := u) (w' := w) (run_v ?_) (hK _ _ h2 (Gr.refl w))
      rw [e1]
      unfold Instr.extract
      have h1' : us[i]? = some u := by simpa using h1
      simp [h1']
    · exact (sel_fail h).elim
  case makeFunc fn fs cs =>
    cases fn with
    | func f =>
      simp only [aop] at h
      split at h
      · rename_i as ds has hds
        have := sel_leaf h; subst this
        have r1 := relL_evs (σ := σ) (ρ := ρ) (a := a) (fun y hy => he y (by simp [Op.operands] at hy ⊢; exact .inl hy)) has
        have r2 := relL_evs (σ := σ) (ρ := ρ) (a := a) (fun y hy => he y (by simp [Op.operands] at hy ⊢; exact .inr hy)) hds
        refine wp_of_run (u := .func (.func f) (fs.map a.eval) (cs.map a.eval)) (w' := w) (run_v rfl) (hK _ _ ⟨_, _, rfl, by simpa using r1, by simpa using r2⟩ (Gr.refl w))
      · exact (sel_fail h).elim
    | _ => simp only [aop] at h; exact (sel_fail h).elim
  case call c =>
    obtain ⟨callee, args, argTypes⟩ := c
    cases callee with
    | builtin b =>
      simp only [aop] at h
      split at h
      · rename_i vs hvs
        have r1 := relL_evs (σ := σ) (ρ := ρ) (a := a) (fun y hy => he y (by simpa [Op.operands, Call.operands] using hy)) hvs
        split at h
        · rename_i p l cp
          split at h
          · rename_i el hd
            have := sel_leaf h; subst this
            simp only [Option.bind_eq_some_iff] at hd
            obtain ⟨t, ht, hd⟩ := hd
            obtain ⟨u, us, e1, hr, e2⟩ := r1
            have e2 : us = [] := e2
            subst e2
            obtain ⟨p', hu⟩ : ∃ p', u = .slice p' l cp := by
              rcases p with _ | ⟨n, off⟩
              · exact ⟨_, hr⟩
              · obtain ⟨b, _, hb⟩ := hr; exact ⟨_, hb⟩
            refine wp_of_run (u := .int .i64 l) (w' := w) ?_ (hK _ _ rfl (Gr.refl w))
            have e3 : args.map a.eval = #[u] := by apply Array.ext'; simpa using e1
            simp only [execOp, resolve, Sem.run_bind, Sem.run_pure, Result.andThen_ok, invoke, builtin]
            rw [e3]
            unfold Builtin.len_
            simp [ht, hx.desc hd, hu, goInt]
          · exact (sel_fail h).elim
        · split at h
          · rename_i ee es hes
            have := sel_leaf h; subst this
            have e1 := allInts_ok hes r1
            refine wp_of_run (u := .int .i64 ((es.map σ.i).foldl (fun x y => if y < x then y else x) (σ.i ee))) (w' := w) ?_ (hK _ _ ?_ (Gr.refl w))
            · simp only [execOp, resolve, Sem.run_bind, Sem.run_pure, Result.andThen_ok, invoke, builtin]
              unfold Builtin.min_
              rw [Array.toList_map, e1]
              have := run_foldlM (P := P) (f := Builtin.min2) (g := fun x y => if y < x then y else x) (fun x y w => rfl) (es.map σ.i) (σ.i ee) w
              rw [List.map_map] at this
              simp only [List.map_cons]
              exact (congrArg (fun r => Result.andThen r fun a w' => Result.ok (Next.value a) w') this)
            · show _ = _
              rw [foldE_ok (σ := σ) (g := fun x y => if y < x then y else x)]
              intro p q
              unfold minE
              rw [i_ite, b_lt]
              simp
          · exact (sel_fail h).elim
        · split at h
          · rename_i ee es hes
            have := sel_leaf h; subst this
            have e1 := allInts_ok hes r1
            refine wp_of_run (u := .int .i64 ((es.map σ.i).foldl (fun x y => if x < y then y else x) (σ.i ee))) (w' := w) ?_ (hK _ _ ?_ (Gr.refl w))
            · simp only [execOp, resolve, Sem.run_bind, Sem.run_pure, Result.andThen_ok, invoke, builtin]
              unfold Builtin.max_
              rw [Array.toList_map, e1]
              have := run_foldlM (P := P) (f := Builtin.max2) (g := fun x y => if x < y then y else x) (fun x y w => rfl) (es.map σ.i) (σ.i ee) w
              rw [List.map_map] at this
              simp only [List.map_cons]
              exact (congrArg (fun r => Result.andThen r fun a w' => Result.ok (Next.value a) w') this)
            · show _ = _
              rw [foldE_ok (σ := σ) (g := fun x y => if x < y then y else x)]
              intro p q
              unfold maxE
              rw [i_ite, b_lt]
              simp
          · exact (sel_fail h).elim
        · exact (sel_fail h).elim
      · exact (sel_fail h).elim
    | invoke r m => simp only [aop] at h; exact (sel_fail h).elim
    | value f =>
      simp only [aop] at h
      split at h
      · rename_i g first captured vs hf' hvs
        have r1 := relL_evs (σ := σ) (ρ := ρ) (a := a) (fun y hy => he y (by simp [Op.operands, Call.operands] at hy ⊢; exact .inr hy)) hvs
        obtain ⟨fs, cs, e1, r2, r3⟩ := he f (by simp [Op.operands, Call.operands]) _ hf'
        split at h
        · rename_i fn hfn
          have hfo := hx.fnf hfn
          have hr : relL σ ρ (first ++ vs ++ captured) (fs.toList ++ args.toList.map a.eval ++ cs.toList) := relL_append (relL_append r2 r1) r3
          have hrun : (execOp a.eval ⟨dst, .call ⟨.value f, args, argTypes⟩, ty, pos, after, guard⟩).run P w = .ok (.enter g (fs.toList ++ args.toList.map a.eval ++ cs.toList).toArray) w := by
            simp only [execOp, resolve, e1, Deferred.ofValue, Sem.run_bind, Sem.run_pure, Result.andThen_ok, invoke, callFunc]
            have hp0 : (program).run P w = .ok P w := rfl
            rw [hp0]
            simp only [Result.andThen_ok, hfo.1]
            rw [if_neg (by rw [hfo.2.1]; exact Bool.false_ne_true), if_neg (by rw [hfo.2.2]; exact Bool.false_ne_true)]
            have e5 : fs ++ args.map a.eval ++ cs = (fs.toList ++ args.toList.map a.eval ++ cs.toList).toArray := by apply Array.ext'; simp
            rw [e5]; rfl
          unfold Oper.wp
          rw [hrun]
          show Calls P g _ w _
          cases hi : cx.inl.contains g
          · simp only [hi, cond_false] at h
            obtain ⟨r, h1, rfl⟩ := sel_map h
            refine (hc.alone g pc _ _ r _ ρ w0 w hp h1 hW hW0 h0 hr hH hf).mono ?_
            rintro e w' ⟨u, rfl, hu, hg⟩
            exact hK _ _ hu hg
          · simp only [hi, cond_true] at h
            obtain ⟨r, h1, rfl⟩ := sel_map h
            refine (hc.all g pc _ _ r _ ρ w0 w hp h1 hW hW0 h0 hr hH hf).mono ?_
            rintro e w' ⟨u, ρ', rfl, hs, hf2, hH2, hu, hg⟩
            exact hK _ _ ρ' hs hf2 hH2 hu hg
        · exact (sel_fail h).elim
      · exact (sel_fail h).elim
  all_goals (simp only [aop] at h; exact (sel_fail h).elim)
end
end Go.Proofs.YtlfoglklibhbnaaGreat.Sx
