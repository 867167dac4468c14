/- Parts of the proof of TopPoint. No condition of their own. -/
import Derived.Test.YtlfoglklibhbnaaGreatTpC
import Derived.Test.YtlfoglklibhbnaaGreatTpM
import Derived.Test.YtlfoglklibhbnaaGreatTpR
import Derived.Test.YtlfoglklibhbnaaGreatTqA
import Derived.Test.YtlfoglklibhbnaaGreatTpL
import Derived.Deep.RegionHeld3
set_option linter.unusedVariables false
set_option linter.unusedSimpArgs false
namespace Go.Proofs.YtlfoglklibhbnaaGreat
open Go.RowKit Go.Shelf
namespace Mt
theorem rf_law3 {P : Program} {g : Operand} {ps : Array Tmp} {assign body : Code} {Q : Exit → Act → World → Prop} {a : Act} {w : World} {n gf : Nat} {lb : Array Value}
    (hg : a.eval g = .func (.func gf) #[] lb) (eg : ∀ args w, (callFunc gf args).run P w = .ok (.enter gf args) w)
    (N : Nat) (Px : Nat → Array Value → World → Prop) (S : Nat → Prop) (hSw : ∀ k, S k → k < w.heap.size)
    (hit : ∀ W1, Gr w W1 → w.heap.size + 2 ≤ W1.heap.size → IterOk P gf lb N Px (fun k => S k ∨ k = w.heap.size ∨ k = w.heap.size + 1) W1)
    (I : Nat → World → Prop) (Ix : Code → World → Prop)
    (hI : ∀ i A B, I i A → Ks (fun k => k = w.heap.size ∨ k = w.heap.size + 1) A B → w.heap.size ≤ A.heap.size → I i B) (hIx : ∀ c A B, Ix c A → Ks (fun k => k = w.heap.size ∨ k = w.heap.size + 1) A B → w.heap.size ≤ A.heap.size → Ix c B)
    (hPx : ∀ i xs A B, Px i xs A → Ks (fun k => k = w.heap.size ∨ k = w.heap.size + 1) A B → Px i xs B)
    (hsz : ∀ i xs A, Px i xs A → xs.size = ps.size) (h0 : I 0 w) (Ax : Array Value → Act → World → Prop)
    (hAx : ∀ xs a A B, Ax xs a A → Ks (fun k => k = w.heap.size ∨ k = w.heap.size + 1) A B → w.heap.size + 2 ≤ A.heap.size → Ax xs a B)
    (hassign : ∀ (l m : Nat) (i : Nat) (xs : Array Value) (W : World), Px i xs W → I i W → w.heap.size + 2 ≤ W.heap.size →
      assign.wpIn (Fence.wide.inRound l) m P (Exit.then (fun a' W' => Gr W W' ∧ Ax xs a' W') (fun _ _ _ => False)) { tmps := (ps.zip xs).foldl (fun t (p, v) => t.setIfInBounds p v) a.tmps, defers := [] } W)
    (hbody : ∀ (l m : Nat) (i : Nat) (xs : Array Value) (a' : Act) (W : World), i < N → I i W → Px i xs W → Ax xs a' W → Ks (fun k => S k ∨ k = w.heap.size ∨ k = w.heap.size + 1) w W → w.heap.size + 2 ≤ W.heap.size → body.wpIn (Fence.wide.inRound l) m P (rdPost S (I (i + 1)) Ix W) a' W)
    (hdone : ∀ (W : World), I N W → Ks (fun k => S k ∨ k = w.heap.size ∨ k = w.heap.size + 1) w W → W.heap[w.heap.size]? = some (.deferred (some [])) → Q .normal { a with defers := { target := .collected w.heap.size, args := #[] } :: a.defers } W)
    (hstop : ∀ (c : Code) (W : World), Ix c W → Ks (fun k => S k ∨ k = w.heap.size ∨ k = w.heap.size + 1) w W → W.heap[w.heap.size]? = some (.deferred (some [])) → c.wpIn Fence.wide n P Q { a with defers := { target := .collected w.heap.size, args := #[] } :: a.defers } W) :
    (Code.rangeFunc g ps assign body).wpIn Fence.wide n P Q a w := by
  refine wpIn_rangeFunc ?_
  intro fn hfn
  obtain ⟨rec, hrec⟩ : ∃ rec : LoopState → Option Code → Loop, rec = fun st pe => { state := st, pending := pe, fn, tmps := a.tmps, params := ps, assign, body, defers := w.heap.size } := ⟨_, rfl⟩
  obtain ⟨W1, hW1⟩ : ∃ W1, (w.alloc (.deferred (some []))).alloc (.loop (rec .ready none)) = W1 := ⟨_, rfl⟩
  have gW : Gr w W1 := by rw [← hW1]; exact ((Gr.refl w).alloc _).alloc _
  have sW : W1.heap.size = w.heap.size + 2 := by rw [← hW1]; simp
  have hL1 : W1.heap[w.heap.size + 1]? = some (.loop (rec .ready none)) := by
    rw [← hW1]; have := World.alloc_heap_new (w.alloc (.deferred (some []))) (.loop (rec .ready none)); rwa [World.size_alloc] at this
  have hK1 : W1.heap[w.heap.size]? = some (.deferred (some [])) := by
    rw [← hW1]; exact (Below.heap_alloc _ _ _ (by simp)).trans (World.alloc_heap_new w _)
  refine ⟨w.heap.size + 1, [{ target := .collected w.heap.size, args := #[] }], W1, { target := .fn (.func gf) lb, args := #[.func (.yield (w.heap.size + 1)) #[] #[]] }, W1, gf,
    #[.func (.yield (w.heap.size + 1)) #[] #[]] ++ lb, W1, ?_, ?_, fun _ _ => trivial, ?_, (fun h => by cases h), ?_⟩
  · rw [← hW1, hrec]; exact run_enterLoop_outer _ _ _ _ _
  · simp only [resolve, hg]
    simp [go_sem]
  · simp [invoke, go_sem, eg]
  · have nS : ¬ S w.heap.size := fun h => by have := hSw _ h; omega
    have nS1 : ¬ S (w.heap.size + 1) := fun h => by have := hSw _ h; omega
    refine (hit W1 gW (by omega) (n - 1) (w.heap.size + 1)
      (fun i W => I i W ∧ W.heap[w.heap.size + 1]? = some (.loop (rec .ready none)) ∧ W.heap[w.heap.size]? = some (.deferred (some [])) ∧ Ks (fun k => S k ∨ k = w.heap.size ∨ k = w.heap.size + 1) w W ∧ w.heap.size + 2 ≤ W.heap.size)
      (fun W => ∃ c, Ix c W ∧ W.heap[w.heap.size + 1]? = some (.loop (rec .done (some c))) ∧ W.heap[w.heap.size]? = some (.deferred (some [])) ∧ Ks (fun k => S k ∨ k = w.heap.size ∨ k = w.heap.size + 1) w W ∧ w.heap.size + 2 ≤ W.heap.size)
      ?_ ?_ ⟨hI _ _ _ h0 (Ks.of_gr gW) (Nat.le_refl _), hL1, hK1, Ks.of_gr gW, by omega⟩).mono ?_
    · rintro i A B ⟨h1, h2, h3, h4, h5⟩ hg
      have hs := hg.size
      exact ⟨hI _ _ _ h1 (Ks.of_gr hg) (by omega), (hg.block _ (by omega)).trans h2, (hg.block _ (by omega)).trans h3, h4.trans (Ks.of_gr hg), by omega⟩
    · rintro i xs W hiN ⟨hi, hl, hk, hks, hsz2⟩ hpx
      have hlt : w.heap.size + 1 < W.heap.size := (Array.getElem?_eq_some_iff.1 hl).1
      have hy := run_yield (P := P) (args := xs) hl (by rw [hrec]; exact hsz _ _ _ hpx)
      rw [hrec] at hy
      refine ⟨fn, _, assign, body, hy, roundIn_of_wpIn hfn (wpIn_mono (hassign _ _ i xs W hpx hi hsz2) ?_)⟩
      intro e a' Wa hp0
      cases e
      case normal =>
       obtain ⟨gWa, hax⟩ := hp0
       have hla : Wa.heap[w.heap.size + 1]? = some (.loop (rec .ready none)) := (gWa.block _ (by omega)).trans hl
       have hka : Wa.heap[w.heap.size]? = some (.deferred (some [])) := (gWa.block _ (by omega)).trans hk
       have hlta : w.heap.size + 1 < Wa.heap.size := (Array.getElem?_eq_some_iff.1 hla).1
       refine ⟨_, run_beginRound hla (by rw [hrec]), ?_⟩
       obtain ⟨W2, hW2⟩ : ∃ W2, Wa.putObj (w.heap.size + 1) (.loop { rec .ready none with state := .busy }) = W2 := ⟨_, rfl⟩
       have hl2 : W2.heap[w.heap.size + 1]? = some (.loop { rec .ready none with state := .busy }) := by rw [← hW2]; exact World.putObj_heap_same hlta
       have hk2 : W2.heap[w.heap.size]? = some (.deferred (some [])) := by rw [← hW2]; exact (World.putObj_heap_other (by omega)).trans hka
       have hp2 : Ks (fun k => k = w.heap.size ∨ k = w.heap.size + 1) W W2 := by rw [← hW2]; exact (Ks.of_gr gWa).trans (Ks.put (S := fun k => k = w.heap.size ∨ k = w.heap.size + 1) (.inr rfl) _)
       have hp2' : Ks (fun k => S k ∨ k = w.heap.size ∨ k = w.heap.size + 1) W W2 := hp2.mono (fun k h => .inr h)
       have hsz3 : w.heap.size + 2 ≤ W2.heap.size := by have := hp2.size; omega
       rw [hW2]
       refine wpIn_mono (hbody _ _ i xs a' W2 hiN (hI _ _ _ hi hp2 (by omega)) (hPx _ _ _ _ hpx hp2) (hAx _ _ _ _ hax (by rw [← hW2]; exact Ks.put (S := fun k => k = w.heap.size ∨ k = w.heap.size + 1) (.inr rfl) _) (by omega)) (hks.trans hp2') hsz3) ?_
       have fin : ∀ (jump : Option Code) (W3 : World), Ks S W2 W3 →
           (Instr.endRound (w.heap.size + 1) jump).run P W3 = .ok (.bool jump.isNone) (W3.putObj (w.heap.size + 1) (.loop (rec (if jump.isNone then .ready else .done) jump))) ∧
           (W3.putObj (w.heap.size + 1) (.loop (rec (if jump.isNone then .ready else .done) jump))).heap[w.heap.size + 1]? = some (.loop (rec (if jump.isNone then .ready else .done) jump)) ∧
           (W3.putObj (w.heap.size + 1) (.loop (rec (if jump.isNone then .ready else .done) jump))).heap[w.heap.size]? = some (.deferred (some [])) ∧
           Ks (fun k => k = w.heap.size ∨ k = w.heap.size + 1) W3 (W3.putObj (w.heap.size + 1) (.loop (rec (if jump.isNone then .ready else .done) jump))) ∧
           Ks (fun k => S k ∨ k = w.heap.size ∨ k = w.heap.size + 1) W (W3.putObj (w.heap.size + 1) (.loop (rec (if jump.isNone then .ready else .done) jump))) ∧ w.heap.size + 2 ≤ W3.heap.size := fun jump W3 hk3 => by
         have hl3 : W3.heap[w.heap.size + 1]? = some (.loop { rec .ready none with state := .busy }) := (hk3.block _ (by omega) nS1).trans hl2
         have := run_endRound (P := P) jump hl3
         have q1 : Ks (fun k => k = w.heap.size ∨ k = w.heap.size + 1) W3 (W3.putObj (w.heap.size + 1) (.loop (rec (if jump.isNone then .ready else .done) jump))) := Ks.put (S := fun k => k = w.heap.size ∨ k = w.heap.size + 1) (.inr rfl) _
         refine ⟨by rw [hrec] at this ⊢; exact this, World.putObj_heap_same (Array.getElem?_eq_some_iff.1 hl3).1, (World.putObj_heap_other (by omega)).trans ((hk3.block _ (by omega) nS).trans hk2), q1,
           hp2'.trans ((hk3.mono (fun k h => .inl h)).trans (q1.mono (fun k h => .inr h))), by have := hk3.size; omega⟩
       rintro e a3 W3 hp
       cases e with
       | normal =>
         obtain ⟨hk3, hi3⟩ := hp
         obtain ⟨hr, hl4, hk4, q1, q2, q3⟩ := fin none W3 hk3
         exact ⟨_, _, hr, .inl ⟨rfl, ⟨hI _ _ _ hi3 q1 (by omega), hl4, hk4, hks.trans q2, by simpa using q3⟩, q2⟩⟩
       | ret =>
         obtain ⟨hk3, hi3⟩ := hp
         obtain ⟨hr, hl4, hk4, q1, q2, q3⟩ := fin (some .ret) W3 hk3
         exact ⟨_, _, hr, .inr ⟨rfl, .ret, hIx _ _ _ hi3 q1 (by omega), hl4, hk4, hks.trans q2, by simpa using q3⟩⟩
       | exit id =>
         obtain ⟨hk3, hi3⟩ := hp
         obtain ⟨hr, hl4, hk4, q1, q2, q3⟩ := fin (some (.exit id)) W3 hk3
         exact ⟨_, _, hr, .inr ⟨rfl, .exit id, hIx _ _ _ hi3 q1 (by omega), hl4, hk4, hks.trans q2, by simpa using q3⟩⟩
       | goto t =>
         obtain ⟨hk3, hi3⟩ := hp
         obtain ⟨hr, hl4, hk4, q1, q2, q3⟩ := fin (some (.goto t)) W3 hk3
         exact ⟨_, _, hr, .inr ⟨rfl, .goto t, hIx _ _ _ hi3 q1 (by omega), hl4, hk4, hks.trans q2, by simpa using q3⟩⟩
       | panic ch => exact hp.elim
       | outgrown => exact hp.elim
      all_goals exact hp0.elim
    · rintro e W2 ⟨⟨v, rfl⟩, (⟨hi, hl, hk, hks, hs2⟩ | ⟨c, hi, hl, hk, hks, hs2⟩)⟩
      · have q1 : ∀ o, Ks (fun k => k = w.heap.size ∨ k = w.heap.size + 1) W2 (W2.putObj (w.heap.size + 1) o) := fun o => Ks.put (S := fun k => k = w.heap.size ∨ k = w.heap.size + 1) (.inr rfl) _
        exact ⟨none, _, by have := run_endLoop (P := P) hl (by rw [hrec]; simp); rw [hrec] at this; exact this, hdone _ (hI _ _ _ hi (q1 _) (by omega)) (hks.trans ((q1 _).mono (fun k h => .inr h))) ((World.putObj_heap_other (by omega)).trans hk)⟩
      · have q1 : ∀ o, Ks (fun k => k = w.heap.size ∨ k = w.heap.size + 1) W2 (W2.putObj (w.heap.size + 1) o) := fun o => Ks.put (S := fun k => k = w.heap.size ∨ k = w.heap.size + 1) (.inr rfl) _
        exact ⟨some c, _, by have := run_endLoop (P := P) hl (by rw [hrec]; simp); rw [hrec] at this; exact this, hstop c _ (hIx _ _ _ hi (q1 _) (by omega)) (hks.trans ((q1 _).mono (fun k h => .inr h))) ((World.putObj_heap_other (by omega)).trans hk)⟩
end Mt
end Go.Proofs.YtlfoglklibhbnaaGreat
namespace Go.Proofs.YtlfoglklibhbnaaGreat
open Go.RowKit
namespace Sx
section
variable {P : Program} {Q : Exit → Act → World → Prop}
theorem op_inw {m : Nat} {o : Oper} {a : Act} {w : World} {K : Act → World → Prop} (hd : isDef o = false) (h : o.wp P a w K Q) : o.wpIn Fence.wide m P a w K Q := by
 refine ⟨fun _ _ => trivial, ?_⟩
 rw [Oper.semAt_eq _ _ _ (isDef_ne hd)]
 unfold Oper.wp at h
 generalize (execOp a.eval o).run P w = r at h
 cases r with
 | ok x w' =>
  cases x <;> simp only [Oper.upon] at h <;> simp only [Oper.uponIn]
  case value => exact h
  case skip => exact h
  case defer => exact h
  case enter f args =>
   refine ⟨(fun e => by cases e), ?_⟩
   have := callsIn_wide (n := m - 1) |>.2 h
   exact ⟨trivial, this.2⟩
  case row row args =>
   refine ⟨(fun e => by cases e), fun c cs _ => ?_⟩
   obtain ⟨v, w'', h1, h2⟩ := h c cs
   exact ⟨v, w'', h1, stepsIn_wide.2 h2⟩
 | halt x w' => cases x <;> simp only [Oper.upon] at h <;> simp only [Oper.uponIn] <;> exact h
theorem any_inw {m : Nat} {md : Region.Mode} {ops : Array Oper} (hQ : ¬ LetsOut Q) (hd : (ops.toList.all fun o => !isDef o) = true) : ∀ (fuel : Nat) {listed : Array Bool} {a : Act} {w : World}, wpAny P md ops Q fuel listed a w → wpAnyIn Fence.wide m P md ops Q fuel listed a w
 | 0, listed, a, w, h => h
 | fuel + 1, listed, a, w, h => by
  unfold wpAny at h
  unfold wpAnyIn
  refine ⟨h.1, fun i hi => ?_⟩
  have h2 := h.2 i hi
  unfold wpOp at h2
  unfold wpOpIn
  cases ho : ops[i]? with
  | none => rw [ho] at h2; exact any_inw hQ hd fuel h2
  | some o =>
   rw [ho] at h2
   have hdo : isDef o = false := by
    have := List.all_eq_true.1 hd o (by
     obtain ⟨hlt, e⟩ := Array.getElem?_eq_some_iff.1 ho
     rw [← e]
     exact Array.getElem_mem_toList hlt)
    simpa using this
   simp only at h2 ⊢
   split
   ·rename_i hw
    rw [if_pos hw] at h2
    rcases h2 with h2 | h2
    ·exact op_inw hdo (Oper.wp_mono (fun a w => any_inw hQ hd fuel) h2)
    ·exact absurd h2.2 hQ
   ·rename_i hw
    rw [if_neg hw] at h2
    exact ⟨fun _ _ => trivial, any_inw hQ hd fuel h2⟩
end
end Sx
namespace Mt
theorem res_3c {P : Program} {fn : Func} {q1 q2 q3 : Tmp} {y1 y2 y3 : TypeId} (h : fn.results = #[.cell q1 y1, .cell q2 y2, .cell q3 y3]) {tmps : Array Value} {w : World} {b1 b2 b3 : Nat} {T1 T2 T3 : TypeId} {v1 v2 : List Value} {u : Value} {n1 n2 : Nat} (h1 : AggT P y1 n1) (h2 : AggT P y2 n2) {ti : Sx.TI} (h3 : Sx.TyOk P y3 ti) (ha : ti.agg = false)
  (p1 : tmps.getD q1 undef = .pointer (some ⟨b1, 0, none⟩)) (p2 : tmps.getD q2 undef = .pointer (some ⟨b2, 0, none⟩)) (p3 : tmps.getD q3 undef = .pointer (some ⟨b3, 0, none⟩)) (hb1 : Bx w b1 T1 v1) (hb2 : Bx w b2 T2 v2) (hb3 : Bx w b3 T3 [u]) (hn1 : n1 = v1.length) (hn2 : n2 = v2.length) :
  (results fn tmps).run P w = .ok (.tuple #[.agg v1.toArray, .agg v2.toArray, u]) w := by
 obtain ⟨t1, q1a, q1b, q1c⟩ := h1
 obtain ⟨t2, q2a, q2b, q2c⟩ := h2
 rw [hn1] at q1c
 rw [hn2] at q2c
 have r1 : (loadVar y1 ⟨b1, 0, none⟩).run P w = .ok (.agg v1.toArray) w := by
  have := Sx.run_loadVar_agg q1a q1b (off := 0) (vs := v1.toArray) hb1 (by simp [q1c])
  rw [this, q1c]; simp
 have r2 : (loadVar y2 ⟨b2, 0, none⟩).run P w = .ok (.agg v2.toArray) w := by
  have := Sx.run_loadVar_agg q2a q2b (off := 0) (vs := v2.toArray) hb2 (by simp [q2c])
  rw [this, q2c]; simp
 have r3 : (loadVar y3 ⟨b3, 0, none⟩).run P w = .ok u w := Sx.run_loadVar_one h3 ha (vs := #[u]) hb3 rfl
 have e1 : tmps[q1]?.getD undef = .pointer (some ⟨b1, 0, none⟩) := by rw [← p1]; simp
 have e2 : tmps[q2]?.getD undef = .pointer (some ⟨b2, 0, none⟩) := by rw [← p2]; simp
 have e3 : tmps[q3]?.getD undef = .pointer (some ⟨b3, 0, none⟩) := by rw [← p3]; simp
 simp only [results, h]
 simp [Sem.run_bind, e1, e2, e3, asAddr, r1, r2, r3, Result.andThen]
theorem ti_v2 : AggT Tryz.prog 38 2 := ⟨⟨_, 2, [.int .i64 0, .int .i64 0]⟩, ⟨Tryz.underlying38, by kernel_rfl⟩, rfl, rfl⟩
theorem ti_err : ∃ ti, Sx.TyOk Tryz.prog 43 ti ∧ ti.agg = false := ⟨⟨_, 1, [.int .i64 0]⟩, ⟨Tryz.underlying43, by kernel_rfl⟩, rfl⟩
end Mt
end Go.Proofs.YtlfoglklibhbnaaGreat
namespace Go.Proofs.YtlfoglklibhbnaaGreat
open Go.RowKit Go.Shelf
attribute [local go_sem] Oper.semAt_some
namespace Mt
def ptx (zs : List (List Int)) (k : Nat) : Int := (zs.getD (k / 3) []).getD (2 * (k % 3)) 0
def pty (zs : List (List Int)) (k : Nat) : Int := (zs.getD (k / 3) []).getD (2 * (k % 3) + 1) 0
theorem pt_at (zs : List (List Int)) (j i : Nat) (hi : i < 3) : ptx zs (3 * j + i) = (zs.getD j []).getD (2 * i) 0 ∧ pty zs (3 * j + i) = (zs.getD j []).getD (2 * i + 1) 0 := by
 unfold ptx pty
 rw [show (3 * j + i) / 3 = j by omega, show (3 * j + i) % 3 = i by omega]
 exact ⟨rfl, rfl⟩
theorem info_v2 : (Tryz.prog.info? 38).map (fun i => i.size) = some 2 := by kernel_rfl
theorem size_v2 (w : World) : (Go.sizeOf 38).run Tryz.prog w = .ok 2 w := by
 have := info_v2
 cases h : Tryz.prog.info? 38 with
 | none => rw [h] at this; cases this
 | some i => rw [h] at this; simp at this; simp [Go.sizeOf, typeInfo, program, Sem.run, h, this]
theorem agg_v2 (w : World) : (isAgg 38).run Tryz.prog w = .ok true w := by
 unfold isAgg; rw [Sem.run_bind, run_underlying Tryz.underlying38]; rfl
theorem ix_v (w : World) (t0 t1 t2 t3 t4 t5 : Int) (i : Nat) (hi : i < 3) : (Instr.index 39 (.agg #[.int .i64 t0, .int .i64 t1, .int .i64 t2, .int .i64 t3, .int .i64 t4, .int .i64 t5]) (.int .i64 i)).run Tryz.prog w = .ok (.agg #[.int .i64 ([t0, t1, t2, t3, t4, t5].getD (2 * i) 0), .int .i64 ([t0, t1, t2, t3, t4, t5].getD (2 * i + 1) 0)]) w := by
 unfold Instr.index
 have h1 : (asIntOf (.int .i64 (i : Int))).run Tryz.prog w = .ok (.i64, (i : Int)) w := rfl
 have hb : (0 : Int) ≤ (i : Int) ∧ (i : Int) < 3 := by omega
 simp only [Sem.run_bind, h1, Result.andThen_ok, run_underlying Tryz.underlying39]
 simp only [Int.toNat_natCast]
 rw [if_pos (by exact hb)]
 simp only [Sem.run_bind, size_v2, Result.andThen_ok]
 unfold Go.part
 simp only [Sem.run_bind, agg_v2, Result.andThen_ok, if_true, size_v2, Sem.run_pure]
 have hk4 : i = 0 ∨ i = 1 ∨ i = 2 := by omega
 rcases hk4 with rfl | rfl | rfl <;> rfl
theorem rows_ks {m : Nat} {S : Nat → Prop} {w w' : World} {a : Option Addr} {len : Nat} {zs : List (List Int)} (h : Oi.IsRows m w a len zs) (hk : Ks S w w') (hS : ∀ ad : Addr, a = some ad → ¬ S ad.block) : Oi.IsRows m w' a len zs := by
 obtain ⟨h1, h2, h3, h4⟩ := h
 refine ⟨h1, h2, h3, fun hl => ?_⟩
 obtain ⟨b, off, e, hc⟩ := h4 hl
 exact ⟨b, off, e, fun i j hi hj => by rw [hk.cell (p := ⟨b, off + (i * m + j), none⟩) (lt_of_cell (hc i j hi hj)) (hS ⟨b, off, none⟩ e)]; exact hc i j hi hj⟩
set_option maxHeartbeats 8000000 in
set_option maxRecDepth 100000 in
theorem points1_in (n l b0 : Nat) (a : Option Addr) (len cap : Nat) (zs : List (List Int)) (S : Nat → Prop) (W : World) (J : Nat → World → Prop) (Jx : World → Prop)
  (hJ : ∀ k A B, J k A → Gr A B → J k B)
  (hY : ∀ k W1, k < 3 * len → J k W1 → YieldAt Fence.wide (n - 1) Tryz.prog l #[.agg #[.int .i64 (ptx zs k), .int .i64 (pty zs k)]] W1 fun e W' => (e = .returned (.bool true) ∧ J (k + 1) W' ∧ Ks S W1 W') ∨ (e = .returned (.bool false) ∧ Jx W'))
  (hB : Bx W b0 49 [.slice a len cap]) (hr : Oi.IsRows 6 W a len zs) (hSr : ∀ ad : Addr, a = some ad → ¬ S ad.block) (hl : len ≤ 1000000) (h0 : J 0 W) :
  CallsIn Fence.wide n Tryz.prog 100 #[.func (.yield l) #[] #[], .pointer (some ⟨b0, 0, none⟩)] W fun e W' => (∃ v, e = .returned v) ∧ (J (3 * len) W' ∨ Jx W') := by
 refine callsIn_of_wp Tryz.func100 rfl trivial ?_ rfl
 simp only [Tryz.ntmps100, List.size_toArray, List.length_cons, List.length_nil, Nat.reduceAdd, Nat.reduceSub, Array.replicate_succ, Array.replicate_zero, List.push_toArray, List.append_toArray, List.nil_append, List.cons_append]
 have HY := Lib.hid hY; have HJ := Lib.hid hJ; have HR := Lib.hid hr; have H0 := Lib.hid h0; have HS := Lib.hid hSr
 have c0 := hB.blk.cell 0 rfl
 clear hY hJ hB hr h0 hSr
 gi_wp2
 gi_loopw [9] (fun v9 wr => ∃ j : Nat, j ≤ len ∧ v9 = .int .i64 j ∧ Oi.IsRows 6 wr a len zs ∧ J (3 * j) wr) (fun v9 _ => (len - (intOf v9).toNat))
 case atStart => exact ⟨0, Nat.zero_le _, rfl, HR.out, H0.out⟩
 case round =>
  clear HR H0 c0
  obtain ⟨j, hj, rfl, hr, hjk⟩ := hrel
  have HR := Lib.hid hr; have HJK := Lib.hid hjk
  clear hr hjk
  by_cases hlt : j < len
  ·obtain ⟨b, off, t0, t1, t2, t3, t4, t5, rfl, hbl, ez, hI, c0, c1, c2, c3, c4, c5⟩ := rows6_op HR.out hlt
   have HPT := Lib.hid (show ∀ i, i < 3 → ptx zs (3 * j + i) = [t0, t1, t2, t3, t4, t5].getD (2 * i) 0 ∧ pty zs (3 * j + i) = [t0, t1, t2, t3, t4, t5].getD (2 * i + 1) 0 from fun i hi => by rw [← ez]; exact pt_at zs j i hi)
   have hj0 : (0 : Int) ≤ (j : Int) := by omega
   clear ez hI
   gi_wp2
   have HRA := Lib.hid (HR.out.later ((Gr.refl wr).alloc (.cells #[.int .i64 t0, .int .i64 t1, .int .i64 t2, .int .i64 t3, .int .i64 t4, .int .i64 t5] 39)))
   have HJA := Lib.hid (HJ.out _ _ _ HJK.out ((Gr.refl wr).alloc (.cells #[.int .i64 t0, .int .i64 t1, .int .i64 t2, .int .i64 t3, .int .i64 t4, .int .i64 t5] 39)))
   clear c0 c1 c2 c3 c4 c5 HR HJK
   gi_loopw [14] (fun v14 wx => ∃ i : Nat, i ≤ 3 ∧ v14 = .int .i64 i ∧ Oi.IsRows 6 wx (some ⟨b, off, none⟩) len zs ∧ J (3 * j + i) wx) (fun v14 _ => 3 - (intOf v14).toNat)
   case atStart => exact ⟨0, by omega, rfl, HRA.out, HJA.out⟩
   case round =>
    clear HRA HJA
    obtain ⟨i, hi, rfl, hr, hjk⟩ := hrel
    have HR := Lib.hid hr; have HJK := Lib.hid hjk
    clear hr hjk
    by_cases hlti : i < 3
    ·have hix := fun w => ix_v w t0 t1 t2 t3 t4 t5 i hlti
     have hp := HPT.out i hlti
     generalize [t0, t1, t2, t3, t4, t5].getD (2 * i) 0 = x at *
     generalize [t0, t1, t2, t3, t4, t5].getD (2 * i + 1) 0 = y at *
     have hi0 : (0 : Int) ≤ (i : Int) := by omega
     obtain ⟨V, hV⟩ : ∃ V, wr.alloc (.cells #[.int .i64 x, .int .i64 y] 38) = V := ⟨_, rfl⟩
     obtain ⟨s, hs⟩ : ∃ s, wr.heap.size = s := ⟨_, rfl⟩
     have hX : Bx V s 38 [.int .i64 x, .int .i64 y] := by rw [← hV]; exact Bx.new (vs := [.int .i64 x, .int .i64 y]) hs.symm
     have hgV : Gr wr V := by rw [← hV]; exact (Gr.refl wr).alloc _
     have HR2 := Lib.hid (HR.out.later hgV)
     obtain ⟨fn, tmps, assign, body, hy', hR⟩ := HY.out (3 * j + i) V (by omega) (HJ.out _ _ _ HJK.out hgV)
     rw [hp.1, hp.2] at hy'
     have x0 := hX.blk.cell 0 rfl; have x1 := hX.blk.cell 1 rfl; have lx := hX.lt
     have HRR := Lib.hid hR
     clear hX hgV HR HJK hp hR
     gi_wp2
     refine ⟨(fun h => by cases h), ?_⟩
     refine HRR.out.mono ?_
     rintro e W3 (⟨rfl, hJ3, hk3⟩ | ⟨rfl, hJx3⟩)
     ·have H1 := Lib.hid (rows_ks HR2.out hk3 HS.out); have H3 := Lib.hid hJ3
      clear hy' HRR x0 x1 hJ3 hk3 hV hs hix
      gi_wp2
      go_roundw
      case rel => exact ⟨i + 1, by omega, by go_num, H1.out, H3.out⟩
      case measure => simp [intOf]; omega
     ·clear hy' HRR x0 x1 hV hs hix
      gi_wp2
      refine bodyPost_ret (results_none rfl _ _ _) rfl ?_
      exact ⟨⟨_, rfl⟩, .inr hJx3⟩
    ·have hi3 : i = 3 := by omega
     subst hi3
     gi_wp2
     go_roundw
     case rel => exact ⟨j + 1, by omega, by go_num, HR.out, by rw [show 3 * (j + 1) = 3 * j + 3 by omega]; exact HJK.out⟩
     case measure => simp [intOf]; omega
  ·have hjn : j = len := by omega
   subst hjn
   gi_wp2
   go_end0
   exact ⟨⟨_, rfl⟩, .inl HJK.out⟩
end Mt
end Go.Proofs.YtlfoglklibhbnaaGreat
namespace Go.Proofs.YtlfoglklibhbnaaGreat
open Go.RowKit Go.Shelf
attribute [local go_sem] Oper.semAt_some
namespace Mt
def blx (zs : List (List Int)) : Nat → Int
 | 0 => ptx zs 0
 | k + 1 => min (blx zs k) (ptx zs k)
def bly (zs : List (List Int)) : Nat → Int
 | 0 => pty zs 0
 | k + 1 => min (bly zs k) (pty zs k)
def bhx (zs : List (List Int)) : Nat → Int
 | 0 => ptx zs 0
 | k + 1 => max (bhx zs k) (ptx zs k)
def bhy (zs : List (List Int)) : Nat → Int
 | 0 => pty zs 0
 | k + 1 => max (bhy zs k) (pty zs k)
theorem calls_round5 {P : Program} {f : FuncId} {args : Array Value} {w : World} {l n : Nat} {R : Ending → World → Prop} (h : Calls P f args w R) : CallsIn (Fence.wide.inRound l) n P f args w R :=
 ⟨trivial, (callsIn_wide.2 h).2⟩
theorem fpoints_any (a : Option Addr) (len cap : Nat) (w : World) :
  Calls Tryz.prog 71 #[.slice a len cap] w
   fun e w' => e = .returned (.func (.func 100) #[] #[.pointer (some ⟨w.heap.size, 0, none⟩)]) ∧ Bx w' w.heap.size 49 [.slice a len cap] ∧ Gr w w' := by
 go_enter Tryz.func71, Tryz.ntmps71
 go_wp2
 go_ret
 exact ⟨rfl, Bx.new (vs := [.slice a len cap]) rfl, (Gr.refl w).alloc _⟩
set_option maxHeartbeats 16000000 in
set_option maxRecDepth 100000 in
theorem box_any (a : Option Addr) (len cap : Nat) (zs : List (List Int)) (w : World) (hr : Oi.IsRows 6 w a len zs) (hp : 0 < len) (hl : len ≤ 1000) (hs : ∀ k, k < 3 * len → (-4096 ≤ ptx zs k ∧ ptx zs k ≤ 4096) ∧ (-4096 ≤ pty zs k ∧ pty zs k ≤ 4096)) :
  Calls Tryz.prog 38 #[.slice a len cap] w fun e w' => e = .returned (.tuple #[.agg #[.int .i64 (blx zs (3 * len)), .int .i64 (bly zs (3 * len))], .agg #[.int .i64 (bhx zs (3 * len)), .int .i64 (bhy zs (3 * len))], .int .i64 0]) ∧ Gr w w' := by
 refine (callsIn_wide (n := 9)).1 ?_
 refine callsIn_of_wp_marks Tryz.func38 rfl trivial ?_ rfl
 simp only [Tryz.ntmps38, List.size_toArray, List.length_cons, List.length_nil, Nat.reduceAdd, Nat.reduceSub, Array.replicate_succ, Array.replicate_zero, List.push_toArray, List.append_toArray, List.nil_append, List.cons_append]
 have HR := Lib.hid hr; have HS := Lib.hid hs
 obtain ⟨b, off, t0, t1, t2, t3, t4, t5, rfl, hbl, ez, hI, c0, c1, c2, c3, c4, c5⟩ := rows6_op hr hp
 simp only [Nat.zero_mul, Nat.add_zero] at c0 c1
 have HPT := Lib.hid (show ptx zs 0 = t0 ∧ pty zs 0 = t1 from by have := pt_at zs 0 0 (by omega); rw [ez] at this; exact this)
 have hl0 : ((len : Int) == 0) = false := by simp; omega
 have hl1 : (len == 0) = false := by simp; omega
 have hl2 : (0 : Int) < (len : Int) := by omega
 clear hr hs ez hI c2 c3 c4 c5
 obtain ⟨V, hV⟩ : ∃ V, ((w.alloc (.cells #[.int .i64 0, .int .i64 0] 38)).alloc (.cells #[.int .i64 0, .int .i64 0] 38)).alloc (.cells #[.int .i64 0] 43) = V := ⟨_, rfl⟩
 have hg : Gr w V := by rw [← hV]; exact (((Gr.refl w).alloc _).alloc _).alloc _
 have b2 : Bx V w.heap.size 38 [.int .i64 0, .int .i64 0] := by rw [← hV]; exact ((Bx.new (vs := [.int .i64 0, .int .i64 0]) rfl).alloc _).alloc _
 have b3 : Bx V (w.heap.size + 1) 38 [.int .i64 0, .int .i64 0] := by rw [← hV]; exact (Bx.new (vs := [.int .i64 0, .int .i64 0]) (by simp)).alloc _
 have b4 : Bx V (w.heap.size + 1 + 1) 43 [.int .i64 0] := by rw [← hV]; exact Bx.new (vs := [.int .i64 0]) (by simp)
 have d0 : V.cell? ⟨b, off, none⟩ = some (.int .i64 t0) := (hg.cell hbl).trans c0
 have d1 : V.cell? ⟨b, off + 1, none⟩ = some (.int .i64 t1) := (hg.cell hbl).trans c1
 have hVs : w.heap.size + 3 ≤ V.heap.size := by have := b4.lt; omega
 have hblV : b < V.heap.size := by omega
 have HB2 := Lib.hid b2; have HB3 := Lib.hid b3; have HB4 := Lib.hid b4; have HG := Lib.hid hg
 gi_wp2
 clear hV b2 b3 b4 hg
 refine wpIn_mono (Q := Sx.norm (fun e a' w' => ∃ p q, a' = { tmps := #[.slice (some ⟨b, off, none⟩) len cap, undef, .pointer (some ⟨w.heap.size, 0, none⟩), .pointer (some ⟨w.heap.size + 1, 0, none⟩), .pointer (some ⟨w.heap.size + 1 + 1, 0, none⟩), .pointer (some ⟨p, 0, none⟩), .pointer (some ⟨q, 0, none⟩), undef, .slice (some ⟨b, off, none⟩) len cap, .int .i64 len, .bool false, undef, undef, .slice (some ⟨b, off, none⟩) len cap, .pointer (some ⟨b, off, none⟩), .pointer (some ⟨b, off, none⟩), .agg #[.int .i64 t0, .int .i64 t1], .slice (some ⟨b, off, none⟩) len cap, .pointer (some ⟨b, off, none⟩), .pointer (some ⟨b, off, none⟩), .agg #[.int .i64 t0, .int .i64 t1], undef, undef, undef, undef, undef, undef, undef, undef, undef, undef, undef, undef, undef, undef, undef, undef, undef, undef, undef, undef, undef, undef, undef, undef, undef, undef, undef, undef, undef, undef, undef, undef, undef], defers := [] } ∧ Bx w' p 38 [.int .i64 t0, .int .i64 t1] ∧ Bx w' q 38 [.int .i64 t0, .int .i64 t1] ∧ p ≠ q ∧ w.heap.size + 3 ≤ p ∧ w.heap.size + 3 ≤ q ∧ Gr V w')) ?first ?rest
 case first =>
  refine wpIn_region_any (by kernel_rfl) (Sx.any_inw (Sx.norm_out _) (by kernel_rfl) _ (wpAny_of_held (S := fun w' => w'.cell? ⟨b, off, none⟩ = some (.int .i64 t0) ∧ w'.cell? ⟨b, off + 1, none⟩ = some (.int .i64 t1)) _ _ _ _ ?_))
  show wpAnyH _ _ _ _ _ _ _ _ V.drew
  have hH : V.drew.cell? ⟨b, off, none⟩ = some (.int .i64 t0) ∧ V.drew.cell? ⟨b, off + 1, none⟩ = some (.int .i64 t1) := ⟨d0, d1⟩
  have hgU : Gr V V.drew := (Gr.refl V).drew
  have hsU1 : V.drew.heap.size ≤ V.heap.size := Nat.le_refl _
  have hsU2 : V.heap.size ≤ V.drew.heap.size := Nat.le_refl _
  generalize V.drew = U at *
  have hblV : b < U.heap.size := by omega
  refine' wpAnyH_take (i := 0) (v := _) rfl (by kernel_rfl) (by kernel_rfl) (by kernel_rfl) (fun _ _ _ h => h) (Or.inl ⟨by rfl, ?thy1_0⟩) (by assumption) ?_
  case thy1_0 => (intro w hSw; (try dsimp only at hSw); go_simp; try with_reducible rfl)
  try simp only [Act.put, List.setIfInBounds_toArray, List.set_cons_zero, List.set_cons_succ, List.getElem_toArray, List.getElem_cons_zero]
  refine' wpAnyH_take (i := 1) (v := _) rfl (by kernel_rfl) (by kernel_rfl) (by kernel_rfl) (fun _ _ _ h => h) (Or.inl ⟨by rfl, ?thy1_1⟩) (by assumption) ?_
  case thy1_1 => (intro w hSw; (try dsimp only at hSw); go_simp; try with_reducible rfl)
  try simp only [Act.put, List.setIfInBounds_toArray, List.set_cons_zero, List.set_cons_succ, List.getElem_toArray, List.getElem_cons_succ, List.getElem_cons_zero]
  refine' wpAnyH_take (i := 2) (v := _) rfl (by kernel_rfl) (by kernel_rfl) (by kernel_rfl) (fun _ _ _ h => h) (Or.inl ⟨by rfl, ?thy1_2⟩) (by assumption) ?_
  case thy1_2 => (intro w hSw; (try dsimp only at hSw); go_simp; try with_reducible rfl)
  try simp only [Act.put, List.setIfInBounds_toArray, List.set_cons_zero, List.set_cons_succ, List.getElem_toArray, List.getElem_cons_succ, List.getElem_cons_zero]
  refine' wpAnyH_take (i := 3) (v := _) rfl (by kernel_rfl) (by kernel_rfl) (by kernel_rfl) (fun _ _ _ h => h) (Or.inl ⟨by rfl, ?thy1_3⟩) (by assumption) ?_
  case thy1_3 => (intro w hSw; (try dsimp only at hSw); go_simp; try with_reducible rfl)
  try simp only [Act.put, List.setIfInBounds_toArray, List.set_cons_zero, List.set_cons_succ, List.getElem_toArray, List.getElem_cons_succ, List.getElem_cons_zero]
  refine' wpAnyH_take (i := 4) (v := _) rfl (by kernel_rfl) (by kernel_rfl) (by kernel_rfl) (fun _ _ _ h => h) (Or.inl ⟨by rfl, ?thy1_4⟩) (by assumption) ?_
  case thy1_4 => (intro w hSw; (try dsimp only at hSw); go_simp; try with_reducible rfl)
  try simp only [Act.put, List.setIfInBounds_toArray, List.set_cons_zero, List.set_cons_succ, List.getElem_toArray, List.getElem_cons_succ, List.getElem_cons_zero]
  refine' wpAnyH_take (i := 5) (v := _) rfl (by kernel_rfl) (by kernel_rfl) (by kernel_rfl) (fun _ _ _ h => h) (Or.inl ⟨by rfl, ?thy1_5⟩) (by assumption) ?_
  case thy1_5 => (intro w hSw; (try dsimp only at hSw); go_simp; try with_reducible rfl)
  try simp only [Act.put, List.setIfInBounds_toArray, List.set_cons_zero, List.set_cons_succ, List.getElem_toArray, List.getElem_cons_succ, List.getElem_cons_zero]
  refine' wpAnyH_take (i := 6) (v := _) rfl (by kernel_rfl) (by kernel_rfl) (by kernel_rfl) (fun _ _ _ h => h) (Or.inl ⟨by rfl, ?thy1_6⟩) (by assumption) ?_
  case thy1_6 => (intro w hSw; (try dsimp only at hSw); go_simp; try with_reducible rfl)
  try simp only [Act.put, List.setIfInBounds_toArray, List.set_cons_zero, List.set_cons_succ, List.getElem_toArray, List.getElem_cons_succ, List.getElem_cons_zero]
  refine' wpAnyH_take (i := 7) (v := _) rfl (by kernel_rfl) (by kernel_rfl) (by kernel_rfl) (fun _ _ _ h => h) (Or.inl ⟨by rfl, ?thy1_7⟩) (by assumption) ?_
  case thy1_7 => (intro w hSw; (try dsimp only at hSw); go_simp; try with_reducible rfl)
  try simp only [Act.put, List.setIfInBounds_toArray, List.set_cons_zero, List.set_cons_succ, List.getElem_toArray, List.getElem_cons_succ, List.getElem_cons_zero]
  refine wpAnyH_ready (rs := [8, 9]) (by kernel_rfl) (by simp) ?_
  refine AllReadyH.cons rfl (fun K hK => ?_) (AllReadyH.cons rfl (fun K hK => ?_) AllReadyH.nil)
  ·go_simp
   obtain ⟨Y1, hY1⟩ : ∃ X, U.alloc (.cells #[.int .i64 0, .int .i64 0] 38) = X := ⟨_, rfl⟩
   have bAA : Bx Y1 U.heap.size 38 [.int .i64 0, .int .i64 0] := by rw [← hY1]; exact Bx.new (vs := [.int .i64 0, .int .i64 0]) rfl
   have gAA : Gr U Y1 := by rw [← hY1]; exact (Gr.refl U).alloc _
   rw [hY1]
   refine hK.out _ _ ?_ (fun hN => ?_)
   ·exact ⟨(gAA.cell (p := ⟨b, off, none⟩) (by first | exact hblV | (have := gAA.size; simp; omega))).trans hH.1, (gAA.cell (p := ⟨b, off + 1, none⟩) (by first | exact hblV | (have := gAA.size; simp; omega))).trans hH.2⟩
   clear hY1
   clear hK K hH
   have hH := hN; clear hN
   try simp only [Act.put, List.setIfInBounds_toArray, List.set_cons_zero, List.set_cons_succ, List.getElem_toArray, List.getElem_cons_succ, List.getElem_cons_zero]
   refine wpAnyH_ready (rs := [9]) (by kernel_rfl) (by simp) ?_
   refine AllReadyH.cons rfl (fun K hK => ?_) AllReadyH.nil
   go_simp
   obtain ⟨Y2, hY2⟩ : ∃ X, Y1.alloc (.cells #[.int .i64 0, .int .i64 0] 38) = X := ⟨_, rfl⟩
   have bBB : Bx Y2 Y1.heap.size 38 [.int .i64 0, .int .i64 0] := by rw [← hY2]; exact Bx.new (vs := [.int .i64 0, .int .i64 0]) rfl
   have gBB : Gr Y1 Y2 := by rw [← hY2]; exact (Gr.refl Y1).alloc _
   rw [hY2]
   refine hK.out _ _ ?_ (fun hN => ?_)
   ·exact ⟨(gBB.cell (p := ⟨b, off, none⟩) (by first | exact hblV | (have := gAA.size; simp; omega))).trans hH.1, (gBB.cell (p := ⟨b, off + 1, none⟩) (by first | exact hblV | (have := gAA.size; simp; omega))).trans hH.2⟩
   clear hY2
   clear hK K hH
   have hH := hN; clear hN
   try simp only [Act.put, List.setIfInBounds_toArray, List.set_cons_zero, List.set_cons_succ, List.getElem_toArray, List.getElem_cons_succ, List.getElem_cons_zero]
   have hs1 : U.heap.size < Y1.heap.size := bAA.lt
   have bA2 := bAA.gr gBB
   have k0 := bA2.blk.cell 0 rfl; have k1 := bA2.blk.cell 1 rfl; have f0 := bA2.blk.free 0 rfl; have f1 := bA2.blk.free 1 rfl; have l1 := bA2.lt
   have hFA := Lib.hid bA2; have hFB := Lib.hid bBB
   have hGY := Lib.hid ((hgU.trans gAA).trans gBB)
   refine wpAnyH_ready (rs := [10]) (by kernel_rfl) (by simp) ?_
   refine AllReadyH.cons rfl (fun K hK => ?_) AllReadyH.nil
   go_simp
   refine hK.out _ _ ?_ (fun hN => ?_)
   ·refine ⟨?_, ?_⟩
    ·rw [World.cell?_setCell_other _ _ _ _ (by intro h; injection h with h _; omega), World.cell?_setCell_other _ _ _ _ (by intro h; injection h with h _; omega)]; exact hH.1
    ·rw [World.cell?_setCell_other _ _ _ _ (by intro h; injection h with h _; omega), World.cell?_setCell_other _ _ _ _ (by intro h; injection h with h _; omega)]; exact hH.2
   clear hK K hH
   have hH := hN; clear hN
   try simp only [Act.put, List.setIfInBounds_toArray, List.set_cons_zero, List.set_cons_succ, List.getElem_toArray, List.getElem_cons_succ, List.getElem_cons_zero]
   have hFA2 := Lib.hid (bx_seti (bx_seti hFA.out 0 (.int .i64 t0)) 1 (.int .i64 t1))
   have hFB2 := Lib.hid (bx_far (bx_far hFB.out (p := ⟨U.heap.size, 0, none⟩) (by simp; omega) (.int .i64 t0)) (p := ⟨U.heap.size, 1, none⟩) (by simp; omega) (.int .i64 t1))
   have hGY2 := Lib.hid ((hGY.out.setCell (p := ⟨U.heap.size, 0, none⟩) (by simp; omega) (.int .i64 t0)).setCell (p := ⟨U.heap.size, 1, none⟩) (by simp; omega) (.int .i64 t1))
   clear k0 k1 f0 f1 l1
   have k0 := hFB2.out.blk.cell 0 rfl; have k1 := hFB2.out.blk.cell 1 rfl; have f0 := hFB2.out.blk.free 0 rfl; have f1 := hFB2.out.blk.free 1 rfl; have l1 := hFB2.out.lt
   generalize (Y2.setCell ⟨U.heap.size, 0, none⟩ (.int .i64 t0)).setCell ⟨U.heap.size, 1, none⟩ (.int .i64 t1) = Y3 at *
   refine wpAnyH_ready (rs := [11]) (by kernel_rfl) (by simp) ?_
   refine AllReadyH.cons rfl (fun K hK => ?_) AllReadyH.nil
   go_simp
   refine hK.out _ _ ?_ (fun hN => ?_)
   ·refine ⟨?_, ?_⟩
    ·rw [World.cell?_setCell_other _ _ _ _ (by intro h; injection h with h _; omega), World.cell?_setCell_other _ _ _ _ (by intro h; injection h with h _; omega)]; exact hH.1
    ·rw [World.cell?_setCell_other _ _ _ _ (by intro h; injection h with h _; omega), World.cell?_setCell_other _ _ _ _ (by intro h; injection h with h _; omega)]; exact hH.2
   clear hK K hH
   have hH := hN; clear hN
   try simp only [Act.put, List.setIfInBounds_toArray, List.set_cons_zero, List.set_cons_succ, List.getElem_toArray, List.getElem_cons_succ, List.getElem_cons_zero]
   refine wpAnyH_done (by kernel_rfl) ?_ _
   have hFA3 := bx_far (bx_far hFA2.out (p := ⟨Y1.heap.size, 0, none⟩) (by simp; omega) (.int .i64 t0)) (p := ⟨Y1.heap.size, 1, none⟩) (by simp; omega) (.int .i64 t1)
   have hFB3 := bx_seti (bx_seti hFB2.out 0 (.int .i64 t0)) 1 (.int .i64 t1)
   have hGY3 := (hGY2.out.setCell (p := ⟨Y1.heap.size, 0, none⟩) (by simp; omega) (.int .i64 t0)).setCell (p := ⟨Y1.heap.size, 1, none⟩) (by simp; omega) (.int .i64 t1)
   exact ⟨U.heap.size, Y1.heap.size, rfl, hFA3, hFB3, by omega, by omega, by omega, hGY3⟩
  ·go_simp
   obtain ⟨Y1, hY1⟩ : ∃ X, U.alloc (.cells #[.int .i64 0, .int .i64 0] 38) = X := ⟨_, rfl⟩
   have bAA : Bx Y1 U.heap.size 38 [.int .i64 0, .int .i64 0] := by rw [← hY1]; exact Bx.new (vs := [.int .i64 0, .int .i64 0]) rfl
   have gAA : Gr U Y1 := by rw [← hY1]; exact (Gr.refl U).alloc _
   rw [hY1]
   refine hK.out _ _ ?_ (fun hN => ?_)
   ·exact ⟨(gAA.cell (p := ⟨b, off, none⟩) (by first | exact hblV | (have := gAA.size; simp; omega))).trans hH.1, (gAA.cell (p := ⟨b, off + 1, none⟩) (by first | exact hblV | (have := gAA.size; simp; omega))).trans hH.2⟩
   clear hY1
   clear hK K hH
   have hH := hN; clear hN
   try simp only [Act.put, List.setIfInBounds_toArray, List.set_cons_zero, List.set_cons_succ, List.getElem_toArray, List.getElem_cons_succ, List.getElem_cons_zero]
   refine wpAnyH_ready (rs := [8]) (by kernel_rfl) (by simp) ?_
   refine AllReadyH.cons rfl (fun K hK => ?_) AllReadyH.nil
   go_simp
   obtain ⟨Y2, hY2⟩ : ∃ X, Y1.alloc (.cells #[.int .i64 0, .int .i64 0] 38) = X := ⟨_, rfl⟩
   have bBB : Bx Y2 Y1.heap.size 38 [.int .i64 0, .int .i64 0] := by rw [← hY2]; exact Bx.new (vs := [.int .i64 0, .int .i64 0]) rfl
   have gBB : Gr Y1 Y2 := by rw [← hY2]; exact (Gr.refl Y1).alloc _
   rw [hY2]
   refine hK.out _ _ ?_ (fun hN => ?_)
   ·exact ⟨(gBB.cell (p := ⟨b, off, none⟩) (by first | exact hblV | (have := gAA.size; simp; omega))).trans hH.1, (gBB.cell (p := ⟨b, off + 1, none⟩) (by first | exact hblV | (have := gAA.size; simp; omega))).trans hH.2⟩
   clear hY2
   clear hK K hH
   have hH := hN; clear hN
   try simp only [Act.put, List.setIfInBounds_toArray, List.set_cons_zero, List.set_cons_succ, List.getElem_toArray, List.getElem_cons_succ, List.getElem_cons_zero]
   have hs1 : U.heap.size < Y1.heap.size := bAA.lt
   have bA2 := bAA.gr gBB
   have k0 := bBB.blk.cell 0 rfl; have k1 := bBB.blk.cell 1 rfl; have f0 := bBB.blk.free 0 rfl; have f1 := bBB.blk.free 1 rfl; have l1 := bBB.lt
   have hFA := Lib.hid bBB; have hFB := Lib.hid bA2
   have hGY := Lib.hid ((hgU.trans gAA).trans gBB)
   refine wpAnyH_ready (rs := [10]) (by kernel_rfl) (by simp) ?_
   refine AllReadyH.cons rfl (fun K hK => ?_) AllReadyH.nil
   go_simp
   refine hK.out _ _ ?_ (fun hN => ?_)
   ·refine ⟨?_, ?_⟩
    ·rw [World.cell?_setCell_other _ _ _ _ (by intro h; injection h with h _; omega), World.cell?_setCell_other _ _ _ _ (by intro h; injection h with h _; omega)]; exact hH.1
    ·rw [World.cell?_setCell_other _ _ _ _ (by intro h; injection h with h _; omega), World.cell?_setCell_other _ _ _ _ (by intro h; injection h with h _; omega)]; exact hH.2
   clear hK K hH
   have hH := hN; clear hN
   try simp only [Act.put, List.setIfInBounds_toArray, List.set_cons_zero, List.set_cons_succ, List.getElem_toArray, List.getElem_cons_succ, List.getElem_cons_zero]
   have hFA2 := Lib.hid (bx_seti (bx_seti hFA.out 0 (.int .i64 t0)) 1 (.int .i64 t1))
   have hFB2 := Lib.hid (bx_far (bx_far hFB.out (p := ⟨Y1.heap.size, 0, none⟩) (by simp; omega) (.int .i64 t0)) (p := ⟨Y1.heap.size, 1, none⟩) (by simp; omega) (.int .i64 t1))
   have hGY2 := Lib.hid ((hGY.out.setCell (p := ⟨Y1.heap.size, 0, none⟩) (by simp; omega) (.int .i64 t0)).setCell (p := ⟨Y1.heap.size, 1, none⟩) (by simp; omega) (.int .i64 t1))
   clear k0 k1 f0 f1 l1
   have k0 := hFB2.out.blk.cell 0 rfl; have k1 := hFB2.out.blk.cell 1 rfl; have f0 := hFB2.out.blk.free 0 rfl; have f1 := hFB2.out.blk.free 1 rfl; have l1 := hFB2.out.lt
   generalize (Y2.setCell ⟨Y1.heap.size, 0, none⟩ (.int .i64 t0)).setCell ⟨Y1.heap.size, 1, none⟩ (.int .i64 t1) = Y3 at *
   refine wpAnyH_ready (rs := [11]) (by kernel_rfl) (by simp) ?_
   refine AllReadyH.cons rfl (fun K hK => ?_) AllReadyH.nil
   go_simp
   refine hK.out _ _ ?_ (fun hN => ?_)
   ·refine ⟨?_, ?_⟩
    ·rw [World.cell?_setCell_other _ _ _ _ (by intro h; injection h with h _; omega), World.cell?_setCell_other _ _ _ _ (by intro h; injection h with h _; omega)]; exact hH.1
    ·rw [World.cell?_setCell_other _ _ _ _ (by intro h; injection h with h _; omega), World.cell?_setCell_other _ _ _ _ (by intro h; injection h with h _; omega)]; exact hH.2
   clear hK K hH
   have hH := hN; clear hN
   try simp only [Act.put, List.setIfInBounds_toArray, List.set_cons_zero, List.set_cons_succ, List.getElem_toArray, List.getElem_cons_succ, List.getElem_cons_zero]
   refine wpAnyH_done (by kernel_rfl) ?_ _
   have hFA3 := bx_far (bx_far hFA2.out (p := ⟨U.heap.size, 0, none⟩) (by simp; omega) (.int .i64 t0)) (p := ⟨U.heap.size, 1, none⟩) (by simp; omega) (.int .i64 t1)
   have hFB3 := bx_seti (bx_seti hFB2.out 0 (.int .i64 t0)) 1 (.int .i64 t1)
   have hGY3 := (hGY2.out.setCell (p := ⟨U.heap.size, 0, none⟩) (by simp; omega) (.int .i64 t0)).setCell (p := ⟨U.heap.size, 1, none⟩) (by simp; omega) (.int .i64 t1)
   exact ⟨Y1.heap.size, U.heap.size, rfl, hFA3, hFB3, by omega, by omega, by omega, hGY3⟩
 case rest =>
  rintro e a' w4 hmid
  cases e
  all_goals try exact False.elim hmid
  obtain ⟨p, q, rfl, hp, hq, hpq, hp3, hq3, hg⟩ := hmid
  have HP := Lib.hid hp; have HQ := Lib.hid hq
  have HG4 := Lib.hid (HG.out.trans hg)
  have bb2 := HB2.out.gr hg; have bb3 := HB3.out.gr hg; have bb4 := HB4.out.gr hg
  have HB2 := Lib.hid bb2; have HB3 := Lib.hid bb3; have HB4 := Lib.hid bb4
  clear hp hq hg bb2 bb3 bb4 d0 d1 c0 c1
  dsimp only [Exit.then]
  gi_wp2
  refine ⟨trivial, ?_⟩
  refine (callsIn_wide.2 (fpoints_any (some ⟨b, off, none⟩) len cap _)).mono ?_
  rintro e w5 ⟨rfl, hb5, hg5⟩
  have HP5 := Lib.hid (HP.out.gr hg5); have HQ5 := Lib.hid (HQ.out.gr hg5); have B2 := Lib.hid (HB2.out.gr hg5); have B3 := Lib.hid (HB3.out.gr hg5); have B4 := Lib.hid (HB4.out.gr hg5); have HB5 := Lib.hid hb5; have HG5 := Lib.hid (HG4.out.trans hg5)
  have s5 : w4.heap.size < w5.heap.size := hb5.lt
  have lp5 := HP5.out.lt; have lq5 := HQ5.out.lt; have l45 := B4.out.lt
  have lpw := HP.out.lt; have lqw := HQ.out.lt
  have hbl5 : b < w5.heap.size := by have := HG5.out.size; omega
  clear hb5 hg5 HP HQ
  gi_wp2
  refine rf_law3 (n := 9) (gf := 100) (lb := #[.pointer (some ⟨w4.heap.size, 0, none⟩)]) rfl (enters_of Tryz.func100 (by kernel_rfl) rfl) (3 * len) (fun k xs _ => xs = #[.agg #[.int .i64 (ptx zs k), .int .i64 (pty zs k)]]) (fun k => k = p ∨ k = q) ?hS ?hit
   (fun k W => Bx W p 38 [.int .i64 (blx zs k), .int .i64 (bly zs k)] ∧ Bx W q 38 [.int .i64 (bhx zs k), .int .i64 (bhy zs k)] ∧ Bx W w.heap.size 38 [.int .i64 0, .int .i64 0] ∧ Bx W (w.heap.size + 1) 38 [.int .i64 0, .int .i64 0] ∧ Bx W (w.heap.size + 1 + 1) 43 [.int .i64 0]) (fun _ _ => False) ?hI ?hIx ?hPx ?hsz ?h0
   (fun xs a' W => ∃ s x y, xs = #[.agg #[.int .i64 x, .int .i64 y]] ∧ a' = { tmps := #[.slice (some ⟨b, off, none⟩) len cap, undef, .pointer (some ⟨w.heap.size, 0, none⟩), .pointer (some ⟨w.heap.size + 1, 0, none⟩), .pointer (some ⟨w.heap.size + 1 + 1, 0, none⟩), .pointer (some ⟨p, 0, none⟩), .pointer (some ⟨q, 0, none⟩), .pointer (some ⟨s, 0, none⟩), .slice (some ⟨b, off, none⟩) len cap, .int .i64 len, .bool false, undef, undef, .slice (some ⟨b, off, none⟩) len cap, .pointer (some ⟨b, off, none⟩), .pointer (some ⟨b, off, none⟩), .agg #[.int .i64 t0, .int .i64 t1], .slice (some ⟨b, off, none⟩) len cap, .pointer (some ⟨b, off, none⟩), .pointer (some ⟨b, off, none⟩), .agg #[.int .i64 t0, .int .i64 t1], .slice (some ⟨b, off, none⟩) len cap, .func (.func 100) #[] #[.pointer (some ⟨w4.heap.size, 0, none⟩)], .agg #[.int .i64 x, .int .i64 y], undef, undef, undef, undef, undef, undef, undef, undef, undef, undef, undef, undef, undef, undef, undef, undef, undef, undef, undef, undef, undef, undef, undef, undef, undef, undef, undef, undef, undef, undef], defers := [] } ∧ Bx W s 38 [.int .i64 x, .int .i64 y] ∧ w5.heap.size + 2 ≤ s) ?hAx ?assign ?body ?done ?stop
  case hS => rintro k (rfl | rfl) <;> omega
  case hit =>
   intro W1 hg1 hs1
   exact fun n l J Jx hJ hY h0 => points1_in n l w4.heap.size (some ⟨b, off, none⟩) len cap zs _ W1 J Jx hJ (fun k W2 hk hj => hY k _ W2 hk hj rfl) (HB5.out.gr hg1) (HR.out.later (HG5.out.trans hg1)) (by
    rintro ad e
    cases e
    rintro ((h | h) | h | h) <;> (simp at h; omega)) (by omega) h0
  case hI =>
   rintro k A B ⟨h1, h2, h3, h4, h5⟩ hk hs
   exact ⟨h1.ks hk (by omega), h2.ks hk (by omega), h3.ks hk (by omega), h4.ks hk (by omega), h5.ks hk (by omega)⟩
  case hIx => rintro c A B h; exact h.elim
  case hPx => exact fun k xs A B h hk => h
  case hsz => rintro k xs A rfl; rfl
  case h0 =>
   refine ⟨?_, ?_, B2.out, B3.out, B4.out⟩
   ·show Bx w5 p 38 [.int .i64 (ptx zs 0), .int .i64 (pty zs 0)]
    rw [HPT.out.1, HPT.out.2]; exact HP5.out
   ·show Bx w5 q 38 [.int .i64 (ptx zs 0), .int .i64 (pty zs 0)]
    rw [HPT.out.1, HPT.out.2]; exact HQ5.out
  case hAx =>
   rintro xs a A B ⟨s, x, y, e1, e2, hx, hs⟩ hk hsz
   exact ⟨s, x, y, e1, e2, hx.ks hk (by omega), hs⟩
  case assign =>
   rintro l m k xs W rfl hI hsz
   gi_wp2
   exact ⟨(Gr.refl W).alloc _, W.heap.size, _, _, rfl, rfl, Bx.new rfl, hsz⟩
  case body =>
   rintro l m k xs a' W hk ⟨h1, h2, h3, h4, h5⟩ rfl ⟨s, x, y, e, rfl, hx, hss⟩ hks hsz
   have hs' := HS.out k hk
   have e1 : blx zs (k + 1) = min (blx zs k) (ptx zs k) := rfl
   have e2 : bly zs (k + 1) = min (bly zs k) (pty zs k) := rfl
   have e3 : bhx zs (k + 1) = max (bhx zs k) (ptx zs k) := rfl
   have e4 : bhy zs (k + 1) = max (bhy zs k) (pty zs k) := rfl
   simp only [Array.mk.injEq, List.cons.injEq, Value.agg.injEq, Value.int.injEq, true_and, and_true] at e
   obtain ⟨rfl, rfl⟩ := e
   generalize ptx zs k = x at *
   generalize pty zs k = y at *
   generalize blx zs k = lx at *
   generalize bly zs k = ly at *
   generalize bhx zs k = gx at *
   generalize bhy zs k = gy at *
   have hus : (Sx.us x && Sx.us y) = true := by unfold Sx.us; simp; omega
   have HUS := Lib.hid hus
   have E := Lib.hid (And.intro e1 (And.intro e2 (And.intro e3 e4)))
   clear e1 e2 e3 e4 hus
   have H1 := Lib.hid h1; have H2 := Lib.hid h2; have H3 := Lib.hid h3; have H4 := Lib.hid h4; have H5 := Lib.hid h5; have HX := Lib.hid hx
   have x0 := hx.blk.cell 0 rfl; have x1 := hx.blk.cell 1 rfl; have lx' := hx.lt
   clear h1 h2 h3 h4 h5 hx
   have m1 : (if x < lx then x else lx) = min lx x := by split <;> omega
   have m2 : (if y < ly then y else ly) = min ly y := by split <;> omega
   have m3 : (if gx < x then x else gx) = max gx x := by split <;> omega
   have m4 : (if gy < y then y else gy) = max gy y := by split <;> omega
   have M := Lib.hid (And.intro m1 (And.intro m2 (And.intro m3 m4)))
   clear m1 m2 m3 m4
   gi_wp2
   refine ⟨trivial, (fun h => by cases h), ?_⟩
   refine (calls_round5 (small2_any x y W.heap.size _ (World.alloc_heap_new W _))).mono ?_
   rintro e W5 ⟨rfl, hg5⟩
   rw [HUS.out]
   have hgW : Gr W W5 := ((Gr.refl W).alloc _).trans hg5
   have q1 := H1.out.gr hgW; have q2 := H2.out.gr hgW; have q3 := H3.out.gr hgW; have q4 := H4.out.gr hgW; have q5 := H5.out.gr hgW; have qx := HX.out.gr hgW
   have Q1 := Lib.hid q1; have Q2 := Lib.hid q2; have Q3 := Lib.hid q3; have Q4 := Lib.hid q4; have Q5 := Lib.hid q5
   have HK := Lib.hid (Ks.of_gr (S := fun k => k = p ∨ k = q) hgW)
   clear x0 x1 lx' hg5 H1 H2 H3 H4 H5 HX
   have x0 := qx.blk.cell 0 rfl; have x1 := qx.blk.cell 1 rfl; have lx' := qx.lt
   have p0 := q1.blk.cell 0 rfl; have p1 := q1.blk.cell 1 rfl; have f0 := q1.blk.free 0 rfl; have f1 := q1.blk.free 1 rfl; have lp := q1.lt
   have g0 := q2.blk.cell 0 rfl; have g1 := q2.blk.cell 1 rfl; have f2 := q2.blk.free 0 rfl; have f3 := q2.blk.free 1 rfl; have lq := q2.lt
   have hsp : s ≠ p := by omega
   have hsq : s ≠ q := by omega
   have m1 := M.out.1; have m2 := M.out.2.1; have m3 := M.out.2.2.1; have m4 := M.out.2.2.2
   clear q1 q2 q3 q4 q5 qx hgW hks
   gi_wp2
   show Ks _ W _ ∧ _
   rw [E.out.1, E.out.2.1, E.out.2.2.1, E.out.2.2.2]
   refine ⟨(((HK.out.trans ((ks_set (g := p) rfl).mono' (fun k h => .inl h))).trans ((ks_set (g := p) rfl).mono' (fun k h => .inl h))).trans ((ks_set (g := q) rfl).mono' (fun k h => .inr h))).trans ((ks_set (g := q) rfl).mono' (fun k h => .inr h)), ?_, ?_, ?_, ?_, ?_⟩
   ·exact bx_far (bx_far (bx_seti (bx_seti Q1.out 0 _) 1 _) (by simpa using hpq) _) (by simpa using hpq) _
   ·exact bx_seti (bx_seti (bx_far (bx_far Q2.out (by simpa using hpq.symm) _) (by simpa using hpq.symm) _) 0 _) 1 _
   ·exact bx_far (bx_far (bx_far (bx_far Q3.out (by simp; omega) _) (by simp; omega) _) (by simp; omega) _) (by simp; omega) _
   ·exact bx_far (bx_far (bx_far (bx_far Q4.out (by simp; omega) _) (by simp; omega) _) (by simp; omega) _) (by simp; omega) _
   ·exact bx_far (bx_far (bx_far (bx_far Q5.out (by simp; omega) _) (by simp; omega) _) (by simp; omega) _) (by simp; omega) _
  case done =>
   rintro W ⟨h1, h2, h3, h4, h5⟩ hks hK
   have hgW : Gr w W := hks.gr HG5.out (fun k hk h => by omega)
   obtain ⟨lx, e1⟩ : ∃ x, blx zs (3 * len) = x := ⟨_, rfl⟩
   obtain ⟨ly, e2⟩ : ∃ x, bly zs (3 * len) = x := ⟨_, rfl⟩
   obtain ⟨gx, e3⟩ : ∃ x, bhx zs (3 * len) = x := ⟨_, rfl⟩
   obtain ⟨gy, e4⟩ : ∃ x, bhy zs (3 * len) = x := ⟨_, rfl⟩
   rw [e1, e2] at h1
   rw [e3, e4] at h2
   have HE := Lib.hid (And.intro e1 (And.intro e2 (And.intro e3 e4)))
   clear e1 e2 e3 e4
   have HGW := Lib.hid hgW; have H1 := Lib.hid h1; have H2 := Lib.hid h2; have H3 := Lib.hid h3; have H4 := Lib.hid h4; have H5 := Lib.hid h5; have HK := Lib.hid hK
   clear hks hgW
   gi_wp2
   refine wpIn_mono (Q := Sx.norm (fun e a' w' => a' = { tmps := #[.slice (some ⟨b, off, none⟩) len cap, undef, .pointer (some ⟨w.heap.size, 0, none⟩), .pointer (some ⟨w.heap.size + 1, 0, none⟩), .pointer (some ⟨w.heap.size + 1 + 1, 0, none⟩), .pointer (some ⟨p, 0, none⟩), .pointer (some ⟨q, 0, none⟩), undef, .slice (some ⟨b, off, none⟩) len cap, .int .i64 len, .bool false, undef, undef, .slice (some ⟨b, off, none⟩) len cap, .pointer (some ⟨b, off, none⟩), .pointer (some ⟨b, off, none⟩), .agg #[.int .i64 t0, .int .i64 t1], .slice (some ⟨b, off, none⟩) len cap, .pointer (some ⟨b, off, none⟩), .pointer (some ⟨b, off, none⟩), .agg #[.int .i64 t0, .int .i64 t1], .slice (some ⟨b, off, none⟩) len cap, .func (.func 100) #[] #[.pointer (some ⟨w4.heap.size, 0, none⟩)], undef, undef, undef, undef, undef, undef, undef, undef, undef, undef, undef, undef, undef, undef, undef, undef, undef, undef, undef, undef, undef, undef, undef, undef, undef, undef, undef, undef, undef, .agg #[.int .i64 lx, .int .i64 ly], .agg #[.int .i64 gx, .int .i64 gy]], defers := [{ target := .collected w5.heap.size, args := #[] }] } ∧ Bx w' w.heap.size 38 [.int .i64 lx, .int .i64 ly] ∧ Bx w' (w.heap.size + 1) 38 [.int .i64 gx, .int .i64 gy] ∧ Bx w' (w.heap.size + 1 + 1) 43 [.int .i64 0] ∧ w'.heap[w5.heap.size]? = some (.deferred (some [])) ∧ Gr w w')) ?z1 ?z2
   case z1 =>
    refine wpIn_region_any (by kernel_rfl) (Sx.any_inw (Sx.norm_out _) (by kernel_rfl) _ (wpAny_of_held (S := fun w' => w'.cell? ⟨p, 0, none⟩ = some (.int .i64 lx) ∧ w'.cell? ⟨p, 1, none⟩ = some (.int .i64 ly) ∧ w'.cell? ⟨q, 0, none⟩ = some (.int .i64 gx) ∧ w'.cell? ⟨q, 1, none⟩ = some (.int .i64 gy)) _ _ _ _ ?_))
    show wpAnyH _ _ _ _ _ _ _ _ W.drew
    have hH : W.drew.cell? ⟨p, 0, none⟩ = some (.int .i64 lx) ∧ W.drew.cell? ⟨p, 1, none⟩ = some (.int .i64 ly) ∧ W.drew.cell? ⟨q, 0, none⟩ = some (.int .i64 gx) ∧ W.drew.cell? ⟨q, 1, none⟩ = some (.int .i64 gy) := ⟨h1.blk.cell 0 rfl, h1.blk.cell 1 rfl, h2.blk.cell 0 rfl, h2.blk.cell 1 rfl⟩
    have h3' := bx_drew h3; have h4' := bx_drew h4; have h5' := bx_drew h5
    have hgU : Gr w W.drew := HGW.out.drew
    have hKU : W.drew.heap[w5.heap.size]? = some (.deferred (some [])) := hK
    clear h1 h2 h3 h4 h5 hK
    generalize W.drew = U at *
    have HKU := Lib.hid hKU; have HGU := Lib.hid hgU
    clear hKU hgU
    have a0 := h3'.blk.cell 0 rfl; have a1 := h3'.blk.cell 1 rfl; have e0 := h3'.blk.free 0 rfl; have e1 := h3'.blk.free 1 rfl
    have b0 := h4'.blk.cell 0 rfl; have b1 := h4'.blk.cell 1 rfl; have e2 := h4'.blk.free 0 rfl; have e3 := h4'.blk.free 1 rfl
    have d0 := h5'.blk.cell 0 rfl; have e4 := h5'.blk.free 0 rfl
    have l1 := h3'.lt; have l2 := h4'.lt; have l3 := h5'.lt
    have H3 := Lib.hid h3'; have H4 := Lib.hid h4'; have H5 := Lib.hid h5'
    clear h3' h4' h5'
    refine' wpAnyH_take (i := 0) (v := _) rfl (by kernel_rfl) (by kernel_rfl) (by kernel_rfl) (fun _ _ _ h => h) (Or.inl ⟨by rfl, ?thy2_0⟩) (by assumption) ?_
    case thy2_0 => (intro w hSw; (try dsimp only at hSw); go_simp; try with_reducible rfl)
    try simp only [Act.put, List.setIfInBounds_toArray, List.set_cons_zero, List.set_cons_succ, List.getElem_toArray, List.getElem_cons_zero]
    refine' wpAnyH_take (i := 1) (v := _) rfl (by kernel_rfl) (by kernel_rfl) (by kernel_rfl) (fun _ _ _ h => h) (Or.inl ⟨by rfl, ?thy2_1⟩) (by assumption) ?_
    case thy2_1 => (intro w hSw; (try dsimp only at hSw); go_simp; try with_reducible rfl)
    try simp only [Act.put, List.setIfInBounds_toArray, List.set_cons_zero, List.set_cons_succ, List.getElem_toArray, List.getElem_cons_succ, List.getElem_cons_zero]
    refine wpAnyH_ready (rs := [2]) (by kernel_rfl) (by simp) ?_
    refine AllReadyH.cons rfl (fun K hK => ?_) AllReadyH.nil
    go_simp
    refine hK.out _ _ ?_ (fun hN => ?_)
    ·refine ⟨?_, ?_, ?_, ?_⟩
     ·rw [World.cell?_setCell_other _ _ _ _ (by intro h; injection h with h _; omega), World.cell?_setCell_other _ _ _ _ (by intro h; injection h with h _; omega)]; exact hH.1
     ·rw [World.cell?_setCell_other _ _ _ _ (by intro h; injection h with h _; omega), World.cell?_setCell_other _ _ _ _ (by intro h; injection h with h _; omega)]; exact hH.2.1
     ·rw [World.cell?_setCell_other _ _ _ _ (by intro h; injection h with h _; omega), World.cell?_setCell_other _ _ _ _ (by intro h; injection h with h _; omega)]; exact hH.2.2.1
     ·rw [World.cell?_setCell_other _ _ _ _ (by intro h; injection h with h _; omega), World.cell?_setCell_other _ _ _ _ (by intro h; injection h with h _; omega)]; exact hH.2.2.2
    clear hK K hH
    have hH := hN; clear hN
    try simp only [Act.put, List.setIfInBounds_toArray, List.set_cons_zero, List.set_cons_succ, List.getElem_toArray, List.getElem_cons_succ, List.getElem_cons_zero]
    have H3a := Lib.hid (bx_seti (bx_seti H3.out 0 (.int .i64 lx)) 1 (.int .i64 ly))
    have H4a := Lib.hid (bx_far (bx_far H4.out (p := ⟨w.heap.size, 0, none⟩) (by simp) (.int .i64 lx)) (p := ⟨w.heap.size, 1, none⟩) (by simp) (.int .i64 ly))
    have H5a := Lib.hid (bx_far (bx_far H5.out (p := ⟨w.heap.size, 0, none⟩) (by show w.heap.size + 1 + 1 ≠ w.heap.size; omega) (.int .i64 lx)) (p := ⟨w.heap.size, 1, none⟩) (by show w.heap.size + 1 + 1 ≠ w.heap.size; omega) (.int .i64 ly))
    have GA := Lib.hid ((HGU.out.setCell (p := ⟨w.heap.size, 0, none⟩) (by simp) (.int .i64 lx)).setCell (p := ⟨w.heap.size, 1, none⟩) (by simp) (.int .i64 ly))
    have KA := Lib.hid ((((ks_set (w := U) (p := ⟨w.heap.size, 0, none⟩) (v := .int .i64 lx) (g := w.heap.size) rfl).trans (ks_set (p := ⟨w.heap.size, 1, none⟩) (v := .int .i64 ly) (g := w.heap.size) rfl)).block w5.heap.size (Array.getElem?_eq_some_iff.1 HKU.out).1 (by omega)).trans HKU.out)
    clear a0 a1 b0 b1 d0 e0 e1 e2 e3 e4 l1 l2 l3
    have b0 := H4a.out.blk.cell 0 rfl; have b1 := H4a.out.blk.cell 1 rfl; have e2 := H4a.out.blk.free 0 rfl; have e3 := H4a.out.blk.free 1 rfl; have l2 := H4a.out.lt
    generalize (U.setCell ⟨w.heap.size, 0, none⟩ (.int .i64 lx)).setCell ⟨w.heap.size, 1, none⟩ (.int .i64 ly) = U1 at *
    refine wpAnyH_ready (rs := [3]) (by kernel_rfl) (by simp) ?_
    refine AllReadyH.cons rfl (fun K hK => ?_) AllReadyH.nil
    go_simp
    refine hK.out _ _ ?_ (fun hN => ?_)
    ·refine ⟨?_, ?_, ?_, ?_⟩
     ·rw [World.cell?_setCell_other _ _ _ _ (by intro h; injection h with h _; omega), World.cell?_setCell_other _ _ _ _ (by intro h; injection h with h _; omega)]; exact hH.1
     ·rw [World.cell?_setCell_other _ _ _ _ (by intro h; injection h with h _; omega), World.cell?_setCell_other _ _ _ _ (by intro h; injection h with h _; omega)]; exact hH.2.1
     ·rw [World.cell?_setCell_other _ _ _ _ (by intro h; injection h with h _; omega), World.cell?_setCell_other _ _ _ _ (by intro h; injection h with h _; omega)]; exact hH.2.2.1
     ·rw [World.cell?_setCell_other _ _ _ _ (by intro h; injection h with h _; omega), World.cell?_setCell_other _ _ _ _ (by intro h; injection h with h _; omega)]; exact hH.2.2.2
    clear hK K hH
    have hH := hN; clear hN
    try simp only [Act.put, List.setIfInBounds_toArray, List.set_cons_zero, List.set_cons_succ, List.getElem_toArray, List.getElem_cons_succ, List.getElem_cons_zero]
    have H3b := Lib.hid (bx_far (bx_far H3a.out (p := ⟨w.heap.size + 1, 0, none⟩) (by simp) (.int .i64 gx)) (p := ⟨w.heap.size + 1, 1, none⟩) (by simp) (.int .i64 gy))
    have H4b := Lib.hid (bx_seti (bx_seti H4a.out 0 (.int .i64 gx)) 1 (.int .i64 gy))
    have H5b := Lib.hid (bx_far (bx_far H5a.out (p := ⟨w.heap.size + 1, 0, none⟩) (by show w.heap.size + 1 + 1 ≠ w.heap.size + 1; omega) (.int .i64 gx)) (p := ⟨w.heap.size + 1, 1, none⟩) (by show w.heap.size + 1 + 1 ≠ w.heap.size + 1; omega) (.int .i64 gy))
    have GB := Lib.hid ((GA.out.setCell (p := ⟨w.heap.size + 1, 0, none⟩) (by simp) (.int .i64 gx)).setCell (p := ⟨w.heap.size + 1, 1, none⟩) (by simp) (.int .i64 gy))
    have KB := Lib.hid ((((ks_set (w := U1) (p := ⟨w.heap.size + 1, 0, none⟩) (v := .int .i64 gx) (g := w.heap.size + 1) rfl).trans (ks_set (p := ⟨w.heap.size + 1, 1, none⟩) (v := .int .i64 gy) (g := w.heap.size + 1) rfl)).block w5.heap.size (Array.getElem?_eq_some_iff.1 KA.out).1 (by omega)).trans KA.out)
    clear b0 b1 e2 e3 l2
    have d0 := H5b.out.blk.cell 0 rfl; have e4 := H5b.out.blk.free 0 rfl; have l3 := H5b.out.lt
    generalize (U1.setCell ⟨w.heap.size + 1, 0, none⟩ (.int .i64 gx)).setCell ⟨w.heap.size + 1, 1, none⟩ (.int .i64 gy) = U2 at *
    refine wpAnyH_ready (rs := [4]) (by kernel_rfl) (by simp) ?_
    refine AllReadyH.cons rfl (fun K hK => ?_) AllReadyH.nil
    go_simp
    refine hK.out _ _ ?_ (fun hN => ?_)
    ·refine ⟨?_, ?_, ?_, ?_⟩
     ·rw [World.cell?_setCell_other _ _ _ _ (by intro h; injection h with h _; omega)]; exact hH.1
     ·rw [World.cell?_setCell_other _ _ _ _ (by intro h; injection h with h _; omega)]; exact hH.2.1
     ·rw [World.cell?_setCell_other _ _ _ _ (by intro h; injection h with h _; omega)]; exact hH.2.2.1
     ·rw [World.cell?_setCell_other _ _ _ _ (by intro h; injection h with h _; omega)]; exact hH.2.2.2
    clear hK K hH
    have hH := hN; clear hN
    try simp only [Act.put, List.setIfInBounds_toArray, List.set_cons_zero, List.set_cons_succ, List.getElem_toArray, List.getElem_cons_succ, List.getElem_cons_zero]
    refine wpAnyH_done (by kernel_rfl) ?_ _
    exact ⟨rfl, bx_far H3b.out (by simp; omega) _, bx_far H4b.out (by simp) _, bx_seti H5b.out 0 _, (((ks_set (w := U2) (p := ⟨w.heap.size + 1 + 1, 0, none⟩) (v := .int .i64 0) (g := w.heap.size + 1 + 1) rfl)).block w5.heap.size (Array.getElem?_eq_some_iff.1 KB.out).1 (by omega)).trans KB.out, GB.out.setCell (by simp; omega) _⟩
   case z2 =>
    rintro e a' W9 hmid
    cases e
    all_goals try exact False.elim hmid
    obtain ⟨rfl, h1, h2, h3, hK, hg⟩ := hmid
    have H1 := Lib.hid h1; have H2 := Lib.hid h2; have H3 := Lib.hid h3; have HK := Lib.hid hK; have HG9 := Lib.hid hg
    clear h1 h2 h3 hK hg
    dsimp only [Exit.then]
    gi_wp2
    refine ⟨by simp, .inl ⟨_, _, rfl, run_takeDeferred HK.out, ?_⟩⟩
    have k2 : Ks (fun k => k = w5.heap.size) W9 (W9.putObj w5.heap.size (.deferred none)) := Ks.put (S := fun k => k = w5.heap.size) rfl (.deferred none)
    obtain ⟨ti, q1, q2⟩ := ti_err
    refine ⟨_, res_3c rfl ti_v2 ti_v2 q1 q2 rfl rfl rfl (H1.out.ks k2 (by omega)) (H2.out.ks k2 (by omega)) (H3.out.ks k2 (by omega)) rfl rfl, by rw [HE.out.1, HE.out.2.1, HE.out.2.2.1, HE.out.2.2.2], k2.gr HG9.out (fun k hk h => by have := HG5.out.size; omega)⟩
  case stop => rintro c W h; exact h.elim
end Mt
end Go.Proofs.YtlfoglklibhbnaaGreat
namespace Go.Proofs.YtlfoglklibhbnaaGreat
open Go.RowKit
namespace Mt
attribute [local go_sem ↓] Go.wp_at_zero Go.wp_at_succ
set_option maxRecDepth 100000 in
theorem Size_any (n : Int) (h0 : 0 ≤ n) (h1 : n ≤ 4096) (w : World) :
  Calls Tryz.prog 73 #[.int .i64 n] w fun e w' => e = .returned (.tuple #[.int .i64 (n / 16 + 1), .int .i64 0]) ∧ w = w' := by
 have d0 : decide (n < 0) = false := by simp; omega
 have d1 : decide (4096 < n) = false := by simp; omega
 go_enter Tryz.func73, Tryz.ntmps73
 go_wp2_with fail
 go_ret2
 exact ⟨rfl, rfl⟩
set_option maxHeartbeats 4000000 in
set_option maxRecDepth 100000 in
theorem size_any (x y : Int) (h0 : 0 ≤ x) (h1 : x ≤ 4096) (h2 : 0 ≤ y) (h3 : y ≤ 4096) (w : World) :
  Calls Tryz.prog 42 #[.agg #[.int .i64 x, .int .i64 y]] w fun e w' => e = .returned (.tuple #[.int .i64 (x / 16 + 1), .int .i64 (y / 16 + 1)]) ∧ Gr w w' := by
 have hB : Bx (w.alloc (.cells #[.int .i64 x, .int .i64 y] 38)) w.heap.size 38 [.int .i64 x, .int .i64 y] := Bx.new (vs := [.int .i64 x, .int .i64 y]) rfl
 have c0 := hB.blk.cell 0 rfl; have c1 := hB.blk.cell 1 rfl
 clear hB
 have A := Lib.hid (And.intro h0 (And.intro h1 (And.intro h2 h3)))
 clear h0 h1 h2 h3
 go_enter Tryz.func42, Tryz.ntmps42
 go_wp2_with fail
 refine (Size_any x A.out.1 A.out.2.1 _).mono ?_
 rintro e w2 ⟨rfl, rfl⟩
 go_wp2_with fail
 refine (Size_any y A.out.2.2.1 A.out.2.2.2 _).mono ?_
 rintro e w2 ⟨rfl, rfl⟩
 go_wp2_with fail
 go_ret2
 exact ⟨rfl, (Gr.refl w).alloc _⟩
set_option maxRecDepth 100000 in
theorem odd_any (t0 t1 t2 t3 t4 t5 : Int) (w : World) :
  Calls Tryz.prog 92 #[.agg #[.int .i64 t0, .int .i64 t1, .int .i64 t2, .int .i64 t3, .int .i64 t4, .int .i64 t5]] w fun e w' => e = .returned (.bool (!Sx.rgt [t0, t1, t2, t3, t4, t5])) ∧ Gr w w' := by
 have hB : Bx (w.alloc (.cells #[.int .i64 t0, .int .i64 t1, .int .i64 t2, .int .i64 t3, .int .i64 t4, .int .i64 t5] 39)) w.heap.size 39 [.int .i64 t0, .int .i64 t1, .int .i64 t2, .int .i64 t3, .int .i64 t4, .int .i64 t5] := Bx.new (vs := [.int .i64 t0, .int .i64 t1, .int .i64 t2, .int .i64 t3, .int .i64 t4, .int .i64 t5]) rfl
 have c0 := hB.blk.cell 0 rfl; have c1 := hB.blk.cell 1 rfl; have c2 := hB.blk.cell 2 rfl; have c3 := hB.blk.cell 3 rfl; have c4 := hB.blk.cell 4 rfl; have c5 := hB.blk.cell 5 rfl
 clear hB
 have HR := Lib.hid (right_any t0 t1 t2 t3 t4 t5 (w.alloc (.cells #[.int .i64 t0, .int .i64 t1, .int .i64 t2, .int .i64 t3, .int .i64 t4, .int .i64 t5] 39)))
 generalize Sx.rgt [t0, t1, t2, t3, t4, t5] = r at *
 go_enter Tryz.func92, Tryz.ntmps92
 go_wp2_with fail
 refine HR.out.mono ?_
 rintro e w2 ⟨rfl, hg⟩
 have HG := Lib.hid (((Gr.refl w).alloc _).trans hg)
 clear hg c0 c1 c2 c3 c4 c5 HR
 go_wp2_with fail
 go_ret
 exact ⟨rfl, HG.out⟩
def okB (t u : List Int) : Bool := !Sx.fb 59 0 (t ++ u) && (Sx.fi 59 1 (t ++ u) == 0)
def aptB (zs : List (List Int)) : Bool := (List.range zs.length).all fun i => (List.range i).all fun j => okB (zs.getD i []) (zs.getD j [])
theorem apt_no {zs : List (List Int)} {i j : Nat} (hi : i < zs.length) (hj : j < i) (h : okB (zs.getD i []) (zs.getD j []) = false) : aptB zs = false := by
 rw [Bool.eq_false_iff]
 intro hh
 unfold aptB at hh
 rw [List.all_eq_true] at hh
 have h1 := hh i (List.mem_range.2 hi)
 rw [List.all_eq_true] at h1
 have h2 := h1 j (List.mem_range.2 hj)
 rw [h] at h2; cases h2
theorem apt_yes {zs : List (List Int)} (h : ∀ i j, i < zs.length → j < i → okB (zs.getD i []) (zs.getD j []) = true) : aptB zs = true := by
 unfold aptB
 rw [List.all_eq_true]
 intro i hi
 rw [List.all_eq_true]
 intro j hj
 exact h i j (List.mem_range.1 hi) (List.mem_range.1 hj)
set_option maxHeartbeats 8000000 in
set_option maxRecDepth 100000 in
theorem fapart_any (a : Option Addr) (len cap : Nat) (zs : List (List Int)) (w : World) (hr : Oi.IsRows 6 w a len zs) (hc : len ≤ cap) (hl : len ≤ 1000) :
  Calls Tryz.prog 41 #[.slice a len cap] w fun e w' => e = .returned (.bool (aptB zs)) ∧ Gr w w' := by
 have hz := hr.1
 have HZ := Lib.hid hz; have HR := Lib.hid hr
 clear hz hr
 go_enter Tryz.func41, Tryz.ntmps41
 go_wp2_with fail
 go_loopw [11] (fun v11 wr => ∃ i : Nat, i ≤ len ∧ v11 = .int .i64 i ∧ (∀ i' j, i' < i → j < i' → okB (zs.getD i' []) (zs.getD j []) = true) ∧ Gr w wr) (fun v11 _ => len - (intOf v11).toNat)
 case atStart => exact ⟨0, Nat.zero_le _, rfl, fun i' j h => absurd h (by omega), Gr.refl _⟩
 case round =>
  obtain ⟨i, hi, rfl, hall, hg⟩ := hrel
  have HA := Lib.hid hall; have HG := Lib.hid hg
  clear hall hg
  by_cases hlt : i < len
  ·obtain ⟨b, off, t0, t1, t2, t3, t4, t5, rfl, hbl, ez, hI, c0, c1, c2, c3, c4, c5⟩ := rows6_op (HR.out.later HG.out) hlt
   have EZ := Lib.hid ez
   have hi0 : (0 : Int) ≤ (i : Int) := by omega
   have hic : (i : Int) ≤ (cap : Int) := by omega
   have hic2 : i ≤ cap := by omega
   clear ez hI
   obtain ⟨V, hV⟩ : ∃ V, wr.alloc (.cells #[.int .i64 t0, .int .i64 t1, .int .i64 t2, .int .i64 t3, .int .i64 t4, .int .i64 t5] 39) = V := ⟨_, rfl⟩
   obtain ⟨s, hs⟩ : ∃ s, wr.heap.size = s := ⟨_, rfl⟩
   have hX : Bx V s 39 [.int .i64 t0, .int .i64 t1, .int .i64 t2, .int .i64 t3, .int .i64 t4, .int .i64 t5] := by rw [← hV]; exact Bx.new (vs := [.int .i64 t0, .int .i64 t1, .int .i64 t2, .int .i64 t3, .int .i64 t4, .int .i64 t5]) hs.symm
   have hgV : Gr w V := by rw [← hV]; exact HG.out.alloc _
   have HX := Lib.hid hX; have HGV := Lib.hid hgV
   clear hX hgV
   go_wp2_with fail
   clear hV hs c0 c1 c2 c3 c4 c5
   go_loopw [20] (fun v20 wx => ∃ j : Nat, j ≤ i ∧ v20 = .int .i64 j ∧ (∀ j', j' < j → okB (zs.getD i []) (zs.getD j' []) = true) ∧ Gr V wx) (fun v20 _ => i - (intOf v20).toNat)
   case atStart => exact ⟨0, Nat.zero_le _, rfl, fun j' h => absurd h (by omega), Gr.refl _⟩
   case round =>
    obtain ⟨j, hj, rfl, hrow, hg⟩ := hrel
    have HROW := Lib.hid hrow; have HG2 := Lib.hid hg
    clear hrow hg
    by_cases hjl : j < i
    ·obtain ⟨b', off', u0, u1, u2, u3, u4, u5, e', hbl', ez', hI', d0, d1, d2, d3, d4, d5⟩ := rows6_op (HR.out.later (HGV.out.trans HG2.out)) (show j < len by omega)
     cases e'
     have EZ' := Lib.hid ez'
     have hj0 : (0 : Int) ≤ (j : Int) := by omega
     have hok : okB (zs.getD i []) (zs.getD j []) = (!Sx.fb 59 0 [t0, t1, t2, t3, t4, t5, u0, u1, u2, u3, u4, u5] && (Sx.fi 59 1 [t0, t1, t2, t3, t4, t5, u0, u1, u2, u3, u4, u5] == 0)) := by rw [EZ.out, EZ'.out]; rfl
     have HOK := Lib.hid hok
     clear ez' hI' hok
     obtain ⟨V2, hV2⟩ : ∃ V2, wr.alloc (.cells #[.int .i64 u0, .int .i64 u1, .int .i64 u2, .int .i64 u3, .int .i64 u4, .int .i64 u5] 39) = V2 := ⟨_, rfl⟩
     obtain ⟨s2, hs2⟩ : ∃ s2, wr.heap.size = s2 := ⟨_, rfl⟩
     have hY : Bx V2 s2 39 [.int .i64 u0, .int .i64 u1, .int .i64 u2, .int .i64 u3, .int .i64 u4, .int .i64 u5] := by rw [← hV2]; exact Bx.new (vs := [.int .i64 u0, .int .i64 u1, .int .i64 u2, .int .i64 u3, .int .i64 u4, .int .i64 u5]) hs2.symm
     have hgV2 : Gr V V2 := by rw [← hV2]; exact HG2.out.alloc _
     have hX2 := HX.out.gr hgV2
     have x0 := hX2.blk.cell 0 rfl; have x1 := hX2.blk.cell 1 rfl; have x2 := hX2.blk.cell 2 rfl; have x3 := hX2.blk.cell 3 rfl; have x4 := hX2.blk.cell 4 rfl; have x5 := hX2.blk.cell 5 rfl; have lx := hX2.lt
     have y0 := hY.blk.cell 0 rfl; have y1 := hY.blk.cell 1 rfl; have y2 := hY.blk.cell 2 rfl; have y3 := hY.blk.cell 3 rfl; have y4 := hY.blk.cell 4 rfl; have y5 := hY.blk.cell 5 rfl; have ly := hY.lt
     have HGV2 := Lib.hid hgV2
     clear hY hX2 hgV2
     go_wp2_with fail
     clear hV2 hs2
     have HO := Lib.hid (overlap_raw t0 t1 t2 t3 t4 t5 u0 u1 u2 u3 u4 u5 V2)
     generalize Sx.fb 59 0 [t0, t1, t2, t3, t4, t5, u0, u1, u2, u3, u4, u5] = ov at *
     generalize Sx.fi 59 1 [t0, t1, t2, t3, t4, t5, u0, u1, u2, u3, u4, u5] = er at *
     refine HO.out.mono ?_
     rintro e w3 ⟨rfl, hg3⟩
     have HG3 := Lib.hid (HGV2.out.trans hg3)
     clear hg3 HO x0 x1 x2 x3 x4 x5 y0 y1 y2 y3 y4 y5 d0 d1 d2 d3 d4 d5 lx ly
     cases ov
     ·by_cases he : er = 0
      ·subst he
       go_wp2_with fail
       go_roundw
       case rel =>
        refine ⟨j + 1, by omega, by go_num, fun j' hj' => ?_, HG3.out⟩
        by_cases e : j' = j
        ·subst e; rw [HOK.out]; rfl
        ·exact HROW.out j' (by omega)
       case measure => simp [intOf]; omega
      ·have he1 : (er == 0) = false := by simpa using he
       have HE := Lib.hid he1
       clear he
       go_wp2_with fail
       go_ret
       exact ⟨by rw [apt_no (i := i) (j := j) (by rw [HZ.out]; omega) hjl (by rw [HOK.out, HE.out]; rfl)]; rfl, HGV.out.trans HG3.out⟩
     ·go_wp2_with fail
      go_ret
      exact ⟨by rw [apt_no (i := i) (j := j) (by rw [HZ.out]; omega) hjl (by rw [HOK.out]; rfl)]; rfl, HGV.out.trans HG3.out⟩
    ·have hji : j = i := by omega
     subst hji
     go_wp2_with fail
     go_roundw
     case rel =>
      refine ⟨j + 1, by omega, by go_num, fun i' j' h1 h2 => ?_, HGV.out.trans HG2.out⟩
      by_cases e : i' = j
      ·subst e; exact HROW.out j' h2
      ·exact HA.out i' j' (by omega) h2
     case measure => simp [intOf]; omega
  ·have hil : i = len := by omega
   subst hil
   go_wp2_with fail
   go_ret
   exact ⟨by rw [apt_yes (fun i' j h1 h2 => HA.out i' j (by rw [HZ.out] at h1; exact h1) h2)]; rfl, HG.out⟩
end Mt
end Go.Proofs.YtlfoglklibhbnaaGreat
