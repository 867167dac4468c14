/- Parts of the proof of TopPoint. No condition of their own. -/
import Derived.Test.YtlfoglklibhbnaaGreatTpA
import Derived.RangeFuncNested
import Derived.RangeFuncBound
import Derived.RangeFuncCalls
import Derived.RangeFuncLeaves
import Derived.Shelf.Abstract
import Derived.Shelf.RegionOpen
import Derived.WalkKit
import Derived.OwnWalkIn
import Derived.TacticsInMore
import Derived.LoopNIn
import Derived.LoopIn
import Derived.Lib.Hide
set_option linter.unusedVariables false
set_option linter.unusedSimpArgs false
namespace Go.Proofs.YtlfoglklibhbnaaGreat
open Go.RowKit Go.Shelf
namespace Mt
structure Ks (S : Nat → Prop) (w w' : World) : Prop where
 os : w'.os = w.os
 tape : w'.tape = w.tape
 output : w'.output = w.output
 size : w.heap.size ≤ w'.heap.size
 block : ∀ k, k < w.heap.size → ¬ S k → w'.heap[k]? = w.heap[k]?
theorem Ks.refl (S : Nat → Prop) (w : World) : Ks S w w := ⟨rfl, rfl, rfl, Nat.le_refl _, fun _ _ _ => rfl⟩
theorem Ks.trans {S : Nat → Prop} {a b c : World} (h : Ks S a b) (k : Ks S b c) : Ks S a c :=
 ⟨k.os.trans h.os, k.tape.trans h.tape, k.output.trans h.output, Nat.le_trans h.size k.size, fun i hi hs => (k.block i (Nat.lt_of_lt_of_le hi h.size) hs).trans (h.block i hi hs)⟩
theorem Ks.of_gr {S : Nat → Prop} {a b : World} (h : Gr a b) : Ks S a b := ⟨h.os, h.tape, h.output, h.size, fun k hk _ => h.block k hk⟩
theorem Ks.gr {S : Nat → Prop} {a b c : World} (h : Ks S b c) (g : Gr a b) (hS : ∀ k, k < a.heap.size → ¬ S k) : Gr a c :=
 ⟨h.os.trans g.os, h.tape.trans g.tape, h.output.trans g.output, Nat.le_trans g.size h.size, fun k hk => (h.block k (Nat.lt_of_lt_of_le hk g.size) (hS k hk)).trans (g.block k hk)⟩
theorem Ks.cell {S : Nat → Prop} {w w' : World} (h : Ks S w w') {p : Addr} (hp : p.block < w.heap.size) (hs : ¬ S p.block) : w'.cell? p = w.cell? p := World.cell?_of_block (w := w) (h.block p.block hp hs)
theorem Ks.frozen {S : Nat → Prop} {w w' : World} (h : Ks S w w') {p : Addr} (hp : p.block < w.heap.size) (hs : ¬ S p.block) : w'.frozen? p = w.frozen? p := World.frozen?_of_block (w := w) (h.block p.block hp hs)
theorem Blk.ks {S : Nat → Prop} {w w' : World} {b : Nat} {vs : List Value} (h : Blk w b vs) (hk : Ks S w w') (hs : ¬ S b) : Blk w' b vs :=
 ⟨Nat.lt_of_lt_of_le h.1 hk.size, fun i v hi => ⟨(hk.cell (p := ⟨b, i, none⟩) h.1 hs).trans (h.2 i v hi).1, (hk.frozen (p := ⟨b, i, none⟩) h.1 hs).trans (h.2 i v hi).2⟩⟩
def Bx (w : World) (b : Nat) (T : TypeId) (vs : List Value) : Prop := w.heap[b]? = some (.cells vs.toArray T (0, 0))
theorem Bx.lt {w : World} {b : Nat} {T : TypeId} {vs : List Value} (h : Bx w b T vs) : b < w.heap.size := (Array.getElem?_eq_some_iff.1 h).1
theorem Bx.blk {w : World} {b : Nat} {T : TypeId} {vs : List Value} (h : Bx w b T vs) : Blk w b vs := by
 refine ⟨h.lt, fun i v hi => ⟨?_, ?_⟩⟩
 ·unfold World.cell?
  rw [show w.heap[(⟨b, i, none⟩ : Addr).block]? = _ from h]
  simpa using hi
 ·simp [World.frozen?, show w.heap[b]? = _ from h]
theorem Bx.gr {w w' : World} {b : Nat} {T : TypeId} {vs : List Value} (h : Bx w b T vs) (g : Gr w w') : Bx w' b T vs := (Below.block g b h.lt).trans h
theorem Bx.ks {S : Nat → Prop} {w w' : World} {b : Nat} {T : TypeId} {vs : List Value} (h : Bx w b T vs) (hk : Ks S w w') (hs : ¬ S b) : Bx w' b T vs := (hk.block b h.lt hs).trans h
theorem Bx.alloc {w : World} {b : Nat} {T : TypeId} {vs : List Value} (h : Bx w b T vs) (o : Obj) : Bx (w.alloc o) b T vs := (Below.heap_alloc w o b h.lt).trans h
theorem Bx.new {w : World} {b : Nat} {T : TypeId} {vs : List Value} (hb : b = w.heap.size) : Bx (w.alloc (.cells vs.toArray T)) b T vs := by subst hb; exact World.alloc_heap_new w _
def IterOk (P : Program) (gf : Nat) (lb : Array Value) (N : Nat) (Px : Nat → Array Value → World → Prop) (S : Nat → Prop) (W : World) : Prop :=
 ∀ (n l : Nat) (J : Nat → World → Prop) (Jx : World → Prop), (∀ i A B, J i A → Gr A B → J i B) →
  (∀ i xs W1, i < N → J i W1 → Px i xs W1 → YieldAt Fence.wide (n - 1) P l xs W1 fun e W' => (e = .returned (.bool true) ∧ J (i + 1) W' ∧ Ks S W1 W') ∨ (e = .returned (.bool false) ∧ Jx W')) →
  J 0 W → CallsIn Fence.wide n P gf (#[.func (.yield l) #[] #[]] ++ lb) W fun e W' => (∃ v, e = .returned v) ∧ (J N W' ∨ Jx W')
def rdPost (S : Nat → Prop) (I : World → Prop) (Ix : Code → World → Prop) (W : World) : Exit → Act → World → Prop
 | .normal, _, W' => Ks S W W' ∧ I W'
 | .ret, _, W' => Ks S W W' ∧ Ix .ret W'
 | .exit id, _, W' => Ks S W W' ∧ Ix (.exit id) W'
 | .goto t, _, W' => Ks S W W' ∧ Ix (.goto t) W'
 | .panic _, _, _ => False
 | .outgrown, _, _ => False
theorem Ks.put {S : Nat → Prop} {W : World} {l : Nat} (h : S l) (o : Obj) : Ks S W (W.putObj l o) :=
 ⟨rfl, rfl, rfl, by simp, fun k _ hk => World.putObj_heap_other (fun e => by subst e; exact hk h)⟩
theorem Ks.mono {S S' : Nat → Prop} {a b : World} (h : Ks S a b) (hs : ∀ k, S k → S' k) : Ks S' a b := ⟨h.os, h.tape, h.output, h.size, fun k hk hk' => h.block k hk (fun e => hk' (hs k e))⟩
theorem rf_law {P : Program} {g : Operand} {ps : Array Tmp} {assign body : Code} {Q : Exit → Act → World → Prop} {a : Act} {w : World} {n gf : Nat} {lb : Array Value}
  (hg : a.eval g = .func (.func gf) #[] lb) (eg : ∀ args w, (callFunc gf args).run P w = .ok (.enter gf args) w)
  (N : Nat) (Px : Nat → Array Value → World → Prop) (S : Nat → Prop) (hSw : ∀ k, S k → k < w.heap.size)
  (hit : ∀ W1, Gr w W1 → w.heap.size + 2 ≤ W1.heap.size → IterOk P gf lb N Px (fun k => S k ∨ k = w.heap.size ∨ k = w.heap.size + 1) W1)
  (I : Nat → World → Prop) (Ix : Code → World → Prop)
  (hI : ∀ i A B, I i A → Ks (fun k => k = w.heap.size ∨ k = w.heap.size + 1) A B → w.heap.size ≤ A.heap.size → I i B) (hIx : ∀ c A B, Ix c A → Ks (fun k => k = w.heap.size ∨ k = w.heap.size + 1) A B → w.heap.size ≤ A.heap.size → Ix c B)
  (hPx : ∀ i xs A B, Px i xs A → Ks (fun k => k = w.heap.size ∨ k = w.heap.size + 1) A B → Px i xs B)
  (hsz : ∀ i xs A, Px i xs A → xs.size = ps.size) (h0 : I 0 w) (a₁ : Array Value → Act)
  (hassign : ∀ (l m : Nat) (i : Nat) (xs : Array Value) (W : World) (K : Act → World → Prop), Px i xs W → K (a₁ xs) W →
   assign.wpIn (Fence.wide.inRound l) m P (Exit.then K (fun _ _ _ => False)) { tmps := (ps.zip xs).foldl (fun t (p, v) => t.setIfInBounds p v) a.tmps, defers := [] } W)
  (hbody : ∀ (l m : Nat) (i : Nat) (xs : Array Value) (W : World), i < N → I i W → Px i xs W → Ks (fun k => S k ∨ k = w.heap.size ∨ k = w.heap.size + 1) w W → w.heap.size + 2 ≤ W.heap.size → body.wpIn (Fence.wide.inRound l) m P (rdPost S (I (i + 1)) Ix W) (a₁ xs) W)
  (hdone : ∀ (W : World), I N W → Ks (fun k => S k ∨ k = w.heap.size ∨ k = w.heap.size + 1) w W → W.heap[w.heap.size]? = some (.deferred (some [])) → Q .normal { a with defers := { target := .collected w.heap.size, args := #[] } :: a.defers } W)
  (hstop : ∀ (c : Code) (W : World), Ix c W → Ks (fun k => S k ∨ k = w.heap.size ∨ k = w.heap.size + 1) w W → W.heap[w.heap.size]? = some (.deferred (some [])) → c.wpIn Fence.wide n P Q { a with defers := { target := .collected w.heap.size, args := #[] } :: a.defers } W) :
  (Code.rangeFunc g ps assign body).wpIn Fence.wide n P Q a w := by
 refine wpIn_rangeFunc ?_
 intro fn hfn
 obtain ⟨rec, hrec⟩ : ∃ rec : LoopState → Option Code → Loop, rec = fun st pe => { state := st, pending := pe, fn, tmps := a.tmps, params := ps, assign, body, defers := w.heap.size } := ⟨_, rfl⟩
 obtain ⟨W1, hW1⟩ : ∃ W1, (w.alloc (.deferred (some []))).alloc (.loop (rec .ready none)) = W1 := ⟨_, rfl⟩
 have gW : Gr w W1 := by rw [← hW1]; exact ((Gr.refl w).alloc _).alloc _
 have sW : W1.heap.size = w.heap.size + 2 := by rw [← hW1]; simp
 have hL1 : W1.heap[w.heap.size + 1]? = some (.loop (rec .ready none)) := by
  rw [← hW1]; have := World.alloc_heap_new (w.alloc (.deferred (some []))) (.loop (rec .ready none)); rwa [World.size_alloc] at this
 have hK1 : W1.heap[w.heap.size]? = some (.deferred (some [])) := by
  rw [← hW1]; exact (Below.heap_alloc _ _ _ (by simp)).trans (World.alloc_heap_new w _)
 refine ⟨w.heap.size + 1, [{ target := .collected w.heap.size, args := #[] }], W1, { target := .fn (.func gf) lb, args := #[.func (.yield (w.heap.size + 1)) #[] #[]] }, W1, gf,
  #[.func (.yield (w.heap.size + 1)) #[] #[]] ++ lb, W1, ?_, ?_, fun _ _ => trivial, ?_, (fun h => by cases h), ?_⟩
 ·rw [← hW1, hrec]; exact run_enterLoop_outer _ _ _ _ _
 ·simp only [resolve, hg]
  simp [go_sem]
 ·simp [invoke, go_sem, eg]
 ·have nS : ¬ S w.heap.size := fun h => by have := hSw _ h; omega
  have nS1 : ¬ S (w.heap.size + 1) := fun h => by have := hSw _ h; omega
  refine (hit W1 gW (by omega) (n - 1) (w.heap.size + 1)
   (fun i W => I i W ∧ W.heap[w.heap.size + 1]? = some (.loop (rec .ready none)) ∧ W.heap[w.heap.size]? = some (.deferred (some [])) ∧ Ks (fun k => S k ∨ k = w.heap.size ∨ k = w.heap.size + 1) w W ∧ w.heap.size + 2 ≤ W.heap.size)
   (fun W => ∃ c, Ix c W ∧ W.heap[w.heap.size + 1]? = some (.loop (rec .done (some c))) ∧ W.heap[w.heap.size]? = some (.deferred (some [])) ∧ Ks (fun k => S k ∨ k = w.heap.size ∨ k = w.heap.size + 1) w W ∧ w.heap.size + 2 ≤ W.heap.size)
   ?_ ?_ ⟨hI _ _ _ h0 (Ks.of_gr gW) (Nat.le_refl _), hL1, hK1, Ks.of_gr gW, by omega⟩).mono ?_
  ·rintro i A B ⟨h1, h2, h3, h4, h5⟩ hg
   have hs := hg.size
   exact ⟨hI _ _ _ h1 (Ks.of_gr hg) (by omega), (hg.block _ (by omega)).trans h2, (hg.block _ (by omega)).trans h3, h4.trans (Ks.of_gr hg), by omega⟩
  ·rintro i xs W hiN ⟨hi, hl, hk, hks, hsz2⟩ hpx
   have hlt : w.heap.size + 1 < W.heap.size := (Array.getElem?_eq_some_iff.1 hl).1
   have hy := run_yield (P := P) (args := xs) hl (by rw [hrec]; exact hsz _ _ _ hpx)
   rw [hrec] at hy
   refine ⟨fn, _, assign, body, hy, roundIn_of_wpIn hfn (hassign _ _ i xs W _ hpx ⟨_, run_beginRound hl (by rw [hrec]), ?_⟩)⟩
   obtain ⟨W2, hW2⟩ : ∃ W2, W.putObj (w.heap.size + 1) (.loop { rec .ready none with state := .busy }) = W2 := ⟨_, rfl⟩
   have hl2 : W2.heap[w.heap.size + 1]? = some (.loop { rec .ready none with state := .busy }) := by rw [← hW2]; exact World.putObj_heap_same hlt
   have hk2 : W2.heap[w.heap.size]? = some (.deferred (some [])) := by rw [← hW2]; exact (World.putObj_heap_other (by omega)).trans hk
   have hp2 : Ks (fun k => k = w.heap.size ∨ k = w.heap.size + 1) W W2 := by rw [← hW2]; exact Ks.put (S := fun k => k = w.heap.size ∨ k = w.heap.size + 1) (.inr rfl) _
   have hp2' : Ks (fun k => S k ∨ k = w.heap.size ∨ k = w.heap.size + 1) W W2 := hp2.mono (fun k h => .inr h)
   have hsz3 : w.heap.size + 2 ≤ W2.heap.size := by have := hp2.size; omega
   rw [hW2]
   refine wpIn_mono (hbody _ _ i xs W2 hiN (hI _ _ _ hi hp2 (by omega)) (hPx _ _ _ _ hpx hp2) (hks.trans hp2') hsz3) ?_
   have fin : ∀ (jump : Option Code) (W3 : World), Ks S W2 W3 →
     (Instr.endRound (w.heap.size + 1) jump).run P W3 = .ok (.bool jump.isNone) (W3.putObj (w.heap.size + 1) (.loop (rec (if jump.isNone then .ready else .done) jump))) ∧
     (W3.putObj (w.heap.size + 1) (.loop (rec (if jump.isNone then .ready else .done) jump))).heap[w.heap.size + 1]? = some (.loop (rec (if jump.isNone then .ready else .done) jump)) ∧
     (W3.putObj (w.heap.size + 1) (.loop (rec (if jump.isNone then .ready else .done) jump))).heap[w.heap.size]? = some (.deferred (some [])) ∧
     Ks (fun k => k = w.heap.size ∨ k = w.heap.size + 1) W3 (W3.putObj (w.heap.size + 1) (.loop (rec (if jump.isNone then .ready else .done) jump))) ∧
     Ks (fun k => S k ∨ k = w.heap.size ∨ k = w.heap.size + 1) W (W3.putObj (w.heap.size + 1) (.loop (rec (if jump.isNone then .ready else .done) jump))) ∧ w.heap.size + 2 ≤ W3.heap.size := fun jump W3 hk3 => by
    have hl3 : W3.heap[w.heap.size + 1]? = some (.loop { rec .ready none with state := .busy }) := (hk3.block _ (by omega) nS1).trans hl2
    have := run_endRound (P := P) jump hl3
    have q1 : Ks (fun k => k = w.heap.size ∨ k = w.heap.size + 1) W3 (W3.putObj (w.heap.size + 1) (.loop (rec (if jump.isNone then .ready else .done) jump))) := Ks.put (S := fun k => k = w.heap.size ∨ k = w.heap.size + 1) (.inr rfl) _
    refine ⟨by rw [hrec] at this ⊢; exact this, World.putObj_heap_same (Array.getElem?_eq_some_iff.1 hl3).1, (World.putObj_heap_other (by omega)).trans ((hk3.block _ (by omega) nS).trans hk2), q1,
     hp2'.trans ((hk3.mono (fun k h => .inl h)).trans (q1.mono (fun k h => .inr h))), by have := hk3.size; omega⟩
   rintro e a3 W3 hp
   cases e with
   | normal =>
    obtain ⟨hk3, hi3⟩ := hp
    obtain ⟨hr, hl4, hk4, q1, q2, q3⟩ := fin none W3 hk3
    exact ⟨_, _, hr, .inl ⟨rfl, ⟨hI _ _ _ hi3 q1 (by omega), hl4, hk4, hks.trans q2, by simpa using q3⟩, q2⟩⟩
   | ret =>
    obtain ⟨hk3, hi3⟩ := hp
    obtain ⟨hr, hl4, hk4, q1, q2, q3⟩ := fin (some .ret) W3 hk3
    exact ⟨_, _, hr, .inr ⟨rfl, .ret, hIx _ _ _ hi3 q1 (by omega), hl4, hk4, hks.trans q2, by simpa using q3⟩⟩
   | exit id =>
    obtain ⟨hk3, hi3⟩ := hp
    obtain ⟨hr, hl4, hk4, q1, q2, q3⟩ := fin (some (.exit id)) W3 hk3
    exact ⟨_, _, hr, .inr ⟨rfl, .exit id, hIx _ _ _ hi3 q1 (by omega), hl4, hk4, hks.trans q2, by simpa using q3⟩⟩
   | goto t =>
    obtain ⟨hk3, hi3⟩ := hp
    obtain ⟨hr, hl4, hk4, q1, q2, q3⟩ := fin (some (.goto t)) W3 hk3
    exact ⟨_, _, hr, .inr ⟨rfl, .goto t, hIx _ _ _ hi3 q1 (by omega), hl4, hk4, hks.trans q2, by simpa using q3⟩⟩
   | panic ch => exact hp.elim
   | outgrown => exact hp.elim
  ·rintro e W2 ⟨⟨v, rfl⟩, (⟨hi, hl, hk, hks, hs2⟩ | ⟨c, hi, hl, hk, hks, hs2⟩)⟩
   ·have q1 : ∀ o, Ks (fun k => k = w.heap.size ∨ k = w.heap.size + 1) W2 (W2.putObj (w.heap.size + 1) o) := fun o => Ks.put (S := fun k => k = w.heap.size ∨ k = w.heap.size + 1) (.inr rfl) _
    exact ⟨none, _, by have := run_endLoop (P := P) hl (by rw [hrec]; simp); rw [hrec] at this; exact this, hdone _ (hI _ _ _ hi (q1 _) (by omega)) (hks.trans ((q1 _).mono (fun k h => .inr h))) ((World.putObj_heap_other (by omega)).trans hk)⟩
   ·have q1 : ∀ o, Ks (fun k => k = w.heap.size ∨ k = w.heap.size + 1) W2 (W2.putObj (w.heap.size + 1) o) := fun o => Ks.put (S := fun k => k = w.heap.size ∨ k = w.heap.size + 1) (.inr rfl) _
    exact ⟨some c, _, by have := run_endLoop (P := P) hl (by rw [hrec]; simp); rw [hrec] at this; exact this, hstop c _ (hIx _ _ _ hi (q1 _) (by omega)) (hks.trans ((q1 _).mono (fun k h => .inr h))) ((World.putObj_heap_other (by omega)).trans hk)⟩
end Mt
end Go.Proofs.YtlfoglklibhbnaaGreat
namespace Go.Proofs.YtlfoglklibhbnaaGreat
open Go.RowKit Go.Shelf
namespace Mt
end Mt
end Go.Proofs.YtlfoglklibhbnaaGreat
