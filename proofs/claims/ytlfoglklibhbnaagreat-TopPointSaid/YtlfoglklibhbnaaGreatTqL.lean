/- Parts of the proof of TopPoint. No condition of their own. -/
import Derived.Test.YtlfoglklibhbnaaGreatTpC
import Derived.RangeFuncLeaves
import Derived.Test.YtlfoglklibhbnaaGreatTqK
import Derived.Test.YtlfoglklibhbnaaGreatTqG
set_option linter.unusedVariables false
set_option linter.unusedSimpArgs false
namespace Go.Proofs.YtlfoglklibhbnaaGreat
open Go.RowKit Go.Shelf
namespace Mt
def Marks (B : Nat) : List Deferred → World → Prop
 | [], _ => True
 | d :: ds, w => (∃ r, d = { target := .collected r, args := #[] } ∧ B ≤ r ∧ w.heap[r]? = some (.deferred (some [])) ∧ ∀ d' ∈ ds, d' ≠ { target := .collected r, args := #[] }) ∧ Marks B ds w
theorem Marks.ks {B : Nat} {S : Nat → Prop} {w w' : World} (hk : Ks S w w') (hS : ∀ r, S r → w.heap[r]? ≠ some (.deferred (some []))) : ∀ {ds : List Deferred}, Marks B ds w → Marks B ds w'
 | [], _ => trivial
 | d :: ds, ⟨⟨r, e, hb, hh, hn⟩, h⟩ => ⟨⟨r, e, hb, (hk.block r (Array.getElem?_eq_some_iff.1 hh).1 (fun h => hS r h hh)).trans hh, hn⟩, Marks.ks hk hS h⟩
theorem Marks.lt {B : Nat} {w : World} : ∀ {ds : List Deferred}, Marks B ds w → ∀ d ∈ ds, ∃ r, d = { target := .collected r, args := #[] } ∧ r < w.heap.size
 | [], _, d, h => by cases h
 | d :: ds, ⟨⟨r, e, hb, hh, hn⟩, h⟩, d', hd => by
  rcases List.mem_cons.1 hd with rfl | hd
  ·exact ⟨r, e, (Array.getElem?_eq_some_iff.1 hh).1⟩
  ·exact Marks.lt h d' hd
theorem Marks.put {B r : Nat} {w : World} {o : Obj} : ∀ {ds : List Deferred}, Marks B ds w → (∀ d' ∈ ds, d' ≠ { target := .collected r, args := #[] }) → Marks B ds (w.putObj r o)
 | [], _, _ => trivial
 | d :: ds, ⟨⟨r', e, hb, hh, hn⟩, h⟩, hne => by
  have hr : r' ≠ r := fun er => hne d (by simp) (by rw [e, er])
  exact ⟨⟨r', e, hb, (World.putObj_heap_other hr).trans hh, hn⟩, Marks.put h (fun d' hd => hne d' (by simp [hd]))⟩
theorem leaves_marks {F : Fence} {n : Nat} {P : Program} {fn : Func} {tmps : Array Value} {R : Ending → World → Prop} {v : Value} {B : Nat} {S : Nat → Prop} (hres : ∀ w, (results fn tmps).run P w = .ok v w) :
  ∀ (ds : List Deferred) (w : World), Marks B ds w → (∀ r, B ≤ r → w.heap[r]? = some (.deferred (some [])) → S r) → (∀ w', Ks S w w' → R (.returned v) w') → LeavesInM F n P fn tmps R ds .returning w
 | [], w, _, _, hR => ⟨v, hres w, hR w (Ks.refl _ _)⟩
 | d :: ds, w, ⟨⟨r, e, hb, hh, hn⟩, h⟩, hS, hR => by
  refine ⟨by simp, .inl ⟨r, w.putObj r (.deferred none), by rw [e], run_takeDeferred hh, ?_⟩⟩
  have hlt := (Array.getElem?_eq_some_iff.1 hh).1
  refine leaves_marks (S := S) hres ds _ (Marks.put h hn) ?_ ?_
  ·intro r' hb' hh'
   by_cases er : r' = r
   ·subst er
    rw [World.putObj_heap_same hlt] at hh'
    simp at hh'
   ·rw [World.putObj_heap_other er] at hh'
    exact hS r' hb' hh'
  ·intro w' hk
   exact hR w' ((Ks.put (S := S) (hS r hb hh) _).trans hk)
end Mt
end Go.Proofs.YtlfoglklibhbnaaGreat
namespace Go.Proofs.YtlfoglklibhbnaaGreat
open Go.RowKit Go.Shelf
attribute [local go_sem] Oper.semAt_some
namespace Mt
open Ro
theorem covers_raw (x y t0 t1 t2 t3 t4 t5 : Int) (w : World) : Calls Tryz.prog 34 #[.int .i64 x, .int .i64 y, .agg #[.int .i64 t0, .int .i64 t1, .int .i64 t2, .int .i64 t3, .int .i64 t4, .int .i64 t5]] w fun e w' => e = .returned (.tuple #[.bool (cov [t0, t1, t2, t3, t4, t5] x y), .int .i64 (Sx.fi 66 0 [x, y, t0, t1, t2, t3, t4, t5])]) ∧ Gr w w' :=
 Sx.flat_run (Sx.c_cov w) rfl [x, y, t0, t1, t2, t3, t4, t5] rfl trivial
theorem rows6_at {w : World} {a : Option Addr} {len i : Nat} {zs : List (List Int)} (h : Oi.IsRows 6 w a len zs) (hi : i < len) : ∃ b off t0 t1 t2 t3 t4 t5, a = some ⟨b, off, none⟩ ∧ b < w.heap.size ∧ zs.getD i [] = [t0, t1, t2, t3, t4, t5] ∧
  w.cell? ⟨b, off + i * 6, none⟩ = some (.int .i64 t0) ∧ w.cell? ⟨b, off + i * 6 + 1, none⟩ = some (.int .i64 t1) ∧ w.cell? ⟨b, off + i * 6 + 2, none⟩ = some (.int .i64 t2) ∧ w.cell? ⟨b, off + i * 6 + 3, none⟩ = some (.int .i64 t3) ∧ w.cell? ⟨b, off + i * 6 + 4, none⟩ = some (.int .i64 t4) ∧ w.cell? ⟨b, off + i * 6 + 5, none⟩ = some (.int .i64 t5) := by
 obtain ⟨h1, h2, h3, h4⟩ := h
 obtain ⟨b, off, e, hc⟩ := h4 (by omega)
 have hm := h3 (zs.getD i []) (by rw [List.getD_eq_getElem?_getD, List.getElem?_eq_getElem (by omega)]; exact List.getElem_mem _)
 have c0 := hc i 0 hi (by omega); have c1 := hc i 1 hi (by omega); have c2 := hc i 2 hi (by omega); have c3 := hc i 3 hi (by omega); have c4 := hc i 4 hi (by omega); have c5 := hc i 5 hi (by omega)
 generalize zs.getD i [] = z at hm c0 c1 c2 c3 c4 c5
 obtain ⟨x0, l0, rfl, e0⟩ := Sx.cut1 hm.1
 obtain ⟨x1, l1, rfl, e1⟩ := Sx.cut1 e0
 obtain ⟨x2, l2, rfl, e2⟩ := Sx.cut1 e1
 obtain ⟨x3, l3, rfl, e3⟩ := Sx.cut1 e2
 obtain ⟨x4, l4, rfl, e4⟩ := Sx.cut1 e3
 obtain ⟨x5, l5, rfl, e5⟩ := Sx.cut1 e4
 obtain rfl := Sx.cut0 e5
 exact ⟨b, off, x0, x1, x2, x3, x4, x5, e, lt_of_cell c0, rfl, c0, c1, c2, c3, c4, c5⟩
theorem rows3_blk {w : World} {b : Nat} {t0 t1 t2 t3 t4 t5 : Int} (h : Blk w b [.int .i64 t0, .int .i64 t1, .int .i64 t2, .int .i64 t3, .int .i64 t4, .int .i64 t5]) (hI : ∀ x ∈ [t0, t1, t2, t3, t4, t5], I x) : Oi.IsRows 2 w (some ⟨b, 0, none⟩) 3 [[t0, t1], [t2, t3], [t4, t5]] := by
 refine ⟨rfl, by omega, ?_, fun _ => ⟨b, 0, rfl, ?_⟩⟩
 ·intro z hz
  simp only [List.mem_cons, List.not_mem_nil, or_false] at hz
  rcases hz with rfl | rfl | rfl
  all_goals exact ⟨rfl, fun x hx => hI x (by simp only [List.mem_cons, List.not_mem_nil, or_false] at hx ⊢; rcases hx with rfl | rfl <;> simp)⟩
 ·intro i j hi hj
  match i, j, hi, hj with
  | 0, 0, _, _ => exact h.cell 0 rfl
  | 0, 1, _, _ => exact h.cell 1 rfl
  | 1, 0, _, _ => exact h.cell 2 rfl
  | 1, 1, _, _ => exact h.cell 3 rfl
  | 2, 0, _, _ => exact h.cell 4 rfl
  | 2, 1, _, _ => exact h.cell 5 rfl
theorem any3 (W H t0 t1 t2 t3 t4 t5 : Int) : [[t0, t1], [t2, t3], [t4, t5]].any (oddZ W H) = (oddB W H t0 t1 || (oddB W H t2 t3 || oddB W H t4 t5)) := by
 simp [oddZ]
theorem owE_siz {W H : Int} {zs : List (List Int)} (h : sizB W H = false) : owE W H zs = 1 ∧ owL W H zs = [] := by
 have e : owE W H zs = 1 := by unfold owE; rw [if_neg (by rw [h]; simp)]
 exact ⟨e, by unfold owL; rw [if_neg (by rw [e]; omega)]⟩
theorem owE_bad {W H : Int} {zs : List (List Int)} {k : Nat} (hk : k < zs.length) (h : badT W H (zs.getD k []) = true) : owE W H zs = 1 ∧ owL W H zs = [] := by
 have ha : zs.any (badT W H) = true := by
  rw [List.any_eq_true]
  refine ⟨zs.getD k [], ?_, h⟩
  rw [List.getD_eq_getElem?_getD, List.getElem?_eq_getElem hk]
  exact List.getElem_mem _
 have e : owE W H zs = 1 := by unfold owE; rw [if_neg (by rw [ha]; simp)]
 exact ⟨e, by unfold owL; rw [if_neg (by rw [e]; omega)]⟩
theorem owE_ok {W H : Int} {zs : List (List Int)} (hs : sizB W H = true) (h : ∀ j, j < zs.length → badT W H (zs.getD j []) = false) : owE W H zs = 0 ∧ owL W H zs = outL zs W.toNat H.toNat zs.length := by
 have ha : zs.any (badT W H) = false := by
  rw [List.any_eq_false]
  intro z hz
  obtain ⟨j, hj⟩ := List.getElem?_of_mem hz
  have hjl : j < zs.length := (List.getElem?_eq_some_iff.1 hj).1
  have := h j hjl
  rw [List.getD_eq_getElem?_getD, hj] at this
  simpa using this
 have e : owE W H zs = 0 := by unfold owE; rw [if_pos ⟨hs, ha⟩]
 exact ⟨e, by unfold owL; rw [if_pos e]⟩
end Mt
end Go.Proofs.YtlfoglklibhbnaaGreat
