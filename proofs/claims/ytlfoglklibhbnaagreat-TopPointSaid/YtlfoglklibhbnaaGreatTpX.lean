/- Parts of the proof of TopPoint. No condition of their own. -/
import Derived.Test.YtlfoglklibhbnaaGreatTpW
import Derived.Test.YtlfoglklibhbnaaGreatTpK
import Derived.Test.YtlfoglklibhbnaaGreatTpN
set_option linter.unusedVariables false
set_option linter.unusedSimpArgs false
namespace Go.Proofs.YtlfoglklibhbnaaGreat
open Go.RowKit Go.Shelf
attribute [local go_sem] Oper.semAt_some
namespace Mt
def PxE (B : Nat) (t : List Int) (i : Nat) (xs : Array Value) (W : World) : Prop :=
 ∃ ba bb bi, xs = #[sideV ba bb bi] ∧ Bx W ba 38 [.int .i64 (px t i), .int .i64 (py t i)] ∧ Bx W bb 38 [.int .i64 (px t (i + 1)), .int .i64 (py t (i + 1))] ∧ Bx W bi 3 [.int .i64 (sd t)] ∧ B ≤ bi ∧ bi < ba ∧ ba < bb
theorem PxE.later {B : Nat} {t : List Int} {i : Nat} {xs : Array Value} {A C : World} {S : Nat → Prop} (h : PxE B t i xs A) (hk : Ks S A C) (hS : ∀ k, B ≤ k → ¬ S k) : PxE B t i xs C := by
 obtain ⟨ba, bb, bi, e, h1, h2, h3, h4, h5, h6⟩ := h
 exact ⟨ba, bb, bi, e, h1.ks hk (hS _ (by omega)), h2.ks hk (hS _ (by omega)), h3.ks hk (hS _ h4), h4, h5, h6⟩
theorem edges_iter (B : Nat) (S : Nat → Prop) (t0 t1 t2 t3 t4 t5 : Int) (bt : Nat) (W : World) (hb : Blk W bt [.int .i64 t0, .int .i64 t1, .int .i64 t2, .int .i64 t3, .int .i64 t4, .int .i64 t5]) (hbS : ¬ S bt) (hS : ∀ k, W.heap.size ≤ k → ¬ S k) (hB : B ≤ W.heap.size) :
  IterOk Tryz.prog 134 #[.pointer (some ⟨bt, 0, none⟩)] 3 (PxE B [t0, t1, t2, t3, t4, t5]) S W :=
 fun n l J Jx hJ hY h0 => edges1_in n l bt S W t0 t1 t2 t3 t4 t5 J Jx hJ (fun i ba bb bi W1 q1 q2 q3 q4 q5 hi hj h1 h2 h3 => hY i _ W1 hi hj ⟨ba, bb, bi, rfl, h1, h2, h3, Nat.le_trans hB q3, q4, q5⟩) hb hbS hS h0
theorem edges_any (t0 t1 t2 t3 t4 t5 : Int) (w : World) :
  Calls Tryz.prog 117 #[.agg #[.int .i64 t0, .int .i64 t1, .int .i64 t2, .int .i64 t3, .int .i64 t4, .int .i64 t5]] w
   fun e w' => e = .returned (.func (.func 134) #[] #[.pointer (some ⟨w.heap.size, 0, none⟩)]) ∧ Blk w' w.heap.size [.int .i64 t0, .int .i64 t1, .int .i64 t2, .int .i64 t3, .int .i64 t4, .int .i64 t5] ∧ Gr w w' := by
 go_enter Tryz.func117, Tryz.ntmps117
 go_wp2
 go_ret
 exact ⟨rfl, Blk.new (vs := [.int .i64 t0, .int .i64 t1, .int .i64 t2, .int .i64 t3, .int .i64 t4, .int .i64 t5]) rfl, (Gr.refl w).alloc _⟩
theorem small2_any (x y : Int) (b : Nat) (w : World) (hb : w.heap[b]? = some (.cells #[.int .i64 x, .int .i64 y] 38 (0, 0))) :
  Calls Tryz.prog 54 #[.slice (some ⟨b, 0, none⟩) 1 1] w fun e w' => e = .returned (.bool (Sx.us x && Sx.us y)) ∧ Gr w w' :=
 (Sx.c_small2_1 w [x, y] (fun n => if n = 0 then some b else none) w w [.slice (some ⟨b, 0, none⟩) 1 1] rfl trivial (Gr.refl w) (Nat.le_refl _) (Nat.le_refl _) ⟨_, _, rfl, ⟨b, rfl, rfl⟩, rfl⟩
  ⟨fun n B hn => by
   match n, hn with
   | 0, hn =>
    have hn : some (⟨Sx.vars 0 2, 38, false⟩ : Sx.Bk) = some B := by simpa [Sx.heapG] using hn
    simp only [Option.some.injEq] at hn
    subst hn
    exact ⟨b, _, rfl, hb, ⟨_, _, rfl, rfl, _, _, rfl, rfl, rfl⟩, fun h => by cases h⟩
   | n + 1, hn => simp [Sx.heapG] at hn,
   fun n m c h1 h2 => by split at h1 <;> split at h2 <;> simp_all, fun n c h1 => by
   split at h1
   ·simp only [Option.some.injEq] at h1; subst h1; exact (Array.getElem?_eq_some_iff.1 hb).1
   ·cases h1⟩
  (fun n hn => by
   have : n ≠ 0 := by simp [Sx.heapG] at hn; omega
   simp [this])).mono fun e w' h => ⟨by rw [h.1]; show Ending.returned (.bool ([x, y].all Sx.us)) = _; simp, h.2⟩
theorem right_any (t0 t1 t2 t3 t4 t5 : Int) (w : World) : Calls Tryz.prog 32 #[.agg #[.int .i64 t0, .int .i64 t1, .int .i64 t2, .int .i64 t3, .int .i64 t4, .int .i64 t5]] w
  fun e w' => e = .returned (.bool (Sx.rgt [t0, t1, t2, t3, t4, t5])) ∧ Gr w w' :=
 Sx.flat_run (Sx.c_right10 w) rfl [t0, t1, t2, t3, t4, t5] rfl trivial
def ed (t : List Int) (i : Nat) (x y : Int) : Int := sd t * sd [px t i, py t i, px t (i + 1), py t (i + 1), x, y]
theorem ed_b (t : List Int) (i : Nat) (x y : Int) : -1 ≤ ed t i x y ∧ ed t i x y ≤ 1 := by
 have := mul_bd (M := 1) (N := 1) 1 (by decide) (sd_b t) (sd_b [px t i, py t i, px t (i + 1), py t (i + 1), x, y])
 exact this
end Mt
end Go.Proofs.YtlfoglklibhbnaaGreat
