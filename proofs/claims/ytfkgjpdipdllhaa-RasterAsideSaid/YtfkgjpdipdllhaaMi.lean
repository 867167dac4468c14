/- Chapter 10: meet.In, walked. -/
import Derived.Test.YtfkgjpdipdllhaaMu2
import Derived.Test.YtfkgjpdipdllhaaMj
set_option linter.unusedVariables false
namespace Go.Proofs.Ytfkgjpdipdllhaa
open Go.RowKit Go.Shelf
attribute [local go_sem] Oper.semAt_some
namespace Mt
def PxE (B : Nat) (t : List Int) (i : Nat) (xs : Array Value) (W : World) : Prop :=
  ∃ ba bb bi, xs = #[sideV ba bb bi] ∧ Bx W ba 24 [.int .i64 (px t i), .int .i64 (py t i)] ∧ Bx W bb 24 [.int .i64 (px t (i + 1)), .int .i64 (py t (i + 1))] ∧ Bx W bi 3 [.int .i64 (sd t)] ∧ B ≤ bi ∧ bi < ba ∧ ba < bb
theorem PxE.later {B : Nat} {t : List Int} {i : Nat} {xs : Array Value} {A C : World} {S : Nat → Prop} (h : PxE B t i xs A) (hk : Ks S A C) (hS : ∀ k, B ≤ k → ¬ S k) : PxE B t i xs C := by
  obtain ⟨ba, bb, bi, e, h1, h2, h3, h4, h5, h6⟩ := h
  exact ⟨ba, bb, bi, e, h1.ks hk (hS _ (by omega)), h2.ks hk (hS _ (by omega)), h3.ks hk (hS _ h4), h4, h5, h6⟩
theorem edges_iter (B : Nat) (S : Nat → Prop) (t0 t1 t2 t3 t4 t5 : Int) (bt : Nat) (W : World) (hb : Blk W bt [.int .i64 t0, .int .i64 t1, .int .i64 t2, .int .i64 t3, .int .i64 t4, .int .i64 t5]) (hbS : ¬ S bt) (hS : ∀ k, W.heap.size ≤ k → ¬ S k) (hB : B ≤ W.heap.size) :
    IterOk Try.prog 41 #[.pointer (some ⟨bt, 0, none⟩)] 3 (PxE B [t0, t1, t2, t3, t4, t5]) S W :=
  fun n l J Jx hJ hY h0 => edges1_in n l bt S W t0 t1 t2 t3 t4 t5 J Jx hJ (fun i ba bb bi W1 q1 q2 q3 q4 q5 hi hj h1 h2 h3 => hY i _ W1 hi hj ⟨ba, bb, bi, rfl, h1, h2, h3, Nat.le_trans hB q3, q4, q5⟩) hb hbS hS h0
theorem edges_any (t0 t1 t2 t3 t4 t5 : Int) (w : World) :
    Calls Try.prog 31 #[.agg #[.int .i64 t0, .int .i64 t1, .int .i64 t2, .int .i64 t3, .int .i64 t4, .int .i64 t5]] w
      fun e w' => e = .returned (.func (.func 41) #[] #[.pointer (some ⟨w.heap.size, 0, none⟩)]) ∧ Blk w' w.heap.size [.int .i64 t0, .int .i64 t1, .int .i64 t2, .int .i64 t3, .int .i64 t4, .int .i64 t5] ∧ Gr w w' := by
  go_enter Try.func31, Try.ntmps31
  go_wp2
  go_ret
  exact ⟨rfl, Blk.new (vs := [.int .i64 t0, .int .i64 t1, .int .i64 t2, .int .i64 t3, .int .i64 t4, .int .i64 t5]) rfl, (Gr.refl w).alloc _⟩
theorem small2_any (x y : Int) (b : Nat) (w : World) (hb : w.heap[b]? = some (.cells #[.int .i64 x, .int .i64 y] 24 (0, 0))) :
    Calls Try.prog 30 #[.slice (some ⟨b, 0, none⟩) 1 1] w fun e w' => e = .returned (.bool (Sx.us x && Sx.us y)) ∧ Gr w w' :=
  (Sx.c_small2_1 w [x, y] (fun n => if n = 0 then some b else none) w w [.slice (some ⟨b, 0, none⟩) 1 1] rfl trivial (Gr.refl w) (Nat.le_refl _) (Nat.le_refl _) ⟨_, _, rfl, ⟨b, rfl, rfl⟩, rfl⟩
    ⟨fun n B hn => by
      match n, hn with
      | 0, hn =>
        have hn : some (⟨Sx.vars 0 2, 24, false⟩ : Sx.Bk) = some B := by simpa [Sx.heapG] using hn
        simp only [Option.some.injEq] at hn
        subst hn
        exact ⟨b, _, rfl, hb, ⟨_, _, rfl, rfl, _, _, rfl, rfl, rfl⟩, fun h => by cases h⟩
      | n + 1, hn => simp [Sx.heapG] at hn,
     fun n m c h1 h2 => by split at h1 <;> split at h2 <;> simp_all, fun n c h1 => by
      split at h1
      · simp only [Option.some.injEq] at h1; subst h1; exact (Array.getElem?_eq_some_iff.1 hb).1
      · cases h1⟩
    (fun n hn => by
      have : n ≠ 0 := by simp [Sx.heapG] at hn; omega
      simp [this])).mono fun e w' h => ⟨by rw [h.1]; show Ending.returned (.bool ([x, y].all Sx.us)) = _; simp, h.2⟩
theorem right_any (t0 t1 t2 t3 t4 t5 : Int) (w : World) : Calls Try.prog 19 #[.agg #[.int .i64 t0, .int .i64 t1, .int .i64 t2, .int .i64 t3, .int .i64 t4, .int .i64 t5]] w
    fun e w' => e = .returned (.bool (Sx.rgt [t0, t1, t2, t3, t4, t5])) ∧ Gr w w' :=
  Sx.flat_run (Sx.c_right10 w) rfl [t0, t1, t2, t3, t4, t5] rfl trivial

def ed (t : List Int) (i : Nat) (x y : Int) : Int := sd t * sd [px t i, py t i, px t (i + 1), py t (i + 1), x, y]
def mn (t : List Int) (x y : Int) : Nat → Int
  | 0 => 1
  | i + 1 => min (mn t x y i) (ed t i x y)
theorem mn_3 (t0 t1 t2 t3 t4 t5 x y : Int) : mn [t0, t1, t2, t3, t4, t5] x y 3 + 1 = Sx.inV [x, y, t0, t1, t2, t3, t4, t5] := rfl
theorem ed_b (t : List Int) (i : Nat) (x y : Int) : -1 ≤ ed t i x y ∧ ed t i x y ≤ 1 := by
  have := mul_bd (M := 1) (N := 1) 1 (by decide) (sd_b t) (sd_b [px t i, py t i, px t (i + 1), py t (i + 1), x, y])
  exact this
theorem mn_b (t : List Int) (x y : Int) : ∀ i, -1 ≤ mn t x y i ∧ mn t x y i ≤ 1
  | 0 => by simp [mn]
  | i + 1 => by have h1 := mn_b t x y i; have h2 := ed_b t i x y; simp only [mn]; omega

set_option maxHeartbeats 4000000 in
set_option maxRecDepth 100000 in
theorem in_any (px0 py0 t0 t1 t2 t3 t4 t5 : Int) (w : World) :
    Calls Try.prog 20 #[.agg #[.int .i64 px0, .int .i64 py0], .agg #[.int .i64 t0, .int .i64 t1, .int .i64 t2, .int .i64 t3, .int .i64 t4, .int .i64 t5]] w
      fun e w' => e = .returned (.tuple #[.int .i64 (Sx.fi 57 0 [px0, py0, t0, t1, t2, t3, t4, t5]), .int .i64 (Sx.fi 57 1 [px0, py0, t0, t1, t2, t3, t4, t5])]) ∧ Gr w w' := by
  refine (callsIn_wide (n := 9)).1 ?_
  refine callsIn_of_wp_marks Try.func20 rfl trivial ?_ rfl
  simp only [Try.ntmps20, List.size_toArray, List.length_cons, List.length_nil, Nat.reduceAdd, Nat.reduceSub, Array.replicate_succ, Array.replicate_zero, List.push_toArray, List.append_toArray, List.nil_append, List.cons_append]
  gi_wp2
  refine ⟨trivial, ?_⟩
  refine (callsIn_wide.2 (small2_any px0 py0 _ _ ?_)).mono ?_
  · have h := World.alloc_heap_new ((w.alloc (.cells #[.int .i64 px0, .int .i64 py0] 24)).alloc (.cells #[.int .i64 t0, .int .i64 t1, .int .i64 t2, .int .i64 t3, .int .i64 t4, .int .i64 t5] 36)) (.cells #[.int .i64 px0, .int .i64 py0] 24)
    simpa only [World.size_alloc] using h
  rintro e w2 ⟨rfl, hg⟩
  have g2 : Gr w w2 := ((((Gr.refl w).alloc _).alloc _).alloc _).trans hg
  have bp2 : Bx w2 w.heap.size 24 [.int .i64 px0, .int .i64 py0] := (((Bx.new (w := w) (vs := [.int .i64 px0, .int .i64 py0]) (T := 24) rfl).alloc _).alloc _).gr hg
  have bt2 : Blk w2 (w.heap.size + 1) [.int .i64 t0, .int .i64 t1, .int .i64 t2, .int .i64 t3, .int .i64 t4, .int .i64 t5] := (Blk.new (w := w.alloc (.cells #[.int .i64 px0, .int .i64 py0] 24)) (vs := [.int .i64 t0, .int .i64 t1, .int .i64 t2, .int .i64 t3, .int .i64 t4, .int .i64 t5]) (T := 36) (by simp)).alloc.gr hg
  have c0 := bt2.cell 0 rfl; have c1 := bt2.cell 1 rfl; have c2 := bt2.cell 2 rfl; have c3 := bt2.cell 3 rfl; have c4 := bt2.cell 4 rfl; have c5 := bt2.cell 5 rfl
  have G2 := Lib.hid g2; have BP2 := Lib.hid bp2; have BT2 := Lib.hid bt2
  clear g2 bp2 bt2 hg
  have eI : Sx.fi 57 0 [px0, py0, t0, t1, t2, t3, t4, t5] = if (Sx.us px0 && Sx.us py0) = true ∧ Sx.rgt [t0, t1, t2, t3, t4, t5] = true then Sx.inV [px0, py0, t0, t1, t2, t3, t4, t5] else 0 := by
    show (if ([px0, py0].all Sx.us && Sx.rgt [t0, t1, t2, t3, t4, t5]) = true then _ else _) = _
    simp
  have eE : Sx.fi 57 1 [px0, py0, t0, t1, t2, t3, t4, t5] = if (Sx.us px0 && Sx.us py0) = true then (if Sx.rgt [t0, t1, t2, t3, t4, t5] = true then 0 else 1) else 5 := by
    show (if [px0, py0].all Sx.us = true then (if Sx.rgt [t0, t1, t2, t3, t4, t5] = true then _ else _) else _) = _
    simp
  have EI := Lib.hid eI; have EE := Lib.hid eE; clear eI eE
  cases hs : (Sx.us px0 && Sx.us py0)
  · rw [hs] at EI EE
    have E1 : Hid (Sx.fi 57 0 [px0, py0, t0, t1, t2, t3, t4, t5] = 0) := Lib.hid (by rw [EI.out]; simp)
    have E2 : Hid (Sx.fi 57 1 [px0, py0, t0, t1, t2, t3, t4, t5] = 5) := Lib.hid (by rw [EE.out]; simp)
    clear EI EE
    gi_wp2
    refine ⟨_, results_tmp2 rfl _ _ _, ?_⟩
    exact ⟨show Ending.returned (.tuple #[.int .i64 0, .int .i64 5]) = _ by rw [E1.out, E2.out], G2.out⟩
  · rw [hs] at EI EE
    gi_wp2
    refine ⟨trivial, ?_⟩
    refine (callsIn_wide.2 (right_any t0 t1 t2 t3 t4 t5 _)).mono ?_
    rintro e w3 ⟨rfl, hg3⟩
    have G3 := Lib.hid (G2.out.trans hg3); have BP3 := Lib.hid (BP2.out.gr hg3); have BT3 := Lib.hid (BT2.out.gr hg3)
    clear G2 BP2 BT2 c0 c1 c2 c3 c4 c5 hg3
    cases hr : Sx.rgt [t0, t1, t2, t3, t4, t5]
    · have E1 : Hid (Sx.fi 57 0 [px0, py0, t0, t1, t2, t3, t4, t5] = 0) := Lib.hid (by rw [EI.out, hr]; simp)
      have E2 : Hid (Sx.fi 57 1 [px0, py0, t0, t1, t2, t3, t4, t5] = 1) := Lib.hid (by rw [EE.out, hr]; simp)
      clear EI EE hr
      gi_wp2
      refine ⟨_, results_tmp2 rfl _ _ _, ?_⟩
      exact ⟨show Ending.returned (.tuple #[.int .i64 0, .int .i64 1]) = _ by rw [E1.out, E2.out], G3.out⟩
    · have E1 : Hid (Sx.fi 57 0 [px0, py0, t0, t1, t2, t3, t4, t5] = Sx.inV [px0, py0, t0, t1, t2, t3, t4, t5]) := Lib.hid (by rw [EI.out, hr]; simp)
      have E2 : Hid (Sx.fi 57 1 [px0, py0, t0, t1, t2, t3, t4, t5] = 0) := Lib.hid (by rw [EE.out, hr]; simp)
      clear EI EE hr
      have c0 := BT3.out.cell 0 rfl; have c1 := BT3.out.cell 1 rfl; have c2 := BT3.out.cell 2 rfl; have c3 := BT3.out.cell 3 rfl; have c4 := BT3.out.cell 4 rfl; have c5 := BT3.out.cell 5 rfl
      have lt := BT3.out.1
      have ne : ¬ w.heap.size + 1 = w3.heap.size := by omega
      gi_wp2
      refine ⟨trivial, ?_⟩
      refine (callsIn_wide.2 (edges_any t0 t1 t2 t3 t4 t5 _)).mono ?_
      rintro e w4 ⟨rfl, hbe, hg4⟩
      have bL : Bx w4 w3.heap.size 3 [.int .i64 1] := (Bx.new (w := w3) (vs := [.int .i64 1]) (T := 3) rfl).gr hg4
      have bP : Bx w4 w.heap.size 24 [.int .i64 px0, .int .i64 py0] := (BP3.out.alloc _).gr hg4
      have g4 : Gr w w4 := (G3.out.alloc _).trans hg4
      have s4 : w3.heap.size + 1 < w4.heap.size := by have := hbe.1; simpa using this
      have HE := Lib.hid hbe; have G4 := Lib.hid g4; have BL := Lib.hid bL; have BP := Lib.hid bP
      have lt3 : w.heap.size < w3.heap.size := BP3.out.lt
      clear hbe hg4 g4 bL bP BP3 BT3 c0 c1 c2 c3 c4 c5 lt ne G3
      rw [World.size_alloc] at HE ⊢
      gi_wp2
      refine rf_law (n := 9) (gf := 41) (lb := #[.pointer (some ⟨w3.heap.size + 1, 0, none⟩)]) rfl (enters_of Try.func41 (by kernel_rfl) rfl) 3 (PxE (w4.heap.size + 2) [t0, t1, t2, t3, t4, t5]) (fun k => k = w3.heap.size) ?hS ?hit
        (fun i W => Bx W w3.heap.size 3 [.int .i64 (mn [t0, t1, t2, t3, t4, t5] px0 py0 i)] ∧ Bx W w.heap.size 24 [.int .i64 px0, .int .i64 py0]) (fun _ _ => False) ?hI ?hIx ?hPx ?hsz ?h0
        (fun xs => { tmps := #[.agg #[.int .i64 px0, .int .i64 py0], .agg #[.int .i64 t0, .int .i64 t1, .int .i64 t2, .int .i64 t3, .int .i64 t4, .int .i64 t5], .pointer (some ⟨w.heap.size, 0, none⟩), .pointer (some ⟨w.heap.size + 1, 0, none⟩), .int .i64 0, .int .i64 0, .pointer (some ⟨w3.heap.size, 0, none⟩), xs.getD 0 undef, .bool false, .agg #[.int .i64 px0, .int .i64 py0], .slice (some ⟨w.heap.size + 1 + 1, 0, none⟩) 1 1, .bool true, .bool false, .bool false, .agg #[.int .i64 t0, .int .i64 t1, .int .i64 t2, .int .i64 t3, .int .i64 t4, .int .i64 t5], .bool true, .bool false, .agg #[.int .i64 t0, .int .i64 t1, .int .i64 t2, .int .i64 t3, .int .i64 t4, .int .i64 t5], .func (.func 41) #[] #[.pointer (some ⟨w3.heap.size + 1, 0, none⟩)], xs.getD 0 undef, undef, undef, undef, undef, undef, undef, undef], defers := [] }) ?assign ?body ?done ?stop
      case hS => rintro k rfl; omega
      case hit => exact fun W1 hg1 hs1 => edges_iter _ _ t0 t1 t2 t3 t4 t5 _ W1 (HE.out.gr hg1) (by omega) (fun k hk => by omega) hs1
      case hI => rintro i A B ⟨h1, h2⟩ hk hs; have q1 := h1.lt; have q2 := h2.lt; exact ⟨h1.ks hk (by omega), h2.ks hk (by omega)⟩
      case hIx => rintro c A B h; exact h.elim
      case hPx => exact fun i xs A B h hk => h.later hk (fun k h => by omega)
      case hsz => rintro i xs A ⟨ba, bb, bi, rfl, _⟩; rfl
      case h0 => exact ⟨BL.out, BP.out⟩
      case assign =>
        rintro l m i xs W K ⟨ba, bb, bi, rfl, _⟩ hK
        gi_wp2
        exact hK
      case body =>
        rintro l m i xs W hi ⟨hL, hP⟩ ⟨ba, bb, bi, rfl, h1, h2, h3, hb1, hb2, hb3⟩ hks hsz
        have q1 := hL.lt; have q2 := hP.lt
        refine wpIn_block ?_
        have hd := mn_b [t0, t1, t2, t3, t4, t5] px0 py0 i
        generalize hm : mn [t0, t1, t2, t3, t4, t5] px0 py0 i = z at *
        have hx : Sx.CxOk Try.prog (Sx.E.at [z, px0, py0, px [t0, t1, t2, t3, t4, t5] i, py [t0, t1, t2, t3, t4, t5] i, px [t0, t1, t2, t3, t4, t5] (i + 1), py [t0, t1, t2, t3, t4, t5] (i + 1), sd [t0, t1, t2, t3, t4, t5]]) W Sx.cm1 := Sx.cm1_ok W _ trivial
        obtain ⟨s2, h4, h5⟩ := Sx.sel_map (σ := Sx.E.at [z, px0, py0, px [t0, t1, t2, t3, t4, t5] i, py [t0, t1, t2, t3, t4, t5] i, px [t0, t1, t2, t3, t4, t5] (i + 1), py [t0, t1, t2, t3, t4, t5] (i + 1), sd [t0, t1, t2, t3, t4, t5]]) (by rw [show Sx.runI = _ from Sx.k_I]; rfl : Sx.runI.sel _ = some (some (.ptr (some (0, 0))), some (.int Sx.eI)))
        simp only [Sx.lookI, Prod.mk.injEq] at h5
        have hS : Sx.SRel (Sx.E.at [z, px0, py0, px [t0, t1, t2, t3, t4, t5] i, py [t0, t1, t2, t3, t4, t5] i, px [t0, t1, t2, t3, t4, t5] (i + 1), py [t0, t1, t2, t3, t4, t5] (i + 1), sd [t0, t1, t2, t3, t4, t5]]) (fun i => [w3.heap.size, w.heap.size, ba, bb, bi][i]?) ⟨Sx.tmI, Sx.boxesHp Sx.bxI⟩ { tmps := #[.agg #[.int .i64 px0, .int .i64 py0], .agg #[.int .i64 t0, .int .i64 t1, .int .i64 t2, .int .i64 t3, .int .i64 t4, .int .i64 t5], .pointer (some ⟨w.heap.size, 0, none⟩), .pointer (some ⟨w.heap.size + 1, 0, none⟩), .int .i64 0, .int .i64 0, .pointer (some ⟨w3.heap.size, 0, none⟩), sideV ba bb bi, .bool false, .agg #[.int .i64 px0, .int .i64 py0], .slice (some ⟨w.heap.size + 1 + 1, 0, none⟩) 1 1, .bool true, .bool false, .bool false, .agg #[.int .i64 t0, .int .i64 t1, .int .i64 t2, .int .i64 t3, .int .i64 t4, .int .i64 t5], .bool true, .bool false, .agg #[.int .i64 t0, .int .i64 t1, .int .i64 t2, .int .i64 t3, .int .i64 t4, .int .i64 t5], .func (.func 41) #[] #[.pointer (some ⟨w3.heap.size + 1, 0, none⟩)], sideV ba bb bi, undef, undef, undef, undef, undef, undef, undef], defers := [] } W W := by
          refine ⟨?_, Sx.boxesAt_hrel (xs := Sx.bxI) (bs := [w3.heap.size, w.heap.size, ba, bb, bi]) ⟨⟨_, hL, _, _, rfl, rfl, rfl⟩, ⟨_, hP, _, _, rfl, rfl, _, _, rfl, rfl, rfl⟩, ⟨_, h1, _, _, rfl, rfl, _, _, rfl, rfl, rfl⟩, ⟨_, h2, _, _, rfl, rfl, _, _, rfl, rfl, rfl⟩, ⟨_, h3, _, _, rfl, rfl, rfl⟩, trivial⟩ ?_, fun n hn => ?_⟩
          · exact ⟨_, _, rfl, trivial, _, _, rfl, trivial, _, _, rfl, ⟨_, rfl, rfl⟩, _, _, rfl, trivial, _, _, rfl, trivial, _, _, rfl, trivial, _, _, rfl, ⟨_, rfl, rfl⟩, _, _, rfl, ⟨_, _, rfl, rfl, _, _, rfl, ⟨_, rfl, rfl⟩, _, _, rfl, ⟨_, rfl, rfl⟩, _, _, rfl, ⟨_, rfl, rfl⟩, rfl⟩, _, _, rfl, trivial, _, _, rfl, trivial, _, _, rfl, trivial, _, _, rfl, trivial, _, _, rfl, trivial, _, _, rfl, trivial, _, _, rfl, trivial, _, _, rfl, trivial, _, _, rfl, trivial, _, _, rfl, trivial, _, _, rfl, trivial, _, _, rfl, trivial, _, _, rfl, trivial, _, _, rfl, trivial, _, _, rfl, trivial, _, _, rfl, trivial, _, _, rfl, trivial, _, _, rfl, trivial, _, _, rfl, trivial, rfl⟩
          · simp only [List.nodup_cons, List.mem_cons, List.not_mem_nil, or_false, not_or]
            refine ⟨⟨?_, ?_, ?_, ?_⟩, ⟨?_, ?_, ?_⟩, ⟨?_, ?_⟩, ?_, not_false, List.nodup_nil⟩ <;> omega
          · simp [Sx.boxesHp, Sx.bxI] at hn
            exact List.getElem?_eq_none (by simpa using hn)
        refine Sx.last_in (id := 8) hx (Sx.acall_sound hx 18) Sx.nd_I Sx.ed_I Sx.ab_I Sx.gl_I (by kernel_rfl) hS (Gr.refl W) (Nat.le_refl _) (Nat.le_refl _) h4 ?_
        intro a' w' ρ' k1 k2 k3 k4 ops ho
        have v1 := Sx.rel_ev (x := .tmp 6) k2.tm h5.1
        have v2 := Sx.rel_ev (x := .tmp 24) k2.tm h5.2
        obtain ⟨b, hb, v1⟩ := v1
        have hbL : b = w3.heap.size := by
          have := k1 0 _ (rfl : [w3.heap.size, w.heap.size, ba, bb, bi][0]? = some w3.heap.size)
          rw [hb] at this; simpa using this
        subst hbL
        have g1 : Gr W w' := k3
        refine Sx.wpOp_store ho rfl rfl (hx.tyf (t := 3) rfl).size v1 v2 rfl rfl (hL.gr g1) ?_
        intro w5 hB5 hk5
        have hv : (Sx.E.at [z, px0, py0, px [t0, t1, t2, t3, t4, t5] i, py [t0, t1, t2, t3, t4, t5] i, px [t0, t1, t2, t3, t4, t5] (i + 1), py [t0, t1, t2, t3, t4, t5] (i + 1), sd [t0, t1, t2, t3, t4, t5]]).i Sx.eI = mn [t0, t1, t2, t3, t4, t5] px0 py0 (i + 1) := by
          have hp := ed_b [t0, t1, t2, t3, t4, t5] i px0 py0
          have hw : IntKind.i64.wrap (ed [t0, t1, t2, t3, t4, t5] i px0 py0) = ed [t0, t1, t2, t3, t4, t5] i px0 py0 := Sx.wr (by omega)
          show (if decide (IntKind.i64.wrap (ed [t0, t1, t2, t3, t4, t5] i px0 py0) < z) = true then IntKind.i64.wrap (ed [t0, t1, t2, t3, t4, t5] i px0 py0) else z) = min (mn [t0, t1, t2, t3, t4, t5] px0 py0 i) (ed [t0, t1, t2, t3, t4, t5] i px0 py0)
          rw [hw, hm]
          simp only [decide_eq_true_eq]
          split <;> omega
        rw [hv] at hB5
        show Ks (fun k => k = w3.heap.size) W w5 ∧ Bx w5 w3.heap.size 3 [.int .i64 (mn [t0, t1, t2, t3, t4, t5] px0 py0 (i + 1))] ∧ Bx w5 w.heap.size 24 [.int .i64 px0, .int .i64 py0]
        exact ⟨(Ks.of_gr g1).trans hk5, hB5, (hP.gr g1).ks hk5 (by omega)⟩
      case done =>
        rintro W ⟨hL, hP⟩ hks hK
        have c0 := hL.blk.cell 0 rfl
        gi_wp2
        refine ⟨by simp, .inl ⟨_, _, rfl, run_takeDeferred hK, ?_⟩⟩
        refine ⟨_, results_tmp2 rfl _ _ _, ?_⟩
        have hb3 := mn_b [t0, t1, t2, t3, t4, t5] px0 py0 3
        have hw : wrap64 (mn [t0, t1, t2, t3, t4, t5] px0 py0 3 + 1) = Sx.inV [px0, py0, t0, t1, t2, t3, t4, t5] := by
          rw [IntWalk.wrap64_in _ (by omega)]; exact mn_3 t0 t1 t2 t3 t4 t5 px0 py0
        refine ⟨?_, ?_⟩
        · show Ending.returned (.tuple #[.int .i64 (wrap64 (mn [t0, t1, t2, t3, t4, t5] px0 py0 3 + 1)), .int .i64 0]) = _
          rw [hw, E1.out, E2.out]
        · have hk2 : Ks (fun k => k = w3.heap.size ∨ k = w4.heap.size ∨ k = w4.heap.size + 1) w4 (W.putObj w4.heap.size (.deferred none)) := hks.trans (Ks.put (S := fun k => k = w3.heap.size ∨ k = w4.heap.size ∨ k = w4.heap.size + 1) (.inr (.inl rfl)) _)
          exact hk2.gr G4.out (fun k hk => by omega)
      case stop => rintro c W h; exact h.elim
end Mt
end Go.Proofs.Ytfkgjpdipdllhaa
