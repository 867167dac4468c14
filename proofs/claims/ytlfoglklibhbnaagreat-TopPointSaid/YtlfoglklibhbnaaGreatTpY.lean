/- Parts of the proof of TopPoint. No condition of their own. -/
import Derived.Test.YtlfoglklibhbnaaGreatTpK
import Derived.Test.YtlfoglklibhbnaaGreatTpN
import Derived.KernelRfl
import Derived.Test.YtlfoglklibhbnaaGreatTpX
set_option linter.unusedVariables false
set_option linter.unusedSimpArgs false
namespace Go.Proofs.YtlfoglklibhbnaaGreat.Sx
open Go.RowKit
def codesA3 : Code → Option (Code × Code × Code × Code)
 | .seq _ (.seq (.seq _ (.block _ (.rangeFunc _ _ _ (.block _ (.seq A (.seq B (.seq C D)))))) ) _) => some (A, B, C, D)
 | _ => none
noncomputable def cA3 : Code × Code × Code × Code := ((Tryz.f96.body.bind codesA3).getD (.skip, .skip, .skip, .skip))
def tmA3 : List AV := [.any, .any, .any, .any, .ptr (some (1, 0)), .ptr (some (2, 0)), .ptr (some (0, 0)), .func (.func 136) [] [.ptr (some (4, 0)), .ptr (some (5, 0)), .ptr (some (6, 0))]] ++ List.replicate 22 .any
def bxA3 : List (Option (List AV × TypeId)) := [none, some ([.int (.var 0)], 3), some ([.slice (some (3, 0)) 3 3], 23), some (vars 6 6, 39), some (vars 1 2, 38), some (vars 3 2, 38), some (vars 5 1, 3)]
def lookA3 (r : Ex × St) : Bool × Option AV × Option AV := (match r.1 with | .normal => true | _ => false, r.2.tm[29]?, r.2.tm[6]?)
noncomputable def runA3 : Tree (Bool × Option AV × Option AV) := (aexec cm1 (acall cm1 18) 100002 (cA3.1.seq (cA3.2.1.seq cA3.2.2.1)) [] ⟨tmA3, boxesHp2 bxA3⟩).map lookA3
def eA3 : SE := (.ite (.ite (.lt (.mul (.var 5) (.app 11 0 (.cons (.var 1) (.cons (.var 2) (.cons (.var 3) (.cons (.var 4) (.cons (.var 6) (.cons (.var 7) .nil)))))))) (.var 0)) (.lt (.mul (.var 5) (.app 11 0 (.cons (.var 1) (.cons (.var 2) (.cons (.var 3) (.cons (.var 4) (.cons (.var 8) (.cons (.var 9) .nil)))))))) (.var 0)) (.blit false)) (.lt (.mul (.var 5) (.app 11 0 (.cons (.var 1) (.cons (.var 2) (.cons (.var 3) (.cons (.var 4) (.cons (.var 10) (.cons (.var 11) .nil)))))))) (.var 0)) (.blit false))
theorem k_A3 : runA3 = .leaf (true, some (.bool eA3), some (.ptr (some (0, 0)))) := by kernel_rfl
theorem nd_A3 : noDef cA3.1 = true ∧ noDef cA3.2.1 = true ∧ noDef cA3.2.2.1 = true := ⟨by kernel_rfl, by kernel_rfl, by kernel_rfl⟩
end Go.Proofs.YtlfoglklibhbnaaGreat.Sx
namespace Go.Proofs.YtlfoglklibhbnaaGreat
open Go.RowKit Go.Shelf
attribute [local go_sem] Oper.semAt_some
namespace Mt
set_option maxHeartbeats 4000000 in
set_option maxRecDepth 100000 in
theorem apart3_any (t0 t1 t2 t3 t4 t5 below q0 q1 q2 q3 q4 q5 : Int) (bp : Nat) (w : World) (hq : Bx w bp 39 [.int .i64 q0, .int .i64 q1, .int .i64 q2, .int .i64 q3, .int .i64 q4, .int .i64 q5]) :
  Calls Tryz.prog 96 #[.agg #[.int .i64 t0, .int .i64 t1, .int .i64 t2, .int .i64 t3, .int .i64 t4, .int .i64 t5], .int .i64 below, .slice (some ⟨bp, 0, none⟩) 3 3] w
   fun e w' => e = .returned (.bool (Sx.apB [t0, t1, t2, t3, t4, t5] below [q0, q1, q2, q3, q4, q5])) ∧ Gr w w' := by
 refine (callsIn_wide (n := 9)).1 ?_
 refine callsIn_of_wp_marks Tryz.func96 rfl trivial ?_ rfl
 simp only [Tryz.ntmps96, List.size_toArray, List.length_cons, List.length_nil, Nat.reduceAdd, Nat.reduceSub, Array.replicate_succ, Array.replicate_zero, List.push_toArray, List.append_toArray, List.nil_append, List.cons_append]
 have HQ := Lib.hid hq; clear hq
 gi_wp2
 refine ⟨trivial, ?_⟩
 refine (callsIn_wide.2 (edges_any t0 t1 t2 t3 t4 t5 _)).mono ?_
 rintro e w4 ⟨rfl, hbe, hg4⟩
 have g4 : Gr w w4 := ((((((Gr.refl w).alloc _).alloc _).alloc _).alloc _)).trans hg4
 have bQ : Bx w4 bp 39 [.int .i64 q0, .int .i64 q1, .int .i64 q2, .int .i64 q3, .int .i64 q4, .int .i64 q5] := HQ.out.gr g4
 have bW : Bx w4 (w.heap.size + 1) 3 [.int .i64 below] := (((Bx.new (w := w.alloc (.cells #[.int .i64 t0, .int .i64 t1, .int .i64 t2, .int .i64 t3, .int .i64 t4, .int .i64 t5] 39)) (vs := [.int .i64 below]) (T := 3) (by simp)).alloc _).alloc _).gr hg4
 have bS : Bx w4 (w.heap.size + 1 + 1) 23 [.slice (some ⟨bp, 0, none⟩) 3 3] := ((Bx.new (w := (w.alloc (.cells #[.int .i64 t0, .int .i64 t1, .int .i64 t2, .int .i64 t3, .int .i64 t4, .int .i64 t5] 39)).alloc (.cells #[.int .i64 below] 3)) (vs := [.slice (some ⟨bp, 0, none⟩) 3 3]) (T := 23) (by simp)).alloc _).gr hg4
 have bR : Bx w4 (w.heap.size + 1 + 1 + 1) 4 [.bool false] := (Bx.new (w := ((w.alloc (.cells #[.int .i64 t0, .int .i64 t1, .int .i64 t2, .int .i64 t3, .int .i64 t4, .int .i64 t5] 39)).alloc (.cells #[.int .i64 below] 3)).alloc (.cells #[.slice (some ⟨bp, 0, none⟩) 3 3] 23)) (vs := [.bool false]) (T := 4) (by simp)).gr hg4
 simp only [World.size_alloc] at hbe ⊢
 have s4 : w.heap.size + 1 + 1 + 1 + 1 < w4.heap.size := hbe.1
 have lq := HQ.out.lt
 have HE := Lib.hid hbe; have G4 := Lib.hid g4; have BQ := Lib.hid bQ; have BW := Lib.hid bW; have BS := Lib.hid bS; have BR := Lib.hid bR
 clear hbe hg4 g4 bQ bW bS bR
 gi_wp2
 refine rf_law (n := 9) (gf := 134) (lb := #[.pointer (some ⟨w.heap.size + 1 + 1 + 1 + 1, 0, none⟩)]) rfl (enters_of Tryz.func134 (by kernel_rfl) rfl) 3 (PxE (w4.heap.size + 2) [t0, t1, t2, t3, t4, t5]) (fun k => k = w.heap.size + 1 + 1 + 1) ?hS ?hit
  (fun i W => (∀ j, j < i → Sx.outE [t0, t1, t2, t3, t4, t5] j below (Sx.ptsOf [q0, q1, q2, q3, q4, q5]) = false) ∧ Bx W (w.heap.size + 1 + 1 + 1) 4 [.bool false] ∧ Bx W (w.heap.size + 1) 3 [.int .i64 below] ∧ Bx W (w.heap.size + 1 + 1) 23 [.slice (some ⟨bp, 0, none⟩) 3 3] ∧ Bx W bp 39 [.int .i64 q0, .int .i64 q1, .int .i64 q2, .int .i64 q3, .int .i64 q4, .int .i64 q5])
  (fun c W => c = .ret ∧ (∃ j, j < 3 ∧ Sx.outE [t0, t1, t2, t3, t4, t5] j below (Sx.ptsOf [q0, q1, q2, q3, q4, q5]) = true) ∧ Bx W (w.heap.size + 1 + 1 + 1) 4 [.bool true]) ?hI ?hIx ?hPx ?hsz ?h0
  (fun xs => { tmps := #[.agg #[.int .i64 t0, .int .i64 t1, .int .i64 t2, .int .i64 t3, .int .i64 t4, .int .i64 t5], .int .i64 below, .slice (some ⟨bp, 0, none⟩) 3 3, .pointer (some ⟨w.heap.size, 0, none⟩), .pointer (some ⟨w.heap.size + 1, 0, none⟩), .pointer (some ⟨w.heap.size + 1 + 1, 0, none⟩), .pointer (some ⟨w.heap.size + 1 + 1 + 1, 0, none⟩), xs.getD 0 undef, undef, undef, undef, .agg #[.int .i64 t0, .int .i64 t1, .int .i64 t2, .int .i64 t3, .int .i64 t4, .int .i64 t5], .func (.func 134) #[] #[.pointer (some ⟨w.heap.size + 1 + 1 + 1 + 1, 0, none⟩)], xs.getD 0 undef, undef, undef, undef, undef, undef, undef, undef, undef, undef, undef, undef, undef, undef, undef, undef, undef], defers := [] }) ?assign ?body ?done ?stop
 case hS => rintro k rfl; omega
 case hit => exact fun W1 hg1 hs1 => edges_iter _ _ t0 t1 t2 t3 t4 t5 _ W1 (HE.out.gr hg1) (by omega) (fun k hk => by omega) hs1
 case hI =>
  rintro i A B ⟨h0, h1, h2, h3, h4⟩ hk hs
  exact ⟨h0, h1.ks hk (by omega), h2.ks hk (by omega), h3.ks hk (by omega), h4.ks hk (by omega)⟩
 case hIx =>
  rintro c A B ⟨h0, h1, h2⟩ hk hs
  exact ⟨h0, h1, h2.ks hk (by omega)⟩
 case hPx => exact fun i xs A B h hk => h.later hk (fun k h => by omega)
 case hsz => rintro i xs A ⟨ba, bb, bi, rfl, _⟩; rfl
 case h0 => exact ⟨fun j hj => by omega, BR.out, BW.out, BS.out, BQ.out⟩
 case assign =>
  rintro l m i xs W K ⟨ba, bb, bi, rfl, _⟩ hK
  gi_wp2
  exact hK
 case body =>
  rintro l m i xs W hi ⟨hno, hR, hW, hSl, hQ⟩ ⟨ba, bb, bi, rfl, h1, h2, h3, hb1, hb2, hb3⟩ hks hsz
  have z1 := hR.lt; have z2 := hQ.lt; have z3 := hSl.lt; have z4 := hW.lt
  refine wpIn_block ?_
  have hx : Sx.CxOk Tryz.prog (Sx.E.at [below, px [t0, t1, t2, t3, t4, t5] i, py [t0, t1, t2, t3, t4, t5] i, px [t0, t1, t2, t3, t4, t5] (i + 1), py [t0, t1, t2, t3, t4, t5] (i + 1), sd [t0, t1, t2, t3, t4, t5], q0, q1, q2, q3, q4, q5]) W Sx.cm1 := Sx.cm1_ok W _ trivial
  obtain ⟨r, h4, h5⟩ := Sx.sel_map (σ := Sx.E.at [below, px [t0, t1, t2, t3, t4, t5] i, py [t0, t1, t2, t3, t4, t5] i, px [t0, t1, t2, t3, t4, t5] (i + 1), py [t0, t1, t2, t3, t4, t5] (i + 1), sd [t0, t1, t2, t3, t4, t5], q0, q1, q2, q3, q4, q5]) (by rw [show Sx.runA3 = _ from Sx.k_A3]; rfl : Sx.runA3.sel _ = some (true, some (.bool Sx.eA3), some (.ptr (some (0, 0)))))
  obtain ⟨ex, s3⟩ := r
  simp only [Sx.lookA3, Prod.mk.injEq] at h5
  obtain ⟨h5a, h5b, h5c⟩ := h5
  have hex : ex = .normal := by cases ex <;> first | rfl | cases h5a
  subst hex
  have hS : Sx.SRel (Sx.E.at [below, px [t0, t1, t2, t3, t4, t5] i, py [t0, t1, t2, t3, t4, t5] i, px [t0, t1, t2, t3, t4, t5] (i + 1), py [t0, t1, t2, t3, t4, t5] (i + 1), sd [t0, t1, t2, t3, t4, t5], q0, q1, q2, q3, q4, q5]) (fun i => [w.heap.size + 1 + 1 + 1, w.heap.size + 1, w.heap.size + 1 + 1, bp, ba, bb, bi][i]?) ⟨Sx.tmA3, Sx.boxesHp2 Sx.bxA3⟩ { tmps := #[.agg #[.int .i64 t0, .int .i64 t1, .int .i64 t2, .int .i64 t3, .int .i64 t4, .int .i64 t5], .int .i64 below, .slice (some ⟨bp, 0, none⟩) 3 3, .pointer (some ⟨w.heap.size, 0, none⟩), .pointer (some ⟨w.heap.size + 1, 0, none⟩), .pointer (some ⟨w.heap.size + 1 + 1, 0, none⟩), .pointer (some ⟨w.heap.size + 1 + 1 + 1, 0, none⟩), sideV ba bb bi, undef, undef, undef, .agg #[.int .i64 t0, .int .i64 t1, .int .i64 t2, .int .i64 t3, .int .i64 t4, .int .i64 t5], .func (.func 134) #[] #[.pointer (some ⟨w.heap.size + 1 + 1 + 1 + 1, 0, none⟩)], sideV ba bb bi, undef, undef, undef, undef, undef, undef, undef, undef, undef, undef, undef, undef, undef, undef, undef, undef], defers := [] } W W := by
   refine ⟨⟨_, _, rfl, trivial, _, _, rfl, trivial, _, _, rfl, trivial, _, _, rfl, trivial, _, _, rfl, ⟨_, rfl, rfl⟩, _, _, rfl, ⟨_, rfl, rfl⟩, _, _, rfl, ⟨_, rfl, rfl⟩, _, _, rfl, ⟨_, _, rfl, rfl, _, _, rfl, ⟨_, rfl, rfl⟩, _, _, rfl, ⟨_, rfl, rfl⟩, _, _, rfl, ⟨_, rfl, rfl⟩, rfl⟩, _, _, rfl, trivial, _, _, rfl, trivial, _, _, rfl, trivial, _, _, rfl, trivial, _, _, rfl, trivial, _, _, rfl, trivial, _, _, rfl, trivial, _, _, rfl, trivial, _, _, rfl, trivial, _, _, rfl, trivial, _, _, rfl, trivial, _, _, rfl, trivial, _, _, rfl, trivial, _, _, rfl, trivial, _, _, rfl, trivial, _, _, rfl, trivial, _, _, rfl, trivial, _, _, rfl, trivial, _, _, rfl, trivial, _, _, rfl, trivial, _, _, rfl, trivial, _, _, rfl, trivial, rfl⟩, Sx.boxesAt2_hrel (xs := Sx.bxA3) (bs := [w.heap.size + 1 + 1 + 1, w.heap.size + 1, w.heap.size + 1 + 1, bp, ba, bb, bi]) ⟨hR.lt, ⟨_, hW, _, _, rfl, rfl, rfl⟩, ⟨_, hSl, _, _, rfl, ⟨_, rfl, rfl⟩, rfl⟩, ⟨_, hQ, _, _, rfl, rfl, _, _, rfl, rfl, _, _, rfl, rfl, _, _, rfl, rfl, _, _, rfl, rfl, _, _, rfl, rfl, rfl⟩, ⟨_, h1, _, _, rfl, rfl, _, _, rfl, rfl, rfl⟩, ⟨_, h2, _, _, rfl, rfl, _, _, rfl, rfl, rfl⟩, ⟨_, h3, _, _, rfl, rfl, rfl⟩, trivial⟩ ?_, fun n hn => ?_⟩
   ·simp only [List.nodup_cons, List.mem_cons, List.not_mem_nil, or_false, not_or]
    refine ⟨⟨?_, ?_, ?_, ?_, ?_, ?_⟩, ⟨?_, ?_, ?_, ?_, ?_⟩, ⟨?_, ?_, ?_, ?_⟩, ⟨?_, ?_, ?_⟩, ⟨?_, ?_⟩, ?_, not_false, List.nodup_nil⟩ <;> omega
   ·simp [Sx.boxesHp2, Sx.bxA3] at hn
    exact List.getElem?_eq_none (by simpa using hn)
  refine Sx.code_eq (c' := Sx.cA3.1.seq (Sx.cA3.2.1.seq (Sx.cA3.2.2.1.seq Sx.cA3.2.2.2))) (by kernel_rfl) ?_
  refine Sx.seq3_in hx (Sx.acall_sound hx 18) Sx.nd_A3.1 Sx.nd_A3.2.1 Sx.nd_A3.2.2 h4 hS (Gr.refl W) (Nat.le_refl _) (Nat.le_refl _) ?_
  intro a' w' ρ' k1 k2 k3 k4
  have v1 : a'.eval (.tmp 29) = .bool ((Sx.E.at [below, px [t0, t1, t2, t3, t4, t5] i, py [t0, t1, t2, t3, t4, t5] i, px [t0, t1, t2, t3, t4, t5] (i + 1), py [t0, t1, t2, t3, t4, t5] (i + 1), sd [t0, t1, t2, t3, t4, t5], q0, q1, q2, q3, q4, q5]).b Sx.eA3) := Sx.rel_ev (x := .tmp 29) k2.tm h5b
  have v2 := Sx.rel_ev (x := .tmp 6) k2.tm h5c
  obtain ⟨b, hb, v2⟩ := v2
  have hbL : b = w.heap.size + 1 + 1 + 1 := by
   have := k1 0 _ (rfl : [w.heap.size + 1 + 1 + 1, w.heap.size + 1, w.heap.size + 1 + 1, bp, ba, bb, bi][0]? = some (w.heap.size + 1 + 1 + 1))
   rw [hb] at this; simpa using this
  subst hbL
  have g1 : Gr W w' := k3
  have hv : (Sx.E.at [below, px [t0, t1, t2, t3, t4, t5] i, py [t0, t1, t2, t3, t4, t5] i, px [t0, t1, t2, t3, t4, t5] (i + 1), py [t0, t1, t2, t3, t4, t5] (i + 1), sd [t0, t1, t2, t3, t4, t5], q0, q1, q2, q3, q4, q5]).b Sx.eA3 = Sx.outE [t0, t1, t2, t3, t4, t5] i below (Sx.ptsOf [q0, q1, q2, q3, q4, q5]) := by
   have hi3 : i = 0 ∨ i = 1 ∨ i = 2 := by omega
   have he : ∀ x y, ed [t0, t1, t2, t3, t4, t5] i x y = Sx.edq [t0, t1, t2, t3, t4, t5] i x y := fun x y => by rcases hi3 with rfl | rfl | rfl <;> rfl
   have e : ∀ x y, IntKind.i64.wrap (ed [t0, t1, t2, t3, t4, t5] i x y) = Sx.edq [t0, t1, t2, t3, t4, t5] i x y := fun x y => (Sx.wr (by have := ed_b [t0, t1, t2, t3, t4, t5] i x y; omega)).trans (he x y)
   show (if (if decide (IntKind.i64.wrap (ed [t0, t1, t2, t3, t4, t5] i q0 q1) < below) = true then decide (IntKind.i64.wrap (ed [t0, t1, t2, t3, t4, t5] i q2 q3) < below) else false) = true then decide (IntKind.i64.wrap (ed [t0, t1, t2, t3, t4, t5] i q4 q5) < below) else false) = _
   simp only [e, Sx.outE, Sx.ptsOf, List.all_cons, List.all_nil, Bool.and_true]
   generalize decide (Sx.edq [t0, t1, t2, t3, t4, t5] i q0 q1 < below) = d0
   generalize decide (Sx.edq [t0, t1, t2, t3, t4, t5] i q2 q3 < below) = d1
   generalize decide (Sx.edq [t0, t1, t2, t3, t4, t5] i q4 q5 < below) = d2
   cases d0 <;> cases d1 <;> cases d2 <;> rfl
  rw [hv] at v1
  refine Sx.code_eq (c' := Code.cond (.tmp 29) ((Code.region 10 (Sx.regionOf Tryz.f96 10).toArray false).seq .ret) .skip) (by kernel_rfl) ?_
  refine wpIn_cond v1 ?_
  cases ho : Sx.outE [t0, t1, t2, t3, t4, t5] i below (Sx.ptsOf [q0, q1, q2, q3, q4, q5])
  ·simp only [Bool.false_eq_true, if_false]
   refine wpIn_skip ?_
   show Ks (fun k => k = w.heap.size + 1 + 1 + 1) W w' ∧ _
   refine ⟨Ks.of_gr g1, fun j hj => ?_, hR.gr g1, hW.gr g1, hSl.gr g1, hQ.gr g1⟩
   rcases Nat.lt_or_ge j i with h | h
   ·exact hno j h
   ·rw [show j = i by omega]; exact ho
  ·simp only [if_true]
   refine wpIn_seq ?_
   refine Sx.code_eq (c' := Code.region 10 #[(Sx.regionOf Tryz.f96 10).getD 0 ⟨none, .move (.const undef), 0, "", #[], none⟩] false) (by kernel_rfl) ?_
   refine Sx.store_in rfl rfl (hx.tyf (t := 4) rfl).size v2 rfl rfl rfl (hR.gr g1) ?_
   intro w5 hB5 hk5
   refine wpIn_ret ?_
   show Ks (fun k => k = w.heap.size + 1 + 1 + 1) W w5 ∧ _
   exact ⟨(Ks.of_gr g1).trans hk5, rfl, ⟨i, hi, ho⟩, hB5⟩
 case done =>
  rintro W ⟨hno, hR, _⟩ hks hK
  have c0 := hR.blk.cell 0 rfl; have f0 := hR.blk.free 0 rfl
  gi_wp2
  have hb2 : Bx (W.setCell ⟨w.heap.size + 1 + 1 + 1, 0, none⟩ (.bool false)) (w.heap.size + 1 + 1 + 1) 4 [.bool false] := Boxed.set (.bool false) hR
  have hk5 : Ks (fun k => k = w.heap.size + 1 + 1 + 1) W (W.setCell ⟨w.heap.size + 1 + 1 + 1, 0, none⟩ (.bool false)) := ⟨rfl, rfl, rfl, by show W.heap.size ≤ (W.heap.modify _ _).size; rw [Array.size_modify]; exact Nat.le_refl _, fun k _ hk => Below.heap_setCell W _ _ k hk⟩
  have hK2 := (hk5.block w4.heap.size (Array.getElem?_eq_some_iff.1 hK).1 (by omega)).trans hK
  refine ⟨by simp, .inl ⟨_, _, rfl, run_takeDeferred hK2, ?_⟩⟩
  have hks2 := (hks.trans (hk5.mono (fun k h => .inl h))).trans (Ks.put (S := fun k => k = w.heap.size + 1 + 1 + 1 ∨ k = w4.heap.size ∨ k = w4.heap.size + 1) (.inr (.inl rfl)) (.deferred none))
  have hb3 := hb2.ks (Ks.put (S := fun k => k = w4.heap.size) rfl (.deferred none)) (by omega)
  refine ⟨_, Sx.results_cell1 rfl ((Sx.cm1_ok w [] trivial).tyf (t := 4) rfl) rfl rfl hb3, ?_, hks2.gr G4.out (fun k hk => by omega)⟩
  show Ending.returned (.bool false) = _
  rw [show Sx.apB [t0, t1, t2, t3, t4, t5] below [q0, q1, q2, q3, q4, q5] = false by unfold Sx.apB; rw [hno 0 (by omega), hno 1 (by omega), hno 2 (by omega)]; rfl]
 case stop =>
  rintro c W ⟨rfl, ⟨j, hj, ho⟩, hR⟩ hks hK
  gi_wp2
  refine ⟨by simp, .inl ⟨_, _, rfl, run_takeDeferred hK, ?_⟩⟩
  have hks2 := hks.trans (Ks.put (S := fun k => k = w.heap.size + 1 + 1 + 1 ∨ k = w4.heap.size ∨ k = w4.heap.size + 1) (.inr (.inl rfl)) (.deferred none))
  have hb3 := hR.ks (Ks.put (S := fun k => k = w4.heap.size) rfl (.deferred none)) (by omega)
  refine ⟨_, Sx.results_cell1 rfl ((Sx.cm1_ok w [] trivial).tyf (t := 4) rfl) rfl rfl hb3, ?_, hks2.gr G4.out (fun k hk => by omega)⟩
  show Ending.returned (.bool true) = _
  have hj3 : j = 0 ∨ j = 1 ∨ j = 2 := by omega
  rw [show Sx.apB [t0, t1, t2, t3, t4, t5] below [q0, q1, q2, q3, q4, q5] = true by unfold Sx.apB; rcases hj3 with rfl | rfl | rfl <;> simp [ho]]
end Mt
end Go.Proofs.YtlfoglklibhbnaaGreat
namespace Go.Proofs.YtlfoglklibhbnaaGreat.Sx
open Go.RowKit
def codesA4 : Code → Option (Code × Code × Code × Code)
 | .seq _ (.seq (.seq _ (.block _ (.rangeFunc _ _ _ (.block _ (.seq A (.seq B (.seq C D)))))) ) _) => some (A, B, C, D)
 | _ => none
noncomputable def cA4 : Code × Code × Code × Code := ((Tryz.f96.body.bind codesA4).getD (.skip, .skip, .skip, .skip))
def tmA4 : List AV := [.any, .any, .any, .any, .ptr (some (1, 0)), .ptr (some (2, 0)), .ptr (some (0, 0)), .func (.func 136) [] [.ptr (some (4, 0)), .ptr (some (5, 0)), .ptr (some (6, 0))]] ++ List.replicate 22 .any
def bxA4 : List (Option (List AV × TypeId)) := [none, some ([.int (.var 0)], 3), some ([.slice (some (3, 0)) 4 4], 23), some (vars 6 8, 38), some (vars 1 2, 38), some (vars 3 2, 38), some (vars 5 1, 3)]
def lookA4 (r : Ex × St) : Bool × Option AV × Option AV := (match r.1 with | .normal => true | _ => false, r.2.tm[29]?, r.2.tm[6]?)
noncomputable def runA4 : Tree (Bool × Option AV × Option AV) := (aexec cm1 (acall cm1 18) 100002 (cA4.1.seq (cA4.2.1.seq cA4.2.2.1)) [] ⟨tmA4, boxesHp2 bxA4⟩).map lookA4
def eA4 : SE := (.ite (.ite (.ite (.lt (.mul (.var 5) (.app 11 0 (.cons (.var 1) (.cons (.var 2) (.cons (.var 3) (.cons (.var 4) (.cons (.var 6) (.cons (.var 7) .nil)))))))) (.var 0)) (.lt (.mul (.var 5) (.app 11 0 (.cons (.var 1) (.cons (.var 2) (.cons (.var 3) (.cons (.var 4) (.cons (.var 8) (.cons (.var 9) .nil)))))))) (.var 0)) (.blit false)) (.lt (.mul (.var 5) (.app 11 0 (.cons (.var 1) (.cons (.var 2) (.cons (.var 3) (.cons (.var 4) (.cons (.var 10) (.cons (.var 11) .nil)))))))) (.var 0)) (.blit false)) (.lt (.mul (.var 5) (.app 11 0 (.cons (.var 1) (.cons (.var 2) (.cons (.var 3) (.cons (.var 4) (.cons (.var 12) (.cons (.var 13) .nil)))))))) (.var 0)) (.blit false))
theorem k_A4 : runA4 = .leaf (true, some (.bool eA4), some (.ptr (some (0, 0)))) := by kernel_rfl
theorem nd_A4 : noDef cA4.1 = true ∧ noDef cA4.2.1 = true ∧ noDef cA4.2.2.1 = true := ⟨by kernel_rfl, by kernel_rfl, by kernel_rfl⟩
end Go.Proofs.YtlfoglklibhbnaaGreat.Sx
namespace Go.Proofs.YtlfoglklibhbnaaGreat
open Go.RowKit Go.Shelf
attribute [local go_sem] Oper.semAt_some
namespace Mt
set_option maxHeartbeats 4000000 in
set_option maxRecDepth 100000 in
theorem apart4_any (t0 t1 t2 t3 t4 t5 below q0 q1 q2 q3 q4 q5 q6 q7 : Int) (bp : Nat) (w : World) (hq : Bx w bp 38 [.int .i64 q0, .int .i64 q1, .int .i64 q2, .int .i64 q3, .int .i64 q4, .int .i64 q5, .int .i64 q6, .int .i64 q7]) :
  Calls Tryz.prog 96 #[.agg #[.int .i64 t0, .int .i64 t1, .int .i64 t2, .int .i64 t3, .int .i64 t4, .int .i64 t5], .int .i64 below, .slice (some ⟨bp, 0, none⟩) 4 4] w
   fun e w' => e = .returned (.bool (Sx.apB [t0, t1, t2, t3, t4, t5] below [q0, q1, q2, q3, q4, q5, q6, q7])) ∧ Gr w w' := by
 refine (callsIn_wide (n := 9)).1 ?_
 refine callsIn_of_wp_marks Tryz.func96 rfl trivial ?_ rfl
 simp only [Tryz.ntmps96, List.size_toArray, List.length_cons, List.length_nil, Nat.reduceAdd, Nat.reduceSub, Array.replicate_succ, Array.replicate_zero, List.push_toArray, List.append_toArray, List.nil_append, List.cons_append]
 have HQ := Lib.hid hq; clear hq
 gi_wp2
 refine ⟨trivial, ?_⟩
 refine (callsIn_wide.2 (edges_any t0 t1 t2 t3 t4 t5 _)).mono ?_
 rintro e w4 ⟨rfl, hbe, hg4⟩
 have g4 : Gr w w4 := ((((((Gr.refl w).alloc _).alloc _).alloc _).alloc _)).trans hg4
 have bQ : Bx w4 bp 38 [.int .i64 q0, .int .i64 q1, .int .i64 q2, .int .i64 q3, .int .i64 q4, .int .i64 q5, .int .i64 q6, .int .i64 q7] := HQ.out.gr g4
 have bW : Bx w4 (w.heap.size + 1) 3 [.int .i64 below] := (((Bx.new (w := w.alloc (.cells #[.int .i64 t0, .int .i64 t1, .int .i64 t2, .int .i64 t3, .int .i64 t4, .int .i64 t5] 39)) (vs := [.int .i64 below]) (T := 3) (by simp)).alloc _).alloc _).gr hg4
 have bS : Bx w4 (w.heap.size + 1 + 1) 23 [.slice (some ⟨bp, 0, none⟩) 4 4] := ((Bx.new (w := (w.alloc (.cells #[.int .i64 t0, .int .i64 t1, .int .i64 t2, .int .i64 t3, .int .i64 t4, .int .i64 t5] 39)).alloc (.cells #[.int .i64 below] 3)) (vs := [.slice (some ⟨bp, 0, none⟩) 4 4]) (T := 23) (by simp)).alloc _).gr hg4
 have bR : Bx w4 (w.heap.size + 1 + 1 + 1) 4 [.bool false] := (Bx.new (w := ((w.alloc (.cells #[.int .i64 t0, .int .i64 t1, .int .i64 t2, .int .i64 t3, .int .i64 t4, .int .i64 t5] 39)).alloc (.cells #[.int .i64 below] 3)).alloc (.cells #[.slice (some ⟨bp, 0, none⟩) 4 4] 23)) (vs := [.bool false]) (T := 4) (by simp)).gr hg4
 simp only [World.size_alloc] at hbe ⊢
 have s4 : w.heap.size + 1 + 1 + 1 + 1 < w4.heap.size := hbe.1
 have lq := HQ.out.lt
 have HE := Lib.hid hbe; have G4 := Lib.hid g4; have BQ := Lib.hid bQ; have BW := Lib.hid bW; have BS := Lib.hid bS; have BR := Lib.hid bR
 clear hbe hg4 g4 bQ bW bS bR
 gi_wp2
 refine rf_law (n := 9) (gf := 134) (lb := #[.pointer (some ⟨w.heap.size + 1 + 1 + 1 + 1, 0, none⟩)]) rfl (enters_of Tryz.func134 (by kernel_rfl) rfl) 3 (PxE (w4.heap.size + 2) [t0, t1, t2, t3, t4, t5]) (fun k => k = w.heap.size + 1 + 1 + 1) ?hS ?hit
  (fun i W => (∀ j, j < i → Sx.outE [t0, t1, t2, t3, t4, t5] j below (Sx.ptsOf [q0, q1, q2, q3, q4, q5, q6, q7]) = false) ∧ Bx W (w.heap.size + 1 + 1 + 1) 4 [.bool false] ∧ Bx W (w.heap.size + 1) 3 [.int .i64 below] ∧ Bx W (w.heap.size + 1 + 1) 23 [.slice (some ⟨bp, 0, none⟩) 4 4] ∧ Bx W bp 38 [.int .i64 q0, .int .i64 q1, .int .i64 q2, .int .i64 q3, .int .i64 q4, .int .i64 q5, .int .i64 q6, .int .i64 q7])
  (fun c W => c = .ret ∧ (∃ j, j < 3 ∧ Sx.outE [t0, t1, t2, t3, t4, t5] j below (Sx.ptsOf [q0, q1, q2, q3, q4, q5, q6, q7]) = true) ∧ Bx W (w.heap.size + 1 + 1 + 1) 4 [.bool true]) ?hI ?hIx ?hPx ?hsz ?h0
  (fun xs => { tmps := #[.agg #[.int .i64 t0, .int .i64 t1, .int .i64 t2, .int .i64 t3, .int .i64 t4, .int .i64 t5], .int .i64 below, .slice (some ⟨bp, 0, none⟩) 4 4, .pointer (some ⟨w.heap.size, 0, none⟩), .pointer (some ⟨w.heap.size + 1, 0, none⟩), .pointer (some ⟨w.heap.size + 1 + 1, 0, none⟩), .pointer (some ⟨w.heap.size + 1 + 1 + 1, 0, none⟩), xs.getD 0 undef, undef, undef, undef, .agg #[.int .i64 t0, .int .i64 t1, .int .i64 t2, .int .i64 t3, .int .i64 t4, .int .i64 t5], .func (.func 134) #[] #[.pointer (some ⟨w.heap.size + 1 + 1 + 1 + 1, 0, none⟩)], xs.getD 0 undef, undef, undef, undef, undef, undef, undef, undef, undef, undef, undef, undef, undef, undef, undef, undef, undef], defers := [] }) ?assign ?body ?done ?stop
 case hS => rintro k rfl; omega
 case hit => exact fun W1 hg1 hs1 => edges_iter _ _ t0 t1 t2 t3 t4 t5 _ W1 (HE.out.gr hg1) (by omega) (fun k hk => by omega) hs1
 case hI =>
  rintro i A B ⟨h0, h1, h2, h3, h4⟩ hk hs
  exact ⟨h0, h1.ks hk (by omega), h2.ks hk (by omega), h3.ks hk (by omega), h4.ks hk (by omega)⟩
 case hIx =>
  rintro c A B ⟨h0, h1, h2⟩ hk hs
  exact ⟨h0, h1, h2.ks hk (by omega)⟩
 case hPx => exact fun i xs A B h hk => h.later hk (fun k h => by omega)
 case hsz => rintro i xs A ⟨ba, bb, bi, rfl, _⟩; rfl
 case h0 => exact ⟨fun j hj => by omega, BR.out, BW.out, BS.out, BQ.out⟩
 case assign =>
  rintro l m i xs W K ⟨ba, bb, bi, rfl, _⟩ hK
  gi_wp2
  exact hK
 case body =>
  rintro l m i xs W hi ⟨hno, hR, hW, hSl, hQ⟩ ⟨ba, bb, bi, rfl, h1, h2, h3, hb1, hb2, hb3⟩ hks hsz
  have z1 := hR.lt; have z2 := hQ.lt; have z3 := hSl.lt; have z4 := hW.lt
  refine wpIn_block ?_
  have hx : Sx.CxOk Tryz.prog (Sx.E.at [below, px [t0, t1, t2, t3, t4, t5] i, py [t0, t1, t2, t3, t4, t5] i, px [t0, t1, t2, t3, t4, t5] (i + 1), py [t0, t1, t2, t3, t4, t5] (i + 1), sd [t0, t1, t2, t3, t4, t5], q0, q1, q2, q3, q4, q5, q6, q7]) W Sx.cm1 := Sx.cm1_ok W _ trivial
  obtain ⟨r, h4, h5⟩ := Sx.sel_map (σ := Sx.E.at [below, px [t0, t1, t2, t3, t4, t5] i, py [t0, t1, t2, t3, t4, t5] i, px [t0, t1, t2, t3, t4, t5] (i + 1), py [t0, t1, t2, t3, t4, t5] (i + 1), sd [t0, t1, t2, t3, t4, t5], q0, q1, q2, q3, q4, q5, q6, q7]) (by rw [show Sx.runA4 = _ from Sx.k_A4]; rfl : Sx.runA4.sel _ = some (true, some (.bool Sx.eA4), some (.ptr (some (0, 0)))))
  obtain ⟨ex, s3⟩ := r
  simp only [Sx.lookA4, Prod.mk.injEq] at h5
  obtain ⟨h5a, h5b, h5c⟩ := h5
  have hex : ex = .normal := by cases ex <;> first | rfl | cases h5a
  subst hex
  have hS : Sx.SRel (Sx.E.at [below, px [t0, t1, t2, t3, t4, t5] i, py [t0, t1, t2, t3, t4, t5] i, px [t0, t1, t2, t3, t4, t5] (i + 1), py [t0, t1, t2, t3, t4, t5] (i + 1), sd [t0, t1, t2, t3, t4, t5], q0, q1, q2, q3, q4, q5, q6, q7]) (fun i => [w.heap.size + 1 + 1 + 1, w.heap.size + 1, w.heap.size + 1 + 1, bp, ba, bb, bi][i]?) ⟨Sx.tmA4, Sx.boxesHp2 Sx.bxA4⟩ { tmps := #[.agg #[.int .i64 t0, .int .i64 t1, .int .i64 t2, .int .i64 t3, .int .i64 t4, .int .i64 t5], .int .i64 below, .slice (some ⟨bp, 0, none⟩) 4 4, .pointer (some ⟨w.heap.size, 0, none⟩), .pointer (some ⟨w.heap.size + 1, 0, none⟩), .pointer (some ⟨w.heap.size + 1 + 1, 0, none⟩), .pointer (some ⟨w.heap.size + 1 + 1 + 1, 0, none⟩), sideV ba bb bi, undef, undef, undef, .agg #[.int .i64 t0, .int .i64 t1, .int .i64 t2, .int .i64 t3, .int .i64 t4, .int .i64 t5], .func (.func 134) #[] #[.pointer (some ⟨w.heap.size + 1 + 1 + 1 + 1, 0, none⟩)], sideV ba bb bi, undef, undef, undef, undef, undef, undef, undef, undef, undef, undef, undef, undef, undef, undef, undef, undef], defers := [] } W W := by
   refine ⟨⟨_, _, rfl, trivial, _, _, rfl, trivial, _, _, rfl, trivial, _, _, rfl, trivial, _, _, rfl, ⟨_, rfl, rfl⟩, _, _, rfl, ⟨_, rfl, rfl⟩, _, _, rfl, ⟨_, rfl, rfl⟩, _, _, rfl, ⟨_, _, rfl, rfl, _, _, rfl, ⟨_, rfl, rfl⟩, _, _, rfl, ⟨_, rfl, rfl⟩, _, _, rfl, ⟨_, rfl, rfl⟩, rfl⟩, _, _, rfl, trivial, _, _, rfl, trivial, _, _, rfl, trivial, _, _, rfl, trivial, _, _, rfl, trivial, _, _, rfl, trivial, _, _, rfl, trivial, _, _, rfl, trivial, _, _, rfl, trivial, _, _, rfl, trivial, _, _, rfl, trivial, _, _, rfl, trivial, _, _, rfl, trivial, _, _, rfl, trivial, _, _, rfl, trivial, _, _, rfl, trivial, _, _, rfl, trivial, _, _, rfl, trivial, _, _, rfl, trivial, _, _, rfl, trivial, _, _, rfl, trivial, _, _, rfl, trivial, rfl⟩, Sx.boxesAt2_hrel (xs := Sx.bxA4) (bs := [w.heap.size + 1 + 1 + 1, w.heap.size + 1, w.heap.size + 1 + 1, bp, ba, bb, bi]) ⟨hR.lt, ⟨_, hW, _, _, rfl, rfl, rfl⟩, ⟨_, hSl, _, _, rfl, ⟨_, rfl, rfl⟩, rfl⟩, ⟨_, hQ, _, _, rfl, rfl, _, _, rfl, rfl, _, _, rfl, rfl, _, _, rfl, rfl, _, _, rfl, rfl, _, _, rfl, rfl, _, _, rfl, rfl, _, _, rfl, rfl, rfl⟩, ⟨_, h1, _, _, rfl, rfl, _, _, rfl, rfl, rfl⟩, ⟨_, h2, _, _, rfl, rfl, _, _, rfl, rfl, rfl⟩, ⟨_, h3, _, _, rfl, rfl, rfl⟩, trivial⟩ ?_, fun n hn => ?_⟩
   ·simp only [List.nodup_cons, List.mem_cons, List.not_mem_nil, or_false, not_or]
    refine ⟨⟨?_, ?_, ?_, ?_, ?_, ?_⟩, ⟨?_, ?_, ?_, ?_, ?_⟩, ⟨?_, ?_, ?_, ?_⟩, ⟨?_, ?_, ?_⟩, ⟨?_, ?_⟩, ?_, not_false, List.nodup_nil⟩ <;> omega
   ·simp [Sx.boxesHp2, Sx.bxA4] at hn
    exact List.getElem?_eq_none (by simpa using hn)
  refine Sx.code_eq (c' := Sx.cA4.1.seq (Sx.cA4.2.1.seq (Sx.cA4.2.2.1.seq Sx.cA4.2.2.2))) (by kernel_rfl) ?_
  refine Sx.seq3_in hx (Sx.acall_sound hx 18) Sx.nd_A4.1 Sx.nd_A4.2.1 Sx.nd_A4.2.2 h4 hS (Gr.refl W) (Nat.le_refl _) (Nat.le_refl _) ?_
  intro a' w' ρ' k1 k2 k3 k4
  have v1 : a'.eval (.tmp 29) = .bool ((Sx.E.at [below, px [t0, t1, t2, t3, t4, t5] i, py [t0, t1, t2, t3, t4, t5] i, px [t0, t1, t2, t3, t4, t5] (i + 1), py [t0, t1, t2, t3, t4, t5] (i + 1), sd [t0, t1, t2, t3, t4, t5], q0, q1, q2, q3, q4, q5, q6, q7]).b Sx.eA4) := Sx.rel_ev (x := .tmp 29) k2.tm h5b
  have v2 := Sx.rel_ev (x := .tmp 6) k2.tm h5c
  obtain ⟨b, hb, v2⟩ := v2
  have hbL : b = w.heap.size + 1 + 1 + 1 := by
   have := k1 0 _ (rfl : [w.heap.size + 1 + 1 + 1, w.heap.size + 1, w.heap.size + 1 + 1, bp, ba, bb, bi][0]? = some (w.heap.size + 1 + 1 + 1))
   rw [hb] at this; simpa using this
  subst hbL
  have g1 : Gr W w' := k3
  have hv : (Sx.E.at [below, px [t0, t1, t2, t3, t4, t5] i, py [t0, t1, t2, t3, t4, t5] i, px [t0, t1, t2, t3, t4, t5] (i + 1), py [t0, t1, t2, t3, t4, t5] (i + 1), sd [t0, t1, t2, t3, t4, t5], q0, q1, q2, q3, q4, q5, q6, q7]).b Sx.eA4 = Sx.outE [t0, t1, t2, t3, t4, t5] i below (Sx.ptsOf [q0, q1, q2, q3, q4, q5, q6, q7]) := by
   have hi3 : i = 0 ∨ i = 1 ∨ i = 2 := by omega
   have he : ∀ x y, ed [t0, t1, t2, t3, t4, t5] i x y = Sx.edq [t0, t1, t2, t3, t4, t5] i x y := fun x y => by rcases hi3 with rfl | rfl | rfl <;> rfl
   have e : ∀ x y, IntKind.i64.wrap (ed [t0, t1, t2, t3, t4, t5] i x y) = Sx.edq [t0, t1, t2, t3, t4, t5] i x y := fun x y => (Sx.wr (by have := ed_b [t0, t1, t2, t3, t4, t5] i x y; omega)).trans (he x y)
   show (if (if (if decide (IntKind.i64.wrap (ed [t0, t1, t2, t3, t4, t5] i q0 q1) < below) = true then decide (IntKind.i64.wrap (ed [t0, t1, t2, t3, t4, t5] i q2 q3) < below) else false) = true then decide (IntKind.i64.wrap (ed [t0, t1, t2, t3, t4, t5] i q4 q5) < below) else false) = true then decide (IntKind.i64.wrap (ed [t0, t1, t2, t3, t4, t5] i q6 q7) < below) else false) = _
   simp only [e, Sx.outE, Sx.ptsOf, List.all_cons, List.all_nil, Bool.and_true]
   generalize decide (Sx.edq [t0, t1, t2, t3, t4, t5] i q0 q1 < below) = d0
   generalize decide (Sx.edq [t0, t1, t2, t3, t4, t5] i q2 q3 < below) = d1
   generalize decide (Sx.edq [t0, t1, t2, t3, t4, t5] i q4 q5 < below) = d2
   generalize decide (Sx.edq [t0, t1, t2, t3, t4, t5] i q6 q7 < below) = d3
   cases d0 <;> cases d1 <;> cases d2 <;> cases d3 <;> rfl
  rw [hv] at v1
  refine Sx.code_eq (c' := Code.cond (.tmp 29) ((Code.region 10 (Sx.regionOf Tryz.f96 10).toArray false).seq .ret) .skip) (by kernel_rfl) ?_
  refine wpIn_cond v1 ?_
  cases ho : Sx.outE [t0, t1, t2, t3, t4, t5] i below (Sx.ptsOf [q0, q1, q2, q3, q4, q5, q6, q7])
  ·simp only [Bool.false_eq_true, if_false]
   refine wpIn_skip ?_
   show Ks (fun k => k = w.heap.size + 1 + 1 + 1) W w' ∧ _
   refine ⟨Ks.of_gr g1, fun j hj => ?_, hR.gr g1, hW.gr g1, hSl.gr g1, hQ.gr g1⟩
   rcases Nat.lt_or_ge j i with h | h
   ·exact hno j h
   ·rw [show j = i by omega]; exact ho
  ·simp only [if_true]
   refine wpIn_seq ?_
   refine Sx.code_eq (c' := Code.region 10 #[(Sx.regionOf Tryz.f96 10).getD 0 ⟨none, .move (.const undef), 0, "", #[], none⟩] false) (by kernel_rfl) ?_
   refine Sx.store_in rfl rfl (hx.tyf (t := 4) rfl).size v2 rfl rfl rfl (hR.gr g1) ?_
   intro w5 hB5 hk5
   refine wpIn_ret ?_
   show Ks (fun k => k = w.heap.size + 1 + 1 + 1) W w5 ∧ _
   exact ⟨(Ks.of_gr g1).trans hk5, rfl, ⟨i, hi, ho⟩, hB5⟩
 case done =>
  rintro W ⟨hno, hR, _⟩ hks hK
  have c0 := hR.blk.cell 0 rfl; have f0 := hR.blk.free 0 rfl
  gi_wp2
  have hb2 : Bx (W.setCell ⟨w.heap.size + 1 + 1 + 1, 0, none⟩ (.bool false)) (w.heap.size + 1 + 1 + 1) 4 [.bool false] := Boxed.set (.bool false) hR
  have hk5 : Ks (fun k => k = w.heap.size + 1 + 1 + 1) W (W.setCell ⟨w.heap.size + 1 + 1 + 1, 0, none⟩ (.bool false)) := ⟨rfl, rfl, rfl, by show W.heap.size ≤ (W.heap.modify _ _).size; rw [Array.size_modify]; exact Nat.le_refl _, fun k _ hk => Below.heap_setCell W _ _ k hk⟩
  have hK2 := (hk5.block w4.heap.size (Array.getElem?_eq_some_iff.1 hK).1 (by omega)).trans hK
  refine ⟨by simp, .inl ⟨_, _, rfl, run_takeDeferred hK2, ?_⟩⟩
  have hks2 := (hks.trans (hk5.mono (fun k h => .inl h))).trans (Ks.put (S := fun k => k = w.heap.size + 1 + 1 + 1 ∨ k = w4.heap.size ∨ k = w4.heap.size + 1) (.inr (.inl rfl)) (.deferred none))
  have hb3 := hb2.ks (Ks.put (S := fun k => k = w4.heap.size) rfl (.deferred none)) (by omega)
  refine ⟨_, Sx.results_cell1 rfl ((Sx.cm1_ok w [] trivial).tyf (t := 4) rfl) rfl rfl hb3, ?_, hks2.gr G4.out (fun k hk => by omega)⟩
  show Ending.returned (.bool false) = _
  rw [show Sx.apB [t0, t1, t2, t3, t4, t5] below [q0, q1, q2, q3, q4, q5, q6, q7] = false by unfold Sx.apB; rw [hno 0 (by omega), hno 1 (by omega), hno 2 (by omega)]; rfl]
 case stop =>
  rintro c W ⟨rfl, ⟨j, hj, ho⟩, hR⟩ hks hK
  gi_wp2
  refine ⟨by simp, .inl ⟨_, _, rfl, run_takeDeferred hK, ?_⟩⟩
  have hks2 := hks.trans (Ks.put (S := fun k => k = w.heap.size + 1 + 1 + 1 ∨ k = w4.heap.size ∨ k = w4.heap.size + 1) (.inr (.inl rfl)) (.deferred none))
  have hb3 := hR.ks (Ks.put (S := fun k => k = w4.heap.size) rfl (.deferred none)) (by omega)
  refine ⟨_, Sx.results_cell1 rfl ((Sx.cm1_ok w [] trivial).tyf (t := 4) rfl) rfl rfl hb3, ?_, hks2.gr G4.out (fun k hk => by omega)⟩
  show Ending.returned (.bool true) = _
  have hj3 : j = 0 ∨ j = 1 ∨ j = 2 := by omega
  rw [show Sx.apB [t0, t1, t2, t3, t4, t5] below [q0, q1, q2, q3, q4, q5, q6, q7] = true by unfold Sx.apB; rcases hj3 with rfl | rfl | rfl <;> simp [ho]]
end Mt
end Go.Proofs.YtlfoglklibhbnaaGreat
namespace Go.Proofs.YtlfoglklibhbnaaGreat.Sx
open Go.RowKit
theorem arr_ints {xs : Array Value} {l : List Value} (h : xs.toList = l) : xs = l.toArray := by cases xs; simp_all
theorem c_ap3 (W : World) : Flat Tryz.prog E W Any 96 [.g 6, .i, .s 39 3 6] fun l => tupleV (resV E 58 l [.b] 0 0) := by
 intro l ρ w0 w us hl _ hW hW0 h0 hv hH hf
 obtain ⟨u0, r0, rfl, ⟨xs, rfl, hx⟩, u1, r1, rfl, h1, u2, r2, rfl, ⟨b, hb, rfl⟩, hnil⟩ := hv
 obtain ⟨b', vs, e1, e2, e3, _⟩ := hH.blk 0 _ rfl
 rw [hb] at e1; simp only [Option.some.injEq] at e1; subst e1
 have hx2 := arr_ints (vars_eq 6 0 hx)
 have e4 := arr_ints (vars_eq 6 7 e3)
 have h1 : u1 = .int .i64 (l.getD 6 0) := h1
 have hnil : r2 = [] := hnil
 subst hx2; subst e4; subst h1; subst hnil
 have h0' : l.length = 13 := hl
 clear hl
 obtain ⟨a0, l1, rfl, g1⟩ := cut1 h0'
 obtain ⟨a1, l2, rfl, g2⟩ := cut1 g1
 obtain ⟨a2, l3, rfl, g3⟩ := cut1 g2
 obtain ⟨a3, l4, rfl, g4⟩ := cut1 g3
 obtain ⟨a4, l5, rfl, g5⟩ := cut1 g4
 obtain ⟨a5, l6, rfl, g6⟩ := cut1 g5
 obtain ⟨a6, l7, rfl, g7⟩ := cut1 g6
 obtain ⟨a7, l8, rfl, g8⟩ := cut1 g7
 obtain ⟨a8, l9, rfl, g9⟩ := cut1 g8
 obtain ⟨a9, l10, rfl, g10⟩ := cut1 g9
 obtain ⟨a10, l11, rfl, g11⟩ := cut1 g10
 obtain ⟨a11, l12, rfl, g12⟩ := cut1 g11
 obtain ⟨a12, l13, rfl, g13⟩ := cut1 g12
 obtain rfl := cut0 g13
 exact Mt.apart3_any a0 a1 a2 a3 a4 a5 a6 a7 a8 a9 a10 a11 a12 b w e2
theorem c_ap4 (W : World) : Flat Tryz.prog E W Any 96 [.g 6, .i, .s 38 4 8] fun l => tupleV (resV E 58 l [.b] 0 0) := by
 intro l ρ w0 w us hl _ hW hW0 h0 hv hH hf
 obtain ⟨u0, r0, rfl, ⟨xs, rfl, hx⟩, u1, r1, rfl, h1, u2, r2, rfl, ⟨b, hb, rfl⟩, hnil⟩ := hv
 obtain ⟨b', vs, e1, e2, e3, _⟩ := hH.blk 0 _ rfl
 rw [hb] at e1; simp only [Option.some.injEq] at e1; subst e1
 have hx2 := arr_ints (vars_eq 6 0 hx)
 have e4 := arr_ints (vars_eq 8 7 e3)
 have h1 : u1 = .int .i64 (l.getD 6 0) := h1
 have hnil : r2 = [] := hnil
 subst hx2; subst e4; subst h1; subst hnil
 have h0' : l.length = 15 := hl
 clear hl
 obtain ⟨a0, l1, rfl, g1⟩ := cut1 h0'
 obtain ⟨a1, l2, rfl, g2⟩ := cut1 g1
 obtain ⟨a2, l3, rfl, g3⟩ := cut1 g2
 obtain ⟨a3, l4, rfl, g4⟩ := cut1 g3
 obtain ⟨a4, l5, rfl, g5⟩ := cut1 g4
 obtain ⟨a5, l6, rfl, g6⟩ := cut1 g5
 obtain ⟨a6, l7, rfl, g7⟩ := cut1 g6
 obtain ⟨a7, l8, rfl, g8⟩ := cut1 g7
 obtain ⟨a8, l9, rfl, g9⟩ := cut1 g8
 obtain ⟨a9, l10, rfl, g10⟩ := cut1 g9
 obtain ⟨a10, l11, rfl, g11⟩ := cut1 g10
 obtain ⟨a11, l12, rfl, g12⟩ := cut1 g11
 obtain ⟨a12, l13, rfl, g13⟩ := cut1 g12
 obtain ⟨a13, l14, rfl, g14⟩ := cut1 g13
 obtain ⟨a14, l15, rfl, g15⟩ := cut1 g14
 obtain rfl := cut0 g15
 exact Mt.apart4_any a0 a1 a2 a3 a4 a5 a6 a7 a8 a9 a10 a11 a12 a13 a14 b w e2
noncomputable def cm2 : Cx := ⟨cm1.ty, cm1.fn, [flatCon 96 [.g 6, .i, .s 39 3 6] [.b] 58 noChk, flatCon 96 [.g 6, .i, .s 38 4 8] [.b] 58 noChk] ++ cm1.con, cm1.inl, cm1.eqs⟩
theorem cm2_ok (W : World) : ∀ l, Any l → CxOk Tryz.prog (E.at l) W cm2 :=
 cx_more (cm1_ok W) (List.forall_mem_cons.2 ⟨flat_con' (c_ap3 W), List.forall_mem_cons.2 ⟨flat_con' (c_ap4 W), (fun _ h => by cases h)⟩⟩)
end Go.Proofs.YtlfoglklibhbnaaGreat.Sx
