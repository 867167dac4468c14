/- Parts of the proof of TopPoint. No condition of their own. -/
import Derived.Test.YtlfoglklibhbnaaGreatTpK
import Derived.Test.YtlfoglklibhbnaaGreatTpA
import Derived.RangeFuncNested
import Derived.RangeFuncBound
import Derived.RangeFuncCalls
import Derived.RangeFuncLeaves
import Derived.Shelf.Abstract
import Derived.Shelf.RegionOpen
import Derived.WalkKit
import Derived.OwnWalkIn
import Derived.TacticsInMore
import Derived.LoopNIn
import Derived.LoopIn
import Derived.Lib.Hide
import Derived.Test.YtlfoglklibhbnaaGreatTpC
set_option linter.unusedVariables false
set_option linter.unusedSimpArgs false
namespace Go.Proofs.YtlfoglklibhbnaaGreat
open Go.RowKit Go.Shelf
attribute [local go_sem] Oper.semAt_some
namespace Mt
def sd (l : List Int) : Int := if l.all Sx.us then Sx.sgn (Sx.areaV l) else 0
def se (l : List Int) : Int := if l.all Sx.us then 0 else 5
theorem sd_b (l : List Int) : -1 ≤ sd l ∧ sd l ≤ 1 := by unfold sd Sx.sgn; (repeat' split) <;> omega
theorem side_any (a0 a1 b0 b1 c0 c1 : Int) (w : World) :
  Calls Tryz.prog 135 #[.agg #[.int .i64 a0, .int .i64 a1], .agg #[.int .i64 b0, .int .i64 b1], .agg #[.int .i64 c0, .int .i64 c1]] w
   fun e w' => e = .returned (.tuple #[.int .i64 (sd [a0, a1, b0, b1, c0, c1]), .int .i64 (se [a0, a1, b0, b1, c0, c1])]) ∧ Gr w w' :=
 Sx.flat_run (Sx.c_side w) rfl [a0, a1, b0, b1, c0, c1] rfl trivial
end Mt
end Go.Proofs.YtlfoglklibhbnaaGreat
namespace Go.Proofs.YtlfoglklibhbnaaGreat
open Go.RowKit Go.Shelf
attribute [local go_sem] Oper.semAt_some
namespace Mt
def px (t : List Int) (i : Nat) : Int := t.getD (2 * (i % 3)) 0
def py (t : List Int) (i : Nat) : Int := t.getD (2 * (i % 3) + 1) 0
theorem info2 : (Tryz.prog.info? 38).map (fun i => i.size) = some 2 := by kernel_rfl
theorem size2 (w : World) : (Go.sizeOf 38).run Tryz.prog w = .ok 2 w := by
 have := info2
 cases h : Tryz.prog.info? 38 with
 | none => rw [h] at this; cases this
 | some i => rw [h] at this; simp at this; simp [Go.sizeOf, typeInfo, program, Sem.run, h, this]
theorem agg2 (w : World) : (isAgg 38).run Tryz.prog w = .ok true w := by
 unfold isAgg; rw [Sem.run_bind, run_underlying Tryz.underlying38]; rfl
theorem ix (w : World) (t0 t1 t2 t3 t4 t5 : Int) (i : Nat) (hi : i < 3) : (Instr.index 39 (.agg #[.int .i64 t0, .int .i64 t1, .int .i64 t2, .int .i64 t3, .int .i64 t4, .int .i64 t5]) (.int .i64 i)).run Tryz.prog w = .ok (.agg #[.int .i64 (px [t0, t1, t2, t3, t4, t5] i), .int .i64 (py [t0, t1, t2, t3, t4, t5] i)]) w := by
 unfold Instr.index
 have h1 : (asIntOf (.int .i64 (i : Int))).run Tryz.prog w = .ok (.i64, (i : Int)) w := rfl
 have hb : (0 : Int) ≤ (i : Int) ∧ (i : Int) < 3 := by omega
 simp only [Sem.run_bind, h1, Result.andThen_ok, run_underlying Tryz.underlying39]
 simp only [Int.toNat_natCast]
 rw [if_pos (by exact hb)]
 simp only [Sem.run_bind, size2, Result.andThen_ok]
 unfold Go.part
 simp only [Sem.run_bind, agg2, Result.andThen_ok, if_true, size2, Sem.run_pure]
 have hk4 : i = 0 ∨ i = 1 ∨ i = 2 := by omega
 rcases hk4 with rfl | rfl | rfl <;> rfl
def sideV (ba bb bi : Nat) : Value := .func (.func 136) #[] #[.pointer (some ⟨ba, 0, none⟩), .pointer (some ⟨bb, 0, none⟩), .pointer (some ⟨bi, 0, none⟩)]
set_option maxHeartbeats 4000000 in
set_option maxRecDepth 100000 in
theorem edges1_in (n : Nat) (l bt : Nat) (S : Nat → Prop) (W : World) (t0 t1 t2 t3 t4 t5 : Int) (J : Nat → World → Prop) (Jx : World → Prop) (hJ : ∀ i A B, J i A → Gr A B → J i B)
  (hY : ∀ i ba bb bi W1, W.heap.size ≤ ba → W.heap.size ≤ bb → W.heap.size ≤ bi → bi < ba → ba < bb → i < 3 → J i W1 → Bx W1 ba 38 [.int .i64 (px [t0, t1, t2, t3, t4, t5] i), .int .i64 (py [t0, t1, t2, t3, t4, t5] i)] → Bx W1 bb 38 [.int .i64 (px [t0, t1, t2, t3, t4, t5] (i + 1)), .int .i64 (py [t0, t1, t2, t3, t4, t5] (i + 1))] →
   Bx W1 bi 3 [.int .i64 (sd [t0, t1, t2, t3, t4, t5])] → YieldAt Fence.wide (n - 1) Tryz.prog l #[sideV ba bb bi] W1 fun e W' => (e = .returned (.bool true) ∧ J (i + 1) W' ∧ Ks S W1 W') ∨ (e = .returned (.bool false) ∧ Jx W'))
  (hb : Blk W bt [.int .i64 t0, .int .i64 t1, .int .i64 t2, .int .i64 t3, .int .i64 t4, .int .i64 t5]) (hbS : ¬ S bt) (hS : ∀ k, W.heap.size ≤ k → ¬ S k) (h0 : J 0 W) :
  CallsIn Fence.wide n Tryz.prog 134 #[.func (.yield l) #[] #[], .pointer (some ⟨bt, 0, none⟩)] W fun e W' => (∃ v, e = .returned v) ∧ (J 3 W' ∨ Jx W') := by
 refine callsIn_of_wp Tryz.func134 rfl trivial ?_ rfl
 simp only [Tryz.ntmps134, List.size_toArray, List.length_cons, List.length_nil, Nat.reduceAdd, Nat.reduceSub, Array.replicate_succ, Array.replicate_zero, List.push_toArray, List.append_toArray, List.nil_append, List.cons_append]
 have c0 := hb.cell 0 rfl; have c1 := hb.cell 1 rfl; have c2 := hb.cell 2 rfl; have c3 := hb.cell 3 rfl; have c4 := hb.cell 4 rfl; have c5 := hb.cell 5 rfl
 have HY := Lib.hid hY; have HJ := Lib.hid hJ; have HB := Lib.hid hb; have HS := Lib.hid hS; have H0 := Lib.hid h0
 clear hY hJ hb hS h0
 gi_wp2
 refine ⟨trivial, (fun h => by cases h), ?_⟩
 refine (callsIn_wide.2 (side_any t0 t1 t2 t3 t4 t5 _)).mono ?_; rintro e w2 ⟨rfl, hg⟩
 have d0 := (HB.out.gr hg).cell 0 rfl; have d1 := (HB.out.gr hg).cell 1 rfl; have d2 := (HB.out.gr hg).cell 2 rfl; have d3 := (HB.out.gr hg).cell 3 rfl; have d4 := (HB.out.gr hg).cell 4 rfl; have d5 := (HB.out.gr hg).cell 5 rfl
 have lb := (HB.out.gr hg).1
 have HG := Lib.hid hg; clear hg c0 c1 c2 c3 c4 c5
 gi_wp2
 gi_loopw [20] (fun v20 wr => ∃ k : Nat, k ≤ 3 ∧ v20 = .int .i64 k ∧ W.heap.size ≤ wr.heap.size ∧ J k wr ∧ Blk wr bt [.int .i64 t0, .int .i64 t1, .int .i64 t2, .int .i64 t3, .int .i64 t4, .int .i64 t5] ∧ Bx wr w2.heap.size 3 [.int .i64 (sd [t0, t1, t2, t3, t4, t5])]) (fun i _ => 3 - (intOf i).toNat)
 case atStart => exact ⟨0, by omega, rfl, (by have := HG.out.size; simp; omega), HJ.out _ _ _ (HJ.out _ _ _ H0.out HG.out) ((Gr.refl _).alloc _), (HB.out.gr HG.out).alloc, Bx.new (vs := [.int .i64 (sd [t0, t1, t2, t3, t4, t5])]) rfl⟩
 case round =>
  obtain ⟨k, hk, rfl, hsw, hJk, hbt, hbi⟩ := hrel
  have hw2 := HG.out.size
  have f0 := hbt.cell 0 rfl; have f1 := hbt.cell 1 rfl; have f2 := hbt.cell 2 rfl; have f3 := hbt.cell 3 rfl; have f4 := hbt.cell 4 rfl; have f5 := hbt.cell 5 rfl
  have lt := hbt.1
  have ne : ¬ bt = wr.heap.size := by omega
  clear d0 d1 d2 d3 d4 d5
  have HBT := Lib.hid hbt; have HBI := Lib.hid hbi; clear hbt hbi
  have hk4 : k = 0 ∨ k = 1 ∨ k = 2 ∨ k = 3 := by omega
  rcases hk4 with rfl | rfl | rfl | rfl
  ·have hix : ∀ W', (Instr.index 39 (.agg #[.int .i64 t0, .int .i64 t1, .int .i64 t2, .int .i64 t3, .int .i64 t4, .int .i64 t5]) (.int .i64 0)).run Tryz.prog W' = .ok (.agg #[.int .i64 t0, .int .i64 t1]) W' := fun W' => ix W' t0 t1 t2 t3 t4 t5 0 (by decide)
   obtain ⟨fn, tmps, assign, body, hy, hR⟩ := HY.out 0 wr.heap.size (wr.heap.size + 1) w2.heap.size ((wr.alloc (.cells #[.int .i64 t0, .int .i64 t1] 38)).alloc (.cells #[.int .i64 t2, .int .i64 t3] 38)) hsw (by omega) hw2 HBI.out.lt (by omega) (by omega)
    (HJ.out _ _ _ hJk (((Gr.refl _).alloc _).alloc _)) ((Bx.new (vs := [.int .i64 t0, .int .i64 t1]) rfl).alloc _) (Bx.new (vs := [.int .i64 t2, .int .i64 t3]) (by simp)) ((HBI.out.alloc _).alloc _)
   dsimp only [sideV] at hy
   clear hJk
   gi_wp2
   refine ⟨(fun h => by cases h), ?_⟩
   refine hR.mono ?_
   rintro e W3 (⟨rfl, hJ3, hk3⟩ | ⟨rfl, hJx3⟩)
   ·clear hy hR
    have hb3 : Blk W3 bt [.int .i64 t0, .int .i64 t1, .int .i64 t2, .int .i64 t3, .int .i64 t4, .int .i64 t5] := Blk.ks HBT.out.alloc.alloc hk3 hbS
    have hi3 : Bx W3 w2.heap.size 3 [.int .i64 (sd [t0, t1, t2, t3, t4, t5])] := ((HBI.out.alloc _).alloc _).ks hk3 (HS.out _ HG.out.size)
    have hs3 : W.heap.size ≤ W3.heap.size := by have := hk3.size; simp at this; omega
    have H3 := Lib.hid hJ3; have B3 := Lib.hid hb3; have I3 := Lib.hid hi3; clear hJ3 hb3 hi3 hk3
    gi_wp2
    go_roundw
    case rel => exact ⟨1, by omega, by go_num, hs3, H3.out, B3.out, I3.out⟩
    case measure => simp [intOf]
   ·clear hy hR
    gi_wp2
    refine bodyPost_ret (results_none rfl _ _ _) rfl ?_
    exact ⟨⟨_, rfl⟩, .inr hJx3⟩
  ·have hix : ∀ W', (Instr.index 39 (.agg #[.int .i64 t0, .int .i64 t1, .int .i64 t2, .int .i64 t3, .int .i64 t4, .int .i64 t5]) (.int .i64 1)).run Tryz.prog W' = .ok (.agg #[.int .i64 t2, .int .i64 t3]) W' := fun W' => ix W' t0 t1 t2 t3 t4 t5 1 (by decide)
   obtain ⟨fn, tmps, assign, body, hy, hR⟩ := HY.out 1 wr.heap.size (wr.heap.size + 1) w2.heap.size ((wr.alloc (.cells #[.int .i64 t2, .int .i64 t3] 38)).alloc (.cells #[.int .i64 t4, .int .i64 t5] 38)) hsw (by omega) hw2 HBI.out.lt (by omega) (by omega)
    (HJ.out _ _ _ hJk (((Gr.refl _).alloc _).alloc _)) ((Bx.new (vs := [.int .i64 t2, .int .i64 t3]) rfl).alloc _) (Bx.new (vs := [.int .i64 t4, .int .i64 t5]) (by simp)) ((HBI.out.alloc _).alloc _)
   dsimp only [sideV] at hy
   clear hJk
   gi_wp2
   refine ⟨(fun h => by cases h), ?_⟩
   refine hR.mono ?_
   rintro e W3 (⟨rfl, hJ3, hk3⟩ | ⟨rfl, hJx3⟩)
   ·clear hy hR
    have hb3 : Blk W3 bt [.int .i64 t0, .int .i64 t1, .int .i64 t2, .int .i64 t3, .int .i64 t4, .int .i64 t5] := Blk.ks HBT.out.alloc.alloc hk3 hbS
    have hi3 : Bx W3 w2.heap.size 3 [.int .i64 (sd [t0, t1, t2, t3, t4, t5])] := ((HBI.out.alloc _).alloc _).ks hk3 (HS.out _ HG.out.size)
    have hs3 : W.heap.size ≤ W3.heap.size := by have := hk3.size; simp at this; omega
    have H3 := Lib.hid hJ3; have B3 := Lib.hid hb3; have I3 := Lib.hid hi3; clear hJ3 hb3 hi3 hk3
    gi_wp2
    go_roundw
    case rel => exact ⟨2, by omega, by go_num, hs3, H3.out, B3.out, I3.out⟩
    case measure => simp [intOf]
   ·clear hy hR
    gi_wp2
    refine bodyPost_ret (results_none rfl _ _ _) rfl ?_
    exact ⟨⟨_, rfl⟩, .inr hJx3⟩
  ·have hix : ∀ W', (Instr.index 39 (.agg #[.int .i64 t0, .int .i64 t1, .int .i64 t2, .int .i64 t3, .int .i64 t4, .int .i64 t5]) (.int .i64 2)).run Tryz.prog W' = .ok (.agg #[.int .i64 t4, .int .i64 t5]) W' := fun W' => ix W' t0 t1 t2 t3 t4 t5 2 (by decide)
   obtain ⟨fn, tmps, assign, body, hy, hR⟩ := HY.out 2 wr.heap.size (wr.heap.size + 1) w2.heap.size ((wr.alloc (.cells #[.int .i64 t4, .int .i64 t5] 38)).alloc (.cells #[.int .i64 t0, .int .i64 t1] 38)) hsw (by omega) hw2 HBI.out.lt (by omega) (by omega)
    (HJ.out _ _ _ hJk (((Gr.refl _).alloc _).alloc _)) ((Bx.new (vs := [.int .i64 t4, .int .i64 t5]) rfl).alloc _) (Bx.new (vs := [.int .i64 t0, .int .i64 t1]) (by simp)) ((HBI.out.alloc _).alloc _)
   dsimp only [sideV] at hy
   clear hJk
   gi_wp2
   refine ⟨(fun h => by cases h), ?_⟩
   refine hR.mono ?_
   rintro e W3 (⟨rfl, hJ3, hk3⟩ | ⟨rfl, hJx3⟩)
   ·clear hy hR
    have hb3 : Blk W3 bt [.int .i64 t0, .int .i64 t1, .int .i64 t2, .int .i64 t3, .int .i64 t4, .int .i64 t5] := Blk.ks HBT.out.alloc.alloc hk3 hbS
    have hi3 : Bx W3 w2.heap.size 3 [.int .i64 (sd [t0, t1, t2, t3, t4, t5])] := ((HBI.out.alloc _).alloc _).ks hk3 (HS.out _ HG.out.size)
    have hs3 : W.heap.size ≤ W3.heap.size := by have := hk3.size; simp at this; omega
    have H3 := Lib.hid hJ3; have B3 := Lib.hid hb3; have I3 := Lib.hid hi3; clear hJ3 hb3 hi3 hk3
    gi_wp2
    go_roundw
    case rel => exact ⟨3, by omega, by go_num, hs3, H3.out, B3.out, I3.out⟩
    case measure => simp [intOf]
   ·clear hy hR
    gi_wp2
    refine bodyPost_ret (results_none rfl _ _ _) rfl ?_
    exact ⟨⟨_, rfl⟩, .inr hJx3⟩
  ·gi_wp2
   go_end0
   exact ⟨⟨_, rfl⟩, .inl hJk⟩
end Mt
end Go.Proofs.YtlfoglklibhbnaaGreat
