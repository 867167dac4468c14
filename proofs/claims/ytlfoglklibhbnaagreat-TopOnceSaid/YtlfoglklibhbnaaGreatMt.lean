/- Chapter 10: on which side of an edge a point is. -/
import Derived.Test.YtlfoglklibhbnaaGreatL5
import Derived.Test.YtlfoglklibhbnaaGreatCn
import Derived.RangeFuncNested
import Derived.RangeFuncBound
import Derived.RangeFuncCalls
import Derived.RangeFuncLeaves
import Derived.Shelf.Abstract
import Derived.Shelf.RegionOpen
import Derived.WalkKit
import Derived.OwnWalkIn
import Derived.TacticsInMore
import Derived.LoopNIn
import Derived.LoopIn
import Derived.Lib.Hide
set_option linter.unusedVariables false
namespace Go.Proofs.YtlfoglklibhbnaaGreat
open Go.RowKit Go.Shelf
attribute [local go_sem] Oper.semAt_some
namespace Mt
def sd (l : List Int) : Int := if l.all Sx.us then Sx.sgn (Sx.areaV l) else 0
def se (l : List Int) : Int := if l.all Sx.us then 0 else 5
theorem sd_b (l : List Int) : -1 ≤ sd l ∧ sd l ≤ 1 := by unfold sd Sx.sgn; (repeat' split) <;> omega
theorem side_any (a0 a1 b0 b1 c0 c1 : Int) (w : World) :
    Calls Tryz.prog 135 #[.agg #[.int .i64 a0, .int .i64 a1], .agg #[.int .i64 b0, .int .i64 b1], .agg #[.int .i64 c0, .int .i64 c1]] w
      fun e w' => e = .returned (.tuple #[.int .i64 (sd [a0, a1, b0, b1, c0, c1]), .int .i64 (se [a0, a1, b0, b1, c0, c1])]) ∧ Gr w w' :=
  Sx.flat_run (Sx.c_side w) rfl [a0, a1, b0, b1, c0, c1] rfl trivial
theorem wr (n m : Int) (hn : -1 ≤ n ∧ n ≤ 1) (hm : -1 ≤ m ∧ m ≤ 1) : IntKind.i64.wrap (n * m) = n * m := by
  have := mul_bd (M := 1) (N := 1) 1 (by decide) hn hm
  exact Sx.wr (by omega)
theorem side1_any (px py x0 y0 x1 y1 n : Int) (ba bb bi : Nat) (w : World) (hn : -1 ≤ n ∧ n ≤ 1) (ha : Blk w ba [.int .i64 x0, .int .i64 y0]) (hb : Blk w bb [.int .i64 x1, .int .i64 y1]) (hi : Blk w bi [.int .i64 n]) :
    Calls Tryz.prog 136 #[.agg #[.int .i64 px, .int .i64 py], .pointer (some ⟨ba, 0, none⟩), .pointer (some ⟨bb, 0, none⟩), .pointer (some ⟨bi, 0, none⟩)] w
      fun e w' => e = .returned (.int .i64 (n * sd [x0, y0, x1, y1, px, py])) ∧ Gr w w' := by
  have a0 := ha.cell 0 rfl; have a1 := ha.cell 1 rfl; have b0 := hb.cell 0 rfl; have b1 := hb.cell 1 rfl
  have l0 := ha.1; have l1 := hb.1; have l2 := hi.1
  have e0 : ¬ ba = w.heap.size := by omega
  have e1 : ¬ bb = w.heap.size := by omega
  have HI := Lib.hid hi; clear ha hb hi l2
  go_enter Tryz.func136, Tryz.ntmps136
  go_wp2_with fail
  refine (side_any x0 y0 x1 y1 px py _).mono ?_; rintro e w2 ⟨rfl, hg⟩
  have c0 := (HI.out.alloc.gr hg).cell 0 rfl
  have HG := Lib.hid hg
  clear hg a0 a1 b0 b1 l0 l1 e0 e1
  have hs := sd_b [x0, y0, x1, y1, px, py]
  go_wp2_with fail
  go_ret
  exact ⟨ret1 ((IntWalk.i64_left _).symm.trans (wr _ _ hn hs)), ((Gr.refl w).alloc _).trans HG.out⟩
end Mt
end Go.Proofs.YtlfoglklibhbnaaGreat
