/- The laws' walks: each returns true. -/
import Derived.Test.YtbgcjbhaaelkhaaQ5
set_option linter.unusedVariables false
namespace Go.Proofs.Ytbgcjbhaaelkhaa
open Go.RowKit

theorem walk_FracFloor (w : World) (a0 a1 : Int) (_ : I a0) (_ : I a1) :
    Calls Try.prog 9 #[.agg #[.int .i64 a0, .int .i64 a1]] w fun e w' => e = .returned (.bool true) ∧ Gr w w' :=
  Sx.flat_run (Sx.c_FracFloor w) rfl [a0, a1] rfl (by intro a h; simp only [List.mem_cons, List.not_mem_nil, or_false] at h; rcases h with rfl | rfl <;> assumption)

end Go.Proofs.Ytbgcjbhaaelkhaa
