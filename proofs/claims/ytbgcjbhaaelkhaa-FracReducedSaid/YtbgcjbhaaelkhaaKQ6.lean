/- The laws' walks: each returns true. -/
import Derived.Test.YtbgcjbhaaelkhaaQ6
set_option linter.unusedVariables false
namespace Go.Proofs.Ytbgcjbhaaelkhaa
open Go.RowKit

theorem walk_FracReduced (w : World) (a0 a1 : Int) (_ : I a0) (_ : I a1) (a2 a3 : Int) (_ : I a2) (_ : I a3) :
    Calls Try.prog 8 #[.agg #[.int .i64 a0, .int .i64 a1], .agg #[.int .i64 a2, .int .i64 a3]] w fun e w' => e = .returned (.bool true) ∧ Gr w w' :=
  Sx.flat_run (Sx.c_FracReduced w) rfl [a0, a1, a2, a3] rfl (by intro a h; simp only [List.mem_cons, List.not_mem_nil, or_false] at h; rcases h with rfl | rfl | rfl | rfl <;> assumption)

end Go.Proofs.Ytbgcjbhaaelkhaa
