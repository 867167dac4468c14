/- The laws' walks: each returns true. -/
import Derived.Test.YtdkeiopcdajkpaaM7
set_option linter.unusedVariables false
namespace Go.Proofs.Ytdkeiopcdajkpaa
open Go.RowKit

theorem walk_FrameLambert (w : World) (a0 a1 a2 : Int) (_ : I a0) (_ : I a1) (_ : I a2) (a3 a4 a5 : Int) (_ : I a3) (_ : I a4) (_ : I a5) :
    Calls Try.prog 7 #[.agg #[.int .i64 a0, .int .i64 a1, .int .i64 a2], .agg #[.int .i64 a3, .int .i64 a4, .int .i64 a5]] w fun e w' => e = .returned (.bool true) ∧ Gr w w' :=
  Sx.flat_run (Sx.c_FrameLambert w) rfl [a0, a1, a2, a3, a4, a5] rfl (by intro a h; simp only [List.mem_cons, List.not_mem_nil, or_false] at h; rcases h with rfl | rfl | rfl | rfl | rfl | rfl <;> assumption)

end Go.Proofs.Ytdkeiopcdajkpaa
