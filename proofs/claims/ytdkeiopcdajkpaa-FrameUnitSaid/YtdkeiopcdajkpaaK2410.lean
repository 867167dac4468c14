/- The laws' walks: each returns true. -/
import Derived.Test.YtdkeiopcdajkpaaM10
set_option linter.unusedVariables false
namespace Go.Proofs.Ytdkeiopcdajkpaa
open Go.RowKit

theorem walk_FrameUnit (w : World) (a0 a1 a2 : Int) (_ : I a0) (_ : I a1) (_ : I a2) :
    Calls Try.prog 4 #[.agg #[.int .i64 a0, .int .i64 a1, .int .i64 a2]] w fun e w' => e = .returned (.bool true) ∧ Gr w w' :=
  Sx.flat_run (Sx.c_FrameUnit w) rfl [a0, a1, a2] rfl (by intro a h; simp only [List.mem_cons, List.not_mem_nil, or_false] at h; rcases h with rfl | rfl | rfl <;> assumption)

end Go.Proofs.Ytdkeiopcdajkpaa
