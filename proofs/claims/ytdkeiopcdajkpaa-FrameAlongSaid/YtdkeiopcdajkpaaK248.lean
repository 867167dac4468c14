/- The laws' walks: each returns true. -/
import Derived.Test.YtdkeiopcdajkpaaM8
set_option linter.unusedVariables false
namespace Go.Proofs.Ytdkeiopcdajkpaa
open Go.RowKit

theorem walk_FrameAlong (w : World) (a0 : Int) (_ : I a0) (a1 : Int) (_ : I a1) (a2 a3 a4 : Int) (_ : I a2) (_ : I a3) (_ : I a4) :
    Calls Try.prog 5 #[.int .i64 a0, .int .i64 a1, .agg #[.int .i64 a2, .int .i64 a3, .int .i64 a4]] w fun e w' => e = .returned (.bool true) ∧ Gr w w' :=
  Sx.flat_run (Sx.c_FrameAlong w) rfl [a0, a1, a2, a3, a4] rfl (by intro a h; simp only [List.mem_cons, List.not_mem_nil, or_false] at h; rcases h with rfl | rfl | rfl | rfl | rfl <;> assumption)

end Go.Proofs.Ytdkeiopcdajkpaa
