/- The laws' walks: each returns true. -/
import Derived.Test.YtdkeiopcdajkpaaM6
set_option linter.unusedVariables false
namespace Go.Proofs.Ytdkeiopcdajkpaa
open Go.RowKit

theorem walk_FrameDoes (w : World) (a0 a1 a2 : Int) (_ : I a0) (_ : I a1) (_ : I a2) (a3 a4 a5 : Int) (_ : I a3) (_ : I a4) (_ : I a5) (a6 a7 : Int) (_ : I a6) (_ : I a7) :
    Calls Try.prog 3 #[.agg #[.int .i64 a0, .int .i64 a1, .int .i64 a2], .agg #[.int .i64 a3, .int .i64 a4, .int .i64 a5], .agg #[.int .i64 a6, .int .i64 a7]] w fun e w' => e = .returned (.bool true) ∧ Gr w w' :=
  Sx.flat_run (Sx.c_FrameDoes w) rfl [a0, a1, a2, a3, a4, a5, a6, a7] rfl (by intro a h; simp only [List.mem_cons, List.not_mem_nil, or_false] at h; rcases h with rfl | rfl | rfl | rfl | rfl | rfl | rfl | rfl <;> assumption)

end Go.Proofs.Ytdkeiopcdajkpaa
