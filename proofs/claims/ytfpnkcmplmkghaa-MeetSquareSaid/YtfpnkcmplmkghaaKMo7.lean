/- The laws' walks: each returns true. -/
import Derived.Test.YtfpnkcmplmkghaaMo7
set_option linter.unusedVariables false
namespace Go.Proofs.Ytfpnkcmplmkghaa
open Go.RowKit

theorem walk_MeetSquare (w : World) (a0 a1 : Int) (_ : I a0) (_ : I a1) (a2 : Int) (_ : I a2) (a3 a4 a5 a6 a7 a8 : Int) (_ : I a3) (_ : I a4) (_ : I a5) (_ : I a6) (_ : I a7) (_ : I a8) (a9 a10 : Int) (_ : I a9) (_ : I a10) :
    Calls Try.prog 9 #[.agg #[.int .i64 a0, .int .i64 a1], .int .i64 a2, .agg #[.int .i64 a3, .int .i64 a4, .int .i64 a5, .int .i64 a6, .int .i64 a7, .int .i64 a8], .agg #[.int .i64 a9, .int .i64 a10]] w fun e w' => e = .returned (.bool true) ∧ Gr w w' :=
  Sx.flat_run (Sx.c_MeetSquare w) rfl [a0, a1, a2, a3, a4, a5, a6, a7, a8, a9, a10] rfl trivial

end Go.Proofs.Ytfpnkcmplmkghaa
