/- The laws' walks: each returns true. -/
import Derived.Test.YtfpnkcmplmkghaaMo6
set_option linter.unusedVariables false
namespace Go.Proofs.Ytfpnkcmplmkghaa
open Go.RowKit

theorem walk_MeetSelf (w : World) (a0 a1 a2 a3 a4 a5 : Int) (_ : I a0) (_ : I a1) (_ : I a2) (_ : I a3) (_ : I a4) (_ : I a5) (a6 a7 a8 a9 a10 a11 : Int) (_ : I a6) (_ : I a7) (_ : I a8) (_ : I a9) (_ : I a10) (_ : I a11) :
    Calls Try.prog 8 #[.agg #[.int .i64 a0, .int .i64 a1, .int .i64 a2, .int .i64 a3, .int .i64 a4, .int .i64 a5], .agg #[.int .i64 a6, .int .i64 a7, .int .i64 a8, .int .i64 a9, .int .i64 a10, .int .i64 a11]] w fun e w' => e = .returned (.bool true) ∧ Gr w w' :=
  Sx.flat_run (Sx.c_MeetSelf w) rfl [a0, a1, a2, a3, a4, a5, a6, a7, a8, a9, a10, a11] rfl trivial

end Go.Proofs.Ytfpnkcmplmkghaa
