/- The laws' walks: each returns true. -/
import Derived.Test.YtfkgjpdipdllhaaRa2
set_option linter.unusedVariables false
namespace Go.Proofs.Ytfkgjpdipdllhaa
open Go.RowKit

theorem walk_RasterAside (w : World) (a0 : Int) (_ : I a0) (a1 : Int) (_ : I a1) (a2 a3 a4 a5 a6 a7 : Int) (_ : I a2) (_ : I a3) (_ : I a4) (_ : I a5) (_ : I a6) (_ : I a7) :
    Calls Try.prog 5 #[.int .i64 a0, .int .i64 a1, .agg #[.int .i64 a2, .int .i64 a3, .int .i64 a4, .int .i64 a5, .int .i64 a6, .int .i64 a7]] w fun e w' => e = .returned (.bool true) ∧ Gr w w' :=
  Sx.flat_run (Sx.c_RasterAside w) rfl [a0, a1, a2, a3, a4, a5, a6, a7] rfl trivial

end Go.Proofs.Ytfkgjpdipdllhaa
