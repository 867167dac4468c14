/- The laws' walks: each returns true. -/
import Derived.Test.YtndnjjeildnhdaaH3
set_option linter.unusedVariables false
namespace Go.Proofs.Ytndnjjeildnhdaa
open Go.RowKit

theorem walk_HaltonInside (w : World) (a0 a1 : Int) (_ : I a0) (_ : I a1) :
    Calls Try.prog 6 #[.agg #[.int .i64 a0, .int .i64 a1]] w fun e w' => e = .returned (.bool true) ∧ Gr w w' :=
  Sx.flat_run (Sx.c_HaltonInside w) rfl [a0, a1] rfl trivial

end Go.Proofs.Ytndnjjeildnhdaa
