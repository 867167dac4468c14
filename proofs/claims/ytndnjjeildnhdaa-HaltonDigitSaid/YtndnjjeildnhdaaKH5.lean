/- The laws' walks: each returns true. -/
import Derived.Test.YtndnjjeildnhdaaH5
set_option linter.unusedVariables false
namespace Go.Proofs.Ytndnjjeildnhdaa
open Go.RowKit

theorem walk_HaltonDigit (w : World) (a0 : Int) (_ : I a0) (a1 : Int) (_ : I a1) (a2 : Int) (_ : I a2) :
    Calls Try.prog 7 #[.int .i64 a0, .int .i64 a1, .int .i64 a2] w fun e w' => e = .returned (.bool true) ∧ Gr w w' :=
  Sx.flat_run (Sx.c_HaltonDigit w) rfl [a0, a1, a2] rfl trivial

end Go.Proofs.Ytndnjjeildnhdaa
