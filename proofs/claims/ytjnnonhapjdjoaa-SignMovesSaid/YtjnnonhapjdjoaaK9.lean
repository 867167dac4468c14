/- The laws' walks: each returns true. -/
import Derived.Test.YtjnnonhapjdjoaaL7
set_option linter.unusedVariables false
namespace Go.Proofs.Ytjnnonhapjdjoaa
open Go.RowKit

theorem walk_SignTurns (w : World) (a0 a1 : Int) (_ : I a0) (_ : I a1) (a2 a3 : Int) (_ : I a2) (_ : I a3) (a4 a5 : Int) (_ : I a4) (_ : I a5) (a6 a7 a8 : Int) (_ : I a6) (_ : I a7) (_ : I a8) (a9 a10 a11 : Int) (_ : I a9) (_ : I a10) (_ : I a11) (a12 a13 a14 : Int) (_ : I a12) (_ : I a13) (_ : I a14) :
    Calls Try.prog 9 #[.agg #[.int .i64 a0, .int .i64 a1], .agg #[.int .i64 a2, .int .i64 a3], .agg #[.int .i64 a4, .int .i64 a5], .agg #[.int .i64 a6, .int .i64 a7, .int .i64 a8], .agg #[.int .i64 a9, .int .i64 a10, .int .i64 a11], .agg #[.int .i64 a12, .int .i64 a13, .int .i64 a14]] w fun e w' => e = .returned (.bool true) ∧ Gr w w' :=
  Sx.flat_run (Sx.c_SignTurns w) rfl [a0, a1, a2, a3, a4, a5, a6, a7, a8, a9, a10, a11, a12, a13, a14] rfl

theorem walk_SignParts (w : World) (a0 a1 : Int) (_ : I a0) (_ : I a1) (a2 a3 : Int) (_ : I a2) (_ : I a3) (a4 a5 : Int) (_ : I a4) (_ : I a5) (a6 a7 : Int) (_ : I a6) (_ : I a7) :
    Calls Try.prog 10 #[.agg #[.int .i64 a0, .int .i64 a1], .agg #[.int .i64 a2, .int .i64 a3], .agg #[.int .i64 a4, .int .i64 a5], .agg #[.int .i64 a6, .int .i64 a7]] w fun e w' => e = .returned (.bool true) ∧ Gr w w' :=
  Sx.flat_run (Sx.c_SignParts w) rfl [a0, a1, a2, a3, a4, a5, a6, a7] rfl

theorem walk_SignDoes (w : World) (a0 a1 : Int) (_ : I a0) (_ : I a1) (a2 a3 : Int) (_ : I a2) (_ : I a3) (a4 a5 : Int) (_ : I a4) (_ : I a5) (a6 a7 a8 : Int) (_ : I a6) (_ : I a7) (_ : I a8) (a9 a10 a11 : Int) (_ : I a9) (_ : I a10) (_ : I a11) (a12 a13 a14 : Int) (_ : I a12) (_ : I a13) (_ : I a14) (a15 a16 a17 : Int) (_ : I a15) (_ : I a16) (_ : I a17) :
    Calls Try.prog 8 #[.agg #[.int .i64 a0, .int .i64 a1], .agg #[.int .i64 a2, .int .i64 a3], .agg #[.int .i64 a4, .int .i64 a5], .agg #[.int .i64 a6, .int .i64 a7, .int .i64 a8], .agg #[.int .i64 a9, .int .i64 a10, .int .i64 a11], .agg #[.int .i64 a12, .int .i64 a13, .int .i64 a14], .agg #[.int .i64 a15, .int .i64 a16, .int .i64 a17]] w fun e w' => e = .returned (.bool true) ∧ Gr w w' :=
  Sx.flat_run (Sx.c_SignDoes w) rfl [a0, a1, a2, a3, a4, a5, a6, a7, a8, a9, a10, a11, a12, a13, a14, a15, a16, a17] rfl

theorem walk_SignMoves (w : World) (a0 a1 : Int) (_ : I a0) (_ : I a1) (a2 a3 : Int) (_ : I a2) (_ : I a3) (a4 a5 : Int) (_ : I a4) (_ : I a5) (a6 a7 : Int) (_ : I a6) (_ : I a7) (a8 a9 a10 : Int) (_ : I a8) (_ : I a9) (_ : I a10) (a11 a12 a13 : Int) (_ : I a11) (_ : I a12) (_ : I a13) (a14 a15 a16 : Int) (_ : I a14) (_ : I a15) (_ : I a16) (a17 a18 a19 : Int) (_ : I a17) (_ : I a18) (_ : I a19) (a20 a21 a22 : Int) (_ : I a20) (_ : I a21) (_ : I a22) :
    Calls Try.prog 11 #[.agg #[.int .i64 a0, .int .i64 a1], .agg #[.int .i64 a2, .int .i64 a3], .agg #[.int .i64 a4, .int .i64 a5], .agg #[.int .i64 a6, .int .i64 a7], .agg #[.int .i64 a8, .int .i64 a9, .int .i64 a10], .agg #[.int .i64 a11, .int .i64 a12, .int .i64 a13], .agg #[.int .i64 a14, .int .i64 a15, .int .i64 a16], .agg #[.int .i64 a17, .int .i64 a18, .int .i64 a19], .agg #[.int .i64 a20, .int .i64 a21, .int .i64 a22]] w fun e w' => e = .returned (.bool true) ∧ Gr w w' :=
  Sx.flat_run (Sx.c_SignMoves w) rfl [a0, a1, a2, a3, a4, a5, a6, a7, a8, a9, a10, a11, a12, a13, a14, a15, a16, a17, a18, a19, a20, a21, a22] rfl

end Go.Proofs.Ytjnnonhapjdjoaa
