/- The walk of VecDoes, its four cases joined. -/
import Derived.Test.YtjnnonhapjdjoaaWd00
import Derived.Test.YtjnnonhapjdjoaaWd01
import Derived.Test.YtjnnonhapjdjoaaWd10
import Derived.Test.YtjnnonhapjdjoaaWd11
set_option linter.unusedVariables false
namespace Go.Proofs.Ytjnnonhapjdjoaa
open Go.RowKit
open Vc

set_option maxRecDepth 100000 in
set_option maxHeartbeats 2000000 in
theorem walk_VecDoes (w : World) (a1 a2 a3 : Int) (ia1 : I a1) (ia2 : I a2) (ia3 : I a3) (b1 b2 b3 : Int) (ib1 : I b1) (ib2 : I b2) (ib3 : I b3) (c1 c2 : Int) (ic1 : I c1) (ic2 : I c2) (d1 d2 : Int) (id1 : I d1) (id2 : I d2) (k : Int) (ik : I k) :
    Calls Try.prog 7 #[.agg #[.int .i64 a1, .int .i64 a2, .int .i64 a3], .agg #[.int .i64 b1, .int .i64 b2, .int .i64 b3], .agg #[.int .i64 c1, .int .i64 c2], .agg #[.int .i64 d1, .int .i64 d2], .int .i64 k] w fun e w' => e = .returned (.bool true) ∧ Gr w w' := by
  by_cases hc : nr2 ⟨c1, c2⟩ = true
  · by_cases ha : nr3 ⟨a1, a2, a3⟩ = true
    · exact does_tt w a1 a2 a3 ia1 ia2 ia3 b1 b2 b3 ib1 ib2 ib3 c1 c2 ic1 ic2 d1 d2 id1 id2 k ik hc ha
    · exact does_tf w a1 a2 a3 ia1 ia2 ia3 b1 b2 b3 ib1 ib2 ib3 c1 c2 ic1 ic2 d1 d2 id1 id2 k ik hc ((Bool.not_eq_true _).mp ha)
  · by_cases ha : nr3 ⟨a1, a2, a3⟩ = true
    · exact does_ft w a1 a2 a3 ia1 ia2 ia3 b1 b2 b3 ib1 ib2 ib3 c1 c2 ic1 ic2 d1 d2 id1 id2 k ik ((Bool.not_eq_true _).mp hc) ha
    · exact does_ff w a1 a2 a3 ia1 ia2 ia3 b1 b2 b3 ib1 ib2 ib3 c1 c2 ic1 ic2 d1 d2 id1 id2 k ik ((Bool.not_eq_true _).mp hc) ((Bool.not_eq_true _).mp ha)

end Go.Proofs.Ytjnnonhapjdjoaa
