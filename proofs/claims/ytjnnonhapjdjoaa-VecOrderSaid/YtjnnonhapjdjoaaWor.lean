/- The walk of VecOrder. -/
import Derived.Test.YtjnnonhapjdjoaaWo0
import Derived.Test.YtjnnonhapjdjoaaWo1
import Derived.Test.YtjnnonhapjdjoaaWo2
import Derived.Test.YtjnnonhapjdjoaaWo3
set_option linter.unusedVariables false
namespace Go.Proofs.Ytjnnonhapjdjoaa
open Go.RowKit
open Vc

set_option maxRecDepth 100000 in
set_option maxHeartbeats 2000000 in
theorem walk_VecOrder (w : World) (a1 a2 a3 : Int) (ia1 : I a1) (ia2 : I a2) (ia3 : I a3) (b1 b2 b3 : Int) (ib1 : I b1) (ib2 : I b2) (ib3 : I b3) (c1 c2 c3 : Int) (ic1 : I c1) (ic2 : I c2) (ic3 : I c3) :
    Calls Try.prog 6 #[.agg #[.int .i64 a1, .int .i64 a2, .int .i64 a3], .agg #[.int .i64 b1, .int .i64 b2, .int .i64 b3], .agg #[.int .i64 c1, .int .i64 c2, .int .i64 c3]] w fun e w' => e = .returned (.bool true) ∧ Gr w w' := by
  have HA := And.intro ia1 (And.intro ia2 ia3)
  by_cases hd : a1 = b1
  · subst hd
    by_cases hd : a2 = b2
    · subst hd
      by_cases hd : a3 = b3
      · subst hd
        exact ord_0ffn w _ _ _ _ _ _ HA (ls_false.2 (by omega)) (ls_false.2 (by omega))
      · skip
        by_cases hab : ls ⟨a1, a2, a3⟩ ⟨a1, a2, b3⟩ = true
        · have h1 := ls_iff.1 hab
          have hba : ls ⟨a1, a2, b3⟩ ⟨a1, a2, a3⟩ = false := ls_false.2 (by omega)
          by_cases hbc : ls ⟨a1, a2, b3⟩ ⟨c1, c2, c3⟩ = true
          · have h2 := ls_iff.1 hbc
            exact ord_3tft w _ _ _ _ _ _ _ HA hd hab hba hbc (ls_iff.2 (by omega))
          · exact ord_3tff w _ _ _ _ _ _ _ HA hd hab hba ((Bool.not_eq_true _).mp hbc)
        · have hab' := (Bool.not_eq_true _).mp hab
          have h1 := ls_false.1 hab'
          exact ord_3ftn w _ _ _ _ _ _ _ HA hd hab' (ls_iff.2 (by omega))
    · skip
      by_cases hab : ls ⟨a1, a2, a3⟩ ⟨a1, b2, b3⟩ = true
      · have h1 := ls_iff.1 hab
        have hba : ls ⟨a1, b2, b3⟩ ⟨a1, a2, a3⟩ = false := ls_false.2 (by omega)
        by_cases hbc : ls ⟨a1, b2, b3⟩ ⟨c1, c2, c3⟩ = true
        · have h2 := ls_iff.1 hbc
          exact ord_2tft w _ _ _ _ _ _ _ _ HA hd hab hba hbc (ls_iff.2 (by omega))
        · exact ord_2tff w _ _ _ _ _ _ _ _ HA hd hab hba ((Bool.not_eq_true _).mp hbc)
      · have hab' := (Bool.not_eq_true _).mp hab
        have h1 := ls_false.1 hab'
        exact ord_2ftn w _ _ _ _ _ _ _ _ HA hd hab' (ls_iff.2 (by omega))
  · skip
    by_cases hab : ls ⟨a1, a2, a3⟩ ⟨b1, b2, b3⟩ = true
    · have h1 := ls_iff.1 hab
      have hba : ls ⟨b1, b2, b3⟩ ⟨a1, a2, a3⟩ = false := ls_false.2 (by omega)
      by_cases hbc : ls ⟨b1, b2, b3⟩ ⟨c1, c2, c3⟩ = true
      · have h2 := ls_iff.1 hbc
        exact ord_1tft w _ _ _ _ _ _ _ _ _ HA hd hab hba hbc (ls_iff.2 (by omega))
      · exact ord_1tff w _ _ _ _ _ _ _ _ _ HA hd hab hba ((Bool.not_eq_true _).mp hbc)
    · have hab' := (Bool.not_eq_true _).mp hab
      have h1 := ls_false.1 hab'
      exact ord_1ftn w _ _ _ _ _ _ _ _ _ HA hd hab' (ls_iff.2 (by omega))

end Go.Proofs.Ytjnnonhapjdjoaa
