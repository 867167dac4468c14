/- Parts of the proof of TopPoint. No condition of their own. -/
import Derived.Test.YtlfoglklibhbnaaGreatTpK
set_option linter.unusedVariables false
set_option linter.unusedSimpArgs false
namespace Go.Proofs.YtlfoglklibhbnaaGreat.Sx
open Go.RowKit
inductive Pt where
 | i (k : Nat)
 | g (k n : Nat)
 | r (n : Nat)
end Go.Proofs.YtlfoglklibhbnaaGreat.Sx
