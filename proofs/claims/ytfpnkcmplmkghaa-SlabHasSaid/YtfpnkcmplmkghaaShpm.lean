/- What SlabHas hands the reckoner: all behind its loops. -/
import Derived.Test.YtfpnkcmplmkghaaRw
import Derived.Test.YtfpnkcmplmkghaaS0
import Derived.KernelRfl
set_option linter.unusedVariables false
namespace Go.Proofs.Ytfpnkcmplmkghaa.Sx
open Go.RowKit
noncomputable def code_Sh : Code := match Try.f13.body with
  | some c => tailC 5 c
  | none => .skip
def tm_Sh : List AV := [.any, .any, .any, .any, .ptr (some (0, 0)), .ptr (some (1, 0)), .any] ++ List.replicate 154 .any
def bx_Sh : List (Nat × Nat × TypeId) := [(0, 6, 69), (6, 6, 69)]
noncomputable def run_Sh : Tree (Ex × St) := aexec cs9x (acall cs9x 18) 100000 code_Sh [] ⟨tm_Sh, boxesHp bx_Sh⟩
end Go.Proofs.Ytfpnkcmplmkghaa.Sx
