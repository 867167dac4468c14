/- What SlabDoes hands the reckoner. -/
import Derived.Test.YtfpnkcmplmkghaaRw
import Derived.Test.YtfpnkcmplmkghaaQb
import Derived.Test.YtfpnkcmplmkghaaTz
import Derived.KernelRfl
set_option linter.unusedVariables false
namespace Go.Proofs.Ytfpnkcmplmkghaa.Sx
open Go.RowKit


noncomputable def c_Sd : Cx := ⟨cs9x.ty, cs9x.fn, [flatCon 54 [.g 6, .g 6] [.g 6, .i] 55 noChk,
  flatCon 55 [.g 6, .g 6] [.g 6, .i] 55 noChk,
  flatCon 56 [.g 3, .g 3, .g 6] [.b, .i] 54 noChk,
  flatCon 57 [.g 3, .g 3, .g 6] [.b, .i] 54 noChk,
  flatCon 58 [.g 6] [.i, .i] 62 noChk,
  flatCon 59 [.g 6] [.i, .i] 62 noChk,
  flatCon 61 [.g 6] [.b] 53 noChk,
  flatCon 62 [.g 6] [.b] 53 noChk,
  flatCon 63 [.g 6, .g 3] [.b] 63 noChk,
  flatCon 64 [.g 6, .g 3] [.b] 63 noChk,
  flatCon 60 [] [.b] 20 noChk,
  ptCon 52 [.r 0] (.tuple [.agg [.int (.var 18), .int (.var 19), .int (.var 20), .int (.var 21), .int (.var 22), .int (.var 23)], .int (.var 24)]),
  ptCon 53 [.r 0] (.tuple [.agg [.int (.var 18), .int (.var 19), .int (.var 20), .int (.var 21), .int (.var 22), .int (.var 23)], .int (.var 24)])], cs9x.inl, cs9x.eqs⟩
noncomputable def code_Sd : Code := match Try.f12.body with
  | some c => tailC 2 c
  | none => .skip
def tm_Sd : List AV := [.any, .any, .any, .any, .raw 0, .ptr (some (0, 0)), .ptr (some (1, 0)), .ptr (some (2, 0)), .ptr (some (3, 0)), .any, .bool (.blit false)] ++ List.replicate 122 .any
def bx_Sd : List (Nat × Nat × TypeId) := [(0, 3, 29), (3, 3, 29), (6, 6, 69), (12, 6, 69)]
noncomputable def run_Sd : Tree (Ex × St) := aexec c_Sd (acall c_Sd 18) 100000 code_Sd [] ⟨tm_Sd, boxesHp bx_Sd⟩
end Go.Proofs.Ytfpnkcmplmkghaa.Sx
