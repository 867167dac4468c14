/- What HitDoes hands the reckoner. -/
import Derived.Test.YtfpnkcmplmkghaaRw
import Derived.Test.YtfpnkcmplmkghaaS10
import Derived.Test.YtfpnkcmplmkghaaHf
import Derived.Test.YtfpnkcmplmkghaaHr
import Derived.Test.YtfpnkcmplmkghaaHo
import Derived.KernelRfl
set_option linter.unusedVariables false
namespace Go.Proofs.Ytfpnkcmplmkghaa.Sx
open Go.RowKit


noncomputable def c_Hd : Cx := ⟨cs10.ty, cs10.fn, [flatCon 18 [.g 3, .g 3, .g 9] [.b, .i] 16 noChk,
  flatCon 19 [.g 3, .g 3, .g 9] [.b, .i] 16 noChk,
  flatCon 20 [.g 3, .g 9] [.i, .i] 15 noChk,
  flatCon 21 [.g 3, .g 9] [.i, .i] 15 noChk,
  flatCon 24 [] [.b] 20 noChk,
  ptCon 22 [.g 0 3, .g 3 3, .r 0] (.tuple [.int (.var 15), .bool (.eq (.var 16) (.lit 1)), .int (.var 17)]),
  ptCon 23 [.g 0 3, .g 3 3, .r 1] (.tuple [.int (.var 15), .bool (.eq (.var 16) (.lit 1)), .int (.var 17)]),
  ptCon 25 [.r 0, .r 1] (.bool (.blit true))], cs10.inl, cs10.eqs⟩
noncomputable def code_Hd : Code := match Try.f4.body with
  | some c => tailC 3 c
  | none => .skip
def tm_Hd : List AV := [.any, .any, .any, .raw 0, .ptr (some (0, 0)), .ptr (some (1, 0)), .ptr (some (2, 0)), .any, .bool (.blit false), .raw 1] ++ List.replicate 102 .any
def bx_Hd : List (Nat × Nat × TypeId) := [(0, 3, 29), (3, 3, 29), (6, 9, 30)]
noncomputable def run_Hd : Tree (Ex × St) := aexec c_Hd (acall c_Hd 18) 100000 code_Hd [] ⟨tm_Hd, boxesHp bx_Hd⟩
end Go.Proofs.Ytfpnkcmplmkghaa.Sx
