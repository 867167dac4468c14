/- meet.apart over 4 points: what a round does, reckoned (all but its last branch). -/
import Derived.Test.YtfpnkcmplmkghaaMr
import Derived.Test.YtfpnkcmplmkghaaEp
import Derived.KernelRfl
set_option linter.unusedVariables false
namespace Go.Proofs.Ytfpnkcmplmkghaa.Sx
open Go.RowKit

def codesA4 : Code → Option (Code × Code × Code × Code)
  | .seq _ (.seq (.seq _ (.block _ (.rangeFunc _ _ _ (.block _ (.seq A (.seq B (.seq C D)))))) ) _) => some (A, B, C, D)
  | _ => none
noncomputable def cA4 : Code × Code × Code × Code := ((Try.f89.body.bind codesA4).getD (.skip, .skip, .skip, .skip))
def tmA4 : List AV := [.any, .any, .any, .any, .ptr (some (1, 0)), .ptr (some (2, 0)), .ptr (some (0, 0)), .func (.func 120) [] [.ptr (some (4, 0)), .ptr (some (5, 0)), .ptr (some (6, 0))]] ++ List.replicate 22 .any
def bxA4 : List (Option (List AV × TypeId)) := [none, some ([.int (.var 0)], 3), some ([.slice (some (3, 0)) 4 4], 109), some (vars 6 8, 43), some (vars 1 2, 43), some (vars 3 2, 43), some (vars 5 1, 3)]
def lookA4 (r : Ex × St) : Bool × Option AV × Option AV := (match r.1 with | .normal => true | _ => false, r.2.tm[29]?, r.2.tm[6]?)
noncomputable def runA4 : Tree (Bool × Option AV × Option AV) := (aexec cm1 (acall cm1 18) 100002 (cA4.1.seq (cA4.2.1.seq cA4.2.2.1)) [] ⟨tmA4, boxesHp2 bxA4⟩).map lookA4
def eA4 : SE := (.ite (.ite (.ite (.lt (.mul (.var 5) (.app 11 0 (.cons (.var 1) (.cons (.var 2) (.cons (.var 3) (.cons (.var 4) (.cons (.var 6) (.cons (.var 7) .nil)))))))) (.var 0)) (.lt (.mul (.var 5) (.app 11 0 (.cons (.var 1) (.cons (.var 2) (.cons (.var 3) (.cons (.var 4) (.cons (.var 8) (.cons (.var 9) .nil)))))))) (.var 0)) (.blit false)) (.lt (.mul (.var 5) (.app 11 0 (.cons (.var 1) (.cons (.var 2) (.cons (.var 3) (.cons (.var 4) (.cons (.var 10) (.cons (.var 11) .nil)))))))) (.var 0)) (.blit false)) (.lt (.mul (.var 5) (.app 11 0 (.cons (.var 1) (.cons (.var 2) (.cons (.var 3) (.cons (.var 4) (.cons (.var 12) (.cons (.var 13) .nil)))))))) (.var 0)) (.blit false))
theorem k_A4 : runA4 = .leaf (true, some (.bool eA4), some (.ptr (some (0, 0)))) := by kernel_rfl
theorem nd_A4 : noDef cA4.1 = true ∧ noDef cA4.2.1 = true ∧ noDef cA4.2.2.1 = true := ⟨by kernel_rfl, by kernel_rfl, by kernel_rfl⟩
end Go.Proofs.Ytfpnkcmplmkghaa.Sx
