/- meet.In: what a round does, reckoned (all but its last store). -/
import Derived.Test.YtfkgjpdipdllhaaMr
import Derived.Test.YtfkgjpdipdllhaaEp
import Derived.KernelRfl
set_option linter.unusedVariables false
namespace Go.Proofs.Ytfkgjpdipdllhaa.Sx
open Go.RowKit

noncomputable def rgI : List Oper := regionOf Try.f20 8
noncomputable def l0I : List Oper := rgI.take 5
noncomputable def oI : Oper := rgI.getD 5 ⟨none, .move (.const undef), 0, "", #[], none⟩
def tmI : List AV := [.any, .any, .ptr (some (1, 0)), .any, .any, .any, .ptr (some (0, 0)), .func (.func 43) [] [.ptr (some (2, 0)), .ptr (some (3, 0)), .ptr (some (4, 0))]] ++ List.replicate 19 .any
def bxI : List (Nat × Nat × TypeId) := [(0, 1, 3), (1, 2, 24), (3, 2, 24), (5, 2, 24), (7, 1, 3)]
def lookI (s : St) : Option AV × Option AV := (s.tm[6]?, s.tm[24]?)
noncomputable def runI : Tree (Option AV × Option AV) := (aregion cm1 (acall cm1 18) l0I [] ⟨tmI, boxesHp bxI⟩).map lookI
def eI : SE := (.ite (.lt (.mul (.var 7) (.app 11 0 (.cons (.var 3) (.cons (.var 4) (.cons (.var 5) (.cons (.var 6) (.cons (.var 1) (.cons (.var 2) .nil)))))))) (.var 0)) (.mul (.var 7) (.app 11 0 (.cons (.var 3) (.cons (.var 4) (.cons (.var 5) (.cons (.var 6) (.cons (.var 1) (.cons (.var 2) .nil)))))))) (.var 0))
theorem k_I : runI = .leaf (some (.ptr (some (0, 0))), some (.int eI)) := by kernel_rfl
theorem nd_I : ((l0I ++ [oI]).all fun o => !isDef o) = true := by kernel_rfl
theorem ed_I : edgesOk 0 (l0I ++ [oI]) = true := by kernel_rfl
theorem ab_I : allBits ((befores (l0I ++ [oI]) []).getD l0I.length 0) l0I.length = true := by kernel_rfl
theorem gl_I : guardsLt l0I.length l0I = true := by kernel_rfl
end Go.Proofs.Ytfkgjpdipdllhaa.Sx
