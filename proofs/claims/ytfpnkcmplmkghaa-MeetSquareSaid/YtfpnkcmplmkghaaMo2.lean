/- Contracts, reckoned. -/
import Derived.Test.YtfpnkcmplmkghaaMo1
import Derived.KernelRfl
set_option linter.unusedVariables false
set_option linter.unusedSimpArgs false
namespace Go.Proofs.Ytfpnkcmplmkghaa.Sx
open Go.RowKit


def R_met : AV := (.bool (.ite (.app 59 0 (.cons (.lit 0) (.cons (.lit 0) (.cons (.lit 4) (.cons (.lit 0) (.cons (.lit 0) (.cons (.lit 4) (.cons (.lit 4) (.cons (.lit 4) (.cons (.lit 4) (.cons (.lit 0) (.cons (.lit 0) (.cons (.lit 4) .nil))))))))))))) (.blit false) (.ite (.eq (.app 59 0 (.cons (.lit 0) (.cons (.lit 0) (.cons (.lit 4) (.cons (.lit 0) (.cons (.lit 0) (.cons (.lit 4) (.cons (.lit 4) (.cons (.lit 4) (.cons (.lit 4) (.cons (.lit 0) (.cons (.lit 0) (.cons (.lit 4) .nil))))))))))))) (.lit 0)) (.ite (.app 60 0 (.cons (.lit 0) (.cons (.lit 0) (.cons (.lit 4) (.cons (.lit 0) (.cons (.lit 0) (.cons (.lit 4) (.cons (.lit 4) (.cons (.lit 4) (.cons (.lit 4) (.cons (.lit 0) (.cons (.lit 0) (.cons (.lit 4) .nil))))))))))))) (.ite (.eq (.app 60 0 (.cons (.lit 0) (.cons (.lit 0) (.cons (.lit 4) (.cons (.lit 0) (.cons (.lit 0) (.cons (.lit 4) (.cons (.lit 4) (.cons (.lit 4) (.cons (.lit 4) (.cons (.lit 0) (.cons (.lit 0) (.cons (.lit 4) .nil))))))))))))) (.app 59 0 (.cons (.lit 0) (.cons (.lit 0) (.cons (.lit 4) (.cons (.lit 0) (.cons (.lit 0) (.cons (.lit 4) (.cons (.lit 4) (.cons (.lit 4) (.cons (.lit 4) (.cons (.lit 0) (.cons (.lit 0) (.cons (.lit 4) .nil)))))))))))))) (.ite (.eq (.app 57 0 (.cons (.lit 1) (.cons (.lit 1) (.cons (.lit 0) (.cons (.lit 0) (.cons (.lit 4) (.cons (.lit 0) (.cons (.lit 0) (.cons (.lit 4) .nil))))))))) (.lit 2)) (.ite (.eq (.app 57 1 (.cons (.lit 1) (.cons (.lit 1) (.cons (.lit 0) (.cons (.lit 0) (.cons (.lit 4) (.cons (.lit 0) (.cons (.lit 0) (.cons (.lit 4) .nil))))))))) (.app 59 0 (.cons (.lit 0) (.cons (.lit 0) (.cons (.lit 4) (.cons (.lit 0) (.cons (.lit 0) (.cons (.lit 4) (.cons (.lit 4) (.cons (.lit 4) (.cons (.lit 4) (.cons (.lit 0) (.cons (.lit 0) (.cons (.lit 4) .nil)))))))))))))) (.ite (.eq (.app 57 0 (.cons (.lit 2) (.cons (.lit 2) (.cons (.lit 0) (.cons (.lit 0) (.cons (.lit 4) (.cons (.lit 0) (.cons (.lit 0) (.cons (.lit 4) .nil))))))))) (.lit 1)) (.ite (.eq (.app 57 1 (.cons (.lit 2) (.cons (.lit 2) (.cons (.lit 0) (.cons (.lit 0) (.cons (.lit 4) (.cons (.lit 0) (.cons (.lit 0) (.cons (.lit 4) .nil))))))))) (.app 59 0 (.cons (.lit 0) (.cons (.lit 0) (.cons (.lit 4) (.cons (.lit 0) (.cons (.lit 0) (.cons (.lit 4) (.cons (.lit 4) (.cons (.lit 4) (.cons (.lit 4) (.cons (.lit 0) (.cons (.lit 0) (.cons (.lit 4) .nil)))))))))))))) (.ite (.eq (.app 57 0 (.cons (.lit 3) (.cons (.lit 3) (.cons (.lit 0) (.cons (.lit 0) (.cons (.lit 4) (.cons (.lit 0) (.cons (.lit 0) (.cons (.lit 4) .nil))))))))) (.lit 0)) (.ite (.eq (.app 57 1 (.cons (.lit 3) (.cons (.lit 3) (.cons (.lit 0) (.cons (.lit 0) (.cons (.lit 4) (.cons (.lit 0) (.cons (.lit 0) (.cons (.lit 4) .nil))))))))) (.app 59 0 (.cons (.lit 0) (.cons (.lit 0) (.cons (.lit 4) (.cons (.lit 0) (.cons (.lit 0) (.cons (.lit 4) (.cons (.lit 4) (.cons (.lit 4) (.cons (.lit 4) (.cons (.lit 0) (.cons (.lit 0) (.cons (.lit 4) .nil)))))))))))))) (.ite (.app 61 0 (.cons (.lit 4) (.cons (.lit 0) (.cons (.lit 2) (.cons (.lit 0) (.cons (.lit 0) (.cons (.lit 4) (.cons (.lit 0) (.cons (.lit 0) (.cons (.lit 4) .nil)))))))))) (.ite (.eq (.app 61 0 (.cons (.lit 4) (.cons (.lit 0) (.cons (.lit 2) (.cons (.lit 0) (.cons (.lit 0) (.cons (.lit 4) (.cons (.lit 0) (.cons (.lit 0) (.cons (.lit 4) .nil)))))))))) (.app 59 0 (.cons (.lit 0) (.cons (.lit 0) (.cons (.lit 4) (.cons (.lit 0) (.cons (.lit 0) (.cons (.lit 4) (.cons (.lit 4) (.cons (.lit 4) (.cons (.lit 4) (.cons (.lit 0) (.cons (.lit 0) (.cons (.lit 4) .nil)))))))))))))) (.ite (.eq (.app 60 0 (.cons (.lit 0) (.cons (.lit 0) (.cons (.lit 4) (.cons (.lit 0) (.cons (.lit 0) (.cons (.lit 4) (.cons (.lit 0) (.cons (.lit 0) (.cons (.lit 0) (.cons (.lit 0) (.cons (.lit 0) (.cons (.lit 0) .nil))))))))))))) (.lit 1)) (.app 56 0 (.cons (.lit 0) (.cons (.lit 0) (.cons (.lit 4) (.cons (.lit 0) (.cons (.lit 0) (.cons (.lit 4) .nil))))))) (.blit false)) (.blit false)) (.blit false)) (.blit false)) (.blit false)) (.blit false)) (.blit false)) (.blit false)) (.blit false)) (.blit false)) (.blit false)) (.blit false))))
theorem k_met : acall cm4 20 false 34 [] (argsG [] 0 0) (heapG [] 0) = .leaf (R_met, heapG [] 0) := by kernel_rfl
set_option maxHeartbeats 4000000 in
set_option maxRecDepth 20000 in
theorem v_met : ∀ l : List Int, l.length = lenSh [] → Any l → valOf (E.at l) R_met = some (tupleV (resV E 20 l [.b] 0 0)) := by
  intro l hl hG
  have h0 : l.length = 0 := hl
  clear hl
  obtain rfl := cut0 h0
  clear h0
  show valOf (E.at []) R_met = some (.bool true)
  kernel_rfl

theorem c_met (W : World) : Flat Try.prog E W Any 34 [] fun l => tupleV (resV E 20 l [.b] 0 0) := flat_val (cm4_ok W) k_met v_met

noncomputable def cm5 : Cx := ⟨cm4.ty, cm4.fn, [flatCon 34 [] [.b] 20 noChk] ++ cm4.con, cm4.inl, cm4.eqs⟩
theorem cm5_ok (W : World) : ∀ l, Any l → CxOk Try.prog (E.at l) W cm5 :=
  cx_more (cm4_ok W) (List.forall_mem_cons.2 ⟨flat_con' (c_met W), (fun _ h => by cases h)⟩)
end Go.Proofs.Ytfpnkcmplmkghaa.Sx
