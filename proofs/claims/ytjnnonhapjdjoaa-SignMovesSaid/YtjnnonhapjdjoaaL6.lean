/- Contracts, reckoned. -/
import Derived.Test.YtjnnonhapjdjoaaL5
import Derived.KernelRfl
set_option linter.unusedVariables false
set_option linter.unusedSimpArgs false
namespace Go.Proofs.Ytjnnonhapjdjoaa.Sx
open Go.RowKit


def R_sided : AV := (.bool (.ite (.eq (.app 10 1 (.cons (.lit 0) (.cons (.lit 0) (.cons (.lit 2) (.cons (.lit 0) (.cons (.lit 0) (.cons (.lit 3) .nil))))))) (.lit 0)) (.ite (.eq (.app 10 0 (.cons (.lit 0) (.cons (.lit 0) (.cons (.lit 2) (.cons (.lit 0) (.cons (.lit 0) (.cons (.lit 3) .nil))))))) (.lit 6)) (.ite (.eq (.app 11 1 (.cons (.lit 0) (.cons (.lit 0) (.cons (.lit 0) (.cons (.lit 1) (.cons (.lit 1) (.cons (.lit 0) .nil))))))) (.app 10 1 (.cons (.lit 0) (.cons (.lit 0) (.cons (.lit 2) (.cons (.lit 0) (.cons (.lit 0) (.cons (.lit 3) .nil)))))))) (.ite (.eq (.app 11 0 (.cons (.lit 0) (.cons (.lit 0) (.cons (.lit 0) (.cons (.lit 1) (.cons (.lit 1) (.cons (.lit 0) .nil))))))) (.lit (-1))) (.ite (.eq (.app 13 1 (.cons (.lit 0) (.cons (.lit 0) (.cons (.lit 0) (.cons (.lit 1) (.cons (.lit 0) (.cons (.lit 0) (.cons (.lit 0) (.cons (.lit 1) (.cons (.lit 0) (.cons (.lit 5) (.cons (.lit 5) (.cons (.lit (-7)) .nil))))))))))))) (.app 10 1 (.cons (.lit 0) (.cons (.lit 0) (.cons (.lit 2) (.cons (.lit 0) (.cons (.lit 0) (.cons (.lit 3) .nil)))))))) (.ite (.eq (.app 13 0 (.cons (.lit 0) (.cons (.lit 0) (.cons (.lit 0) (.cons (.lit 1) (.cons (.lit 0) (.cons (.lit 0) (.cons (.lit 0) (.cons (.lit 1) (.cons (.lit 0) (.cons (.lit 5) (.cons (.lit 5) (.cons (.lit (-7)) .nil))))))))))))) (.lit (-7))) (.ite (.eq (.app 14 2 (.cons (.lit 0) (.cons (.lit 0) (.cons (.lit 0) (.cons (.lit 1) (.cons (.lit 0) (.cons (.lit 0) (.cons (.lit 0) (.cons (.lit 1) (.cons (.lit 0) .nil)))))))))) (.app 10 1 (.cons (.lit 0) (.cons (.lit 0) (.cons (.lit 2) (.cons (.lit 0) (.cons (.lit 0) (.cons (.lit 3) .nil)))))))) (.ite (.eq (.app 14 0 (.cons (.lit 0) (.cons (.lit 0) (.cons (.lit 0) (.cons (.lit 1) (.cons (.lit 0) (.cons (.lit 0) (.cons (.lit 0) (.cons (.lit 1) (.cons (.lit 0) .nil)))))))))) (.lit 2)) (.ite (.eq (.app 14 1 (.cons (.lit 0) (.cons (.lit 0) (.cons (.lit 0) (.cons (.lit 1) (.cons (.lit 0) (.cons (.lit 0) (.cons (.lit 0) (.cons (.lit 1) (.cons (.lit 0) .nil)))))))))) (.lit 1)) (.ite (.eq (.app 11 1 (.cons (.lit 4097) (.cons (.lit 0) (.cons (.lit 0) (.cons (.lit 0) (.cons (.lit 0) (.cons (.lit 0) .nil))))))) (.lit 5)) (.ite (.eq (.app 14 2 (.cons (.lit 0) (.cons (.lit 0) (.cons (.lit 0) (.cons (.lit 0) (.cons (.lit 0) (.cons (.lit 0) (.cons (.lit 0) (.cons (.lit 0) (.cons (.lit 0) .nil)))))))))) (.lit 3)) (.app 2 0 (.cons (.lit 0) (.cons (.lit 0) (.cons (.lit 16384) .nil)))) (.blit false)) (.blit false)) (.blit false)) (.blit false)) (.blit false)) (.blit false)) (.blit false)) (.blit false)) (.blit false)) (.blit false)) (.blit false)))
theorem k_sided : acall cx5 20 false 44 [] (argsG [] 0 0) (heapG [] 0) = .leaf (R_sided, heapG [] 0) := by kernel_rfl
set_option maxRecDepth 20000 in
theorem v_sided : ∀ l : List Int, l.length = lenSh [] → valOf (E.at l) R_sided = some (tupleV (resV E 20 l [.b] 0 0)) := by
  intro l hl
  have h0 : l.length = 0 := hl
  clear hl
  obtain rfl := cut0 h0
  clear h0
  show valOf (E.at []) R_sided = some (.bool true)
  kernel_rfl

theorem c_sided (W : World) : Flat Try.prog E W 44 [] fun l => tupleV (resV E 20 l [.b] 0 0) := flat_val (cx5_ok W) k_sided v_sided

noncomputable def cx6 : Cx := ⟨cx5.ty, cx5.fn, [flatCon 44 [] [.b] 20] ++ cx5.con, cx5.inl, cx5.eqs⟩
theorem cx6_ok (W : World) : ∀ l, CxOk Try.prog (E.at l) W cx6 :=
  cx_more (cx5_ok W) (List.forall_mem_cons.2 ⟨flat_con' (c_sided W), (fun _ h => by cases h)⟩)
end Go.Proofs.Ytjnnonhapjdjoaa.Sx
