/- Contracts, reckoned. -/
import Derived.Test.YtfkgjpdipdllhaaL4
import Derived.KernelRfl
set_option linter.unusedVariables false
set_option linter.unusedSimpArgs false
namespace Go.Proofs.Ytfkgjpdipdllhaa.Sx
open Go.RowKit

theorem cr2_b {a b c d : Int} (ha : -32768 ≤ a ∧ a ≤ 32768) (hb : -32768 ≤ b ∧ b ≤ 32768) (hc : -32768 ≤ c ∧ c ≤ 32768) (hd : -32768 ≤ d ∧ d ≤ 32768) : -2147483648 ≤ cr2 a b c d ∧ cr2 a b c d ≤ 2147483648 := by
  have h1 := mul_bd (M := 32768) (N := 32768) 1073741824 (by decide) ha hd
  have h2 := mul_bd (M := 32768) (N := 32768) 1073741824 (by decide) hb hc
  unfold cr2; omega
theorem axis_012 (x y z : Int) : axis x y z = 0 ∨ axis x y z = 1 ∨ axis x y z = 2 := by
  unfold axis; (repeat' split) <;> simp

noncomputable def cx5 : Cx := ⟨cx4.ty, cx4.fn, [] ++ cx4.con, cx4.inl, cx4.eqs⟩
theorem cx5_ok (W : World) : ∀ l, Any l → CxOk Try.prog (E.at l) W cx5 :=
  cx_more (cx4_ok W) ((fun _ h => by cases h))
end Go.Proofs.Ytfkgjpdipdllhaa.Sx
