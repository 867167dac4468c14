/- A row that came in is no longer than its room. -/
import Derived.Test.YtfkgjpdipdllhaaOr
set_option linter.unusedVariables false
namespace Go.Proofs.Ytfkgjpdipdllhaa.Oi
open Go.ChangeShapes Go.WideShapes Go.ChangeAt Go.RowKit
section
variable {H : Type} {enc : TypeId × Value → H} {P : Program} {w : World} {base : Nat} {spare : Nat → Bool} {held : Bool}
theorem open_cap {t e : TypeId} {fuel : Nat} {a : Option Addr} {len cap : Nat} {x : DataW H × List MemPlace} (ht : P.underlying t = some (.slice e)) (h : DataW.trod enc P w base spare held fuel t [.slice a len cap] = some x) : len ≤ cap := by
  rcases DataW.trod_slice ht h with h0 | ⟨a, len, cap, elems, rest, n, _, hcs, rfl, hb, hl, hmx, hlen, hel, hsp, hns⟩
  · have := h0.1; simp at this; omega
  · simp at hcs
    obtain ⟨_, rfl, rfl⟩ := hcs
    omega
end
end Go.Proofs.Ytfkgjpdipdllhaa.Oi
