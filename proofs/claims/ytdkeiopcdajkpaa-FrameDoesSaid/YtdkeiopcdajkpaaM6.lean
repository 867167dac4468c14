/- Contracts, reckoned. -/
import Derived.Test.YtdkeiopcdajkpaaM5
import Derived.Test.YtdkeiopcdajkpaaFp
import Derived.KernelRfl
set_option linter.unusedVariables false
set_option linter.unusedSimpArgs false
namespace Go.Proofs.Ytdkeiopcdajkpaa.Sx
open Go.RowKit


def R_FrameDoes : AV := (.bool (.app 20 0 .nil))
theorem k_FrameDoes : acall cm5 20 false 3 [] (argsG [.g 3, .g 3, .g 2] 0 0) (heapG [.g 3, .g 3, .g 2] 0) = .leaf (R_FrameDoes, heapG [.g 3, .g 3, .g 2] 0) := by kernel_rfl
set_option maxHeartbeats 4000000 in
set_option maxRecDepth 20000 in
theorem v_FrameDoes : ∀ l : List Int, l.length = lenSh [.g 3, .g 3, .g 2] → AllI l → valOf (E.at l) R_FrameDoes = some (tupleV (resV E 20 l [.b] 0 0)) := by
  intro l hl hG
  have h0 : l.length = 8 := hl
  clear hl
  obtain ⟨a0, l1, rfl, h1⟩ := cut1 h0
  clear h0
  obtain ⟨a1, l2, rfl, h2⟩ := cut1 h1
  clear h1
  obtain ⟨a2, l3, rfl, h3⟩ := cut1 h2
  clear h2
  obtain ⟨a3, l4, rfl, h4⟩ := cut1 h3
  clear h3
  obtain ⟨a4, l5, rfl, h5⟩ := cut1 h4
  clear h4
  obtain ⟨a5, l6, rfl, h6⟩ := cut1 h5
  clear h5
  obtain ⟨a6, l7, rfl, h7⟩ := cut1 h6
  clear h6
  obtain ⟨a7, l8, rfl, h8⟩ := cut1 h7
  clear h7
  obtain rfl := cut0 h8
  clear h8
  rfl

theorem c_FrameDoes (W : World) : Flat Try.prog E W AllI 3 [.g 3, .g 3, .g 2] fun l => tupleV (resV E 20 l [.b] 0 0) := flat_val (cm5_ok W) k_FrameDoes v_FrameDoes

end Go.Proofs.Ytdkeiopcdajkpaa.Sx
