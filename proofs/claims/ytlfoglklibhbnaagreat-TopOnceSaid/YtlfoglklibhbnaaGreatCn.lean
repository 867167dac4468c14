/- More common words: a region that draws its order, reads, and calls what makes memory. Nothing of the program. -/
import Derived.Test.YtlfoglklibhbnaaGreatCm
import Derived.Deep.QuietTactic
import Derived.BigQuiet
set_option linter.unusedVariables false
namespace Go.Proofs.YtlfoglklibhbnaaGreat
open Go.RowKit

instance GW.some (W : World) : Nonempty (GW W) := ⟨⟨W, Gr.refl W⟩⟩

theorem wp_region_gr {P : Program} {id : Nat} {Q : Exit → Act → World → Prop} {a : Act} {w W : World} {l : List Oper} (hm : P.follows .mixedOrders = true) (hB : Region.lexB .any l.toArray = true) (hW : Gr W w)
    (h : wpQuiet P l.toArray (fun w' => ∃ x : GW W, w' = x.val) (fun a' => ∀ w', (∃ x : GW W, w' = x.val) → Q .normal a' w') l a) : (Code.region id l.toArray true).wp P Q a w :=
  wp_region_quiet (C := fun w' => ∃ x : GW W, w' = x.val) hm hB ⟨⟨_, hW.drew⟩, rfl⟩ (by simpa using h)
end Go.Proofs.YtlfoglklibhbnaaGreat
