/-
  No cell of these rows narrows 'for every input' (looked for: loops, veiled, ifaces, maps, wideKeys, modest, calm, conditions, laid).
  DERIVED. THE GIVEN ROWS OF THIS SEAT. 12 by the template 'for every input the law returns true; each argument reads behind the call as it read before'; 0 by the template 'total and deterministic' (their statements: YtbgcjbhaaelkhaaTotals.lean).
  GIVEN WITH THE SEED: the statements are not yours to turn. If you find one false, say at which input.
  Laid BY PROGRAM, IN A SANDBOX (cutbox-rows.mjs): the forced cells as the released guide's own fill.sh prints them over the translation f102e91c399f6bf8… (all of the seat's roots in one cut). By AI agents, Wed Nov 11 2026. No macro, syntax, notation, axiom, sorry.
-/
import Derived.Test.YtbgcjbhaaelkhaaChecked
import GoSem.Claim
import GoSem.ClaimJoined
import GoSem.ClaimMapViews
import Derived.JoinedTies
import Derived.KernelRfl
namespace Go.Proofs.Ytbgcjbhaaelkhaa
/- THE CELL 'sum', in the pinned program and in every row, IS THE sha256 OF THE DUMP (.gsa) THAT YtbgcjbhaaelkhaaProg.lean LOADS. Nothing in Lean hashes anything: it is a label: what it is worth is what the hold of that sum in a sandbox is worth. -/
noncomputable def Try.pinned : Pinned := { name := "ytbgcjbhaaelkhaa", sum := "f102e91c399f6bf87cc5ac55c9d0a1faaea75ed8b5081705f8dbccbb66fcca72", checked := Try.checked }
namespace Rows
def none {H : Type} : Left H := { results := [], args := [] }

/-- 'limewashlaw12.HitDoes': WHATEVER THE INPUT: true; the input reads as it did. -/
def hitDoesSpec : ChangeSpec := { name := "hitDoes", fn := fun _ => fun
  | [d1, d2, d3, d4] => { results := [.lit (.bool true)], args := [d1, d2, d3, d4] }
  | _ => none }
def hitDoesRow : OpenClaim := { program := "ytbgcjbhaaelkhaa", sum := "f102e91c399f6bf87cc5ac55c9d0a1faaea75ed8b5081705f8dbccbb66fcca72", func := "limewash/limewashlaw12.HitDoes", spec := "hitDoes", unfollowed := true, recurses := true, apart := false }
def HitDoesSaid : Prop := hitDoesRow.holds Try.pinned (OpenSpec.ofChange hitDoesSpec)

/-- ITS FALSE NEIGHBOUR: 'it returns false'. Refute it at one input. -/
def hitDoesWrong : ChangeSpec := { name := "hitDoes", fn := fun _ => fun
  | [d1, d2, d3, d4] => { results := [.lit (.bool false)], args := [d1, d2, d3, d4] }
  | _ => none }
def HitDoesWrongFalsely : Prop := hitDoesRow.holds Try.pinned (OpenSpec.ofChange hitDoesWrong)

/-- 'limewashlaw12.HitApart': WHATEVER THE INPUT: true; the input reads as it did. -/
def hitApartSpec : ChangeSpec := { name := "hitApart", fn := fun _ => fun
  | [d1, d2, d3] => { results := [.lit (.bool true)], args := [d1, d2, d3] }
  | _ => none }
def hitApartRow : OpenClaim := { program := "ytbgcjbhaaelkhaa", sum := "f102e91c399f6bf87cc5ac55c9d0a1faaea75ed8b5081705f8dbccbb66fcca72", func := "limewash/limewashlaw12.HitApart", spec := "hitApart", unfollowed := true, recurses := true, apart := false }
def HitApartSaid : Prop := hitApartRow.holds Try.pinned (OpenSpec.ofChange hitApartSpec)

/-- ITS FALSE NEIGHBOUR: 'it returns false'. Refute it at one input. -/
def hitApartWrong : ChangeSpec := { name := "hitApart", fn := fun _ => fun
  | [d1, d2, d3] => { results := [.lit (.bool false)], args := [d1, d2, d3] }
  | _ => none }
def HitApartWrongFalsely : Prop := hitApartRow.holds Try.pinned (OpenSpec.ofChange hitApartWrong)

/-- 'limewashlaw12.HitThrough': WHATEVER THE INPUT: true; the input reads as it did. -/
def hitThroughSpec : ChangeSpec := { name := "hitThrough", fn := fun _ => fun
  | [d1, d2, d3, d4, d5] => { results := [.lit (.bool true)], args := [d1, d2, d3, d4, d5] }
  | _ => none }
def hitThroughRow : OpenClaim := { program := "ytbgcjbhaaelkhaa", sum := "f102e91c399f6bf87cc5ac55c9d0a1faaea75ed8b5081705f8dbccbb66fcca72", func := "limewash/limewashlaw12.HitThrough", spec := "hitThrough", unfollowed := true, recurses := true, apart := false }
def HitThroughSaid : Prop := hitThroughRow.holds Try.pinned (OpenSpec.ofChange hitThroughSpec)

/-- ITS FALSE NEIGHBOUR: 'it returns false'. Refute it at one input. -/
def hitThroughWrong : ChangeSpec := { name := "hitThrough", fn := fun _ => fun
  | [d1, d2, d3, d4, d5] => { results := [.lit (.bool false)], args := [d1, d2, d3, d4, d5] }
  | _ => none }
def HitThroughWrongFalsely : Prop := hitThroughRow.holds Try.pinned (OpenSpec.ofChange hitThroughWrong)

/-- 'limewashlaw12.HitFirst': WHATEVER THE INPUT: true; the input reads as it did. -/
def hitFirstSpec : ChangeSpec := { name := "hitFirst", fn := fun _ => fun
  | [d1, d2, d3] => { results := [.lit (.bool true)], args := [d1, d2, d3] }
  | _ => none }
def hitFirstRow : OpenClaim := { program := "ytbgcjbhaaelkhaa", sum := "f102e91c399f6bf87cc5ac55c9d0a1faaea75ed8b5081705f8dbccbb66fcca72", func := "limewash/limewashlaw12.HitFirst", spec := "hitFirst", unfollowed := true, recurses := true, apart := false }
def HitFirstSaid : Prop := hitFirstRow.holds Try.pinned (OpenSpec.ofChange hitFirstSpec)

/-- ITS FALSE NEIGHBOUR: 'it returns false'. Refute it at one input. -/
def hitFirstWrong : ChangeSpec := { name := "hitFirst", fn := fun _ => fun
  | [d1, d2, d3] => { results := [.lit (.bool false)], args := [d1, d2, d3] }
  | _ => none }
def HitFirstWrongFalsely : Prop := hitFirstRow.holds Try.pinned (OpenSpec.ofChange hitFirstWrong)

/-- 'limewashlaw03.FracOrder': WHATEVER THE INPUT: true; the input reads as it did. -/
def fracOrderSpec : ChangeSpec := { name := "fracOrder", fn := fun _ => fun
  | [d1, d2, d3] => { results := [.lit (.bool true)], args := [d1, d2, d3] }
  | _ => none }
def fracOrderRow : OpenClaim := { program := "ytbgcjbhaaelkhaa", sum := "f102e91c399f6bf87cc5ac55c9d0a1faaea75ed8b5081705f8dbccbb66fcca72", func := "limewash/limewashlaw03.FracOrder", spec := "fracOrder", unfollowed := true, recurses := true, apart := false }
def FracOrderSaid : Prop := fracOrderRow.holds Try.pinned (OpenSpec.ofChange fracOrderSpec)

/-- ITS FALSE NEIGHBOUR: 'it returns false'. Refute it at one input. -/
def fracOrderWrong : ChangeSpec := { name := "fracOrder", fn := fun _ => fun
  | [d1, d2, d3] => { results := [.lit (.bool false)], args := [d1, d2, d3] }
  | _ => none }
def FracOrderWrongFalsely : Prop := fracOrderRow.holds Try.pinned (OpenSpec.ofChange fracOrderWrong)

/-- 'limewashlaw03.FracReduced': WHATEVER THE INPUT: true; the input reads as it did. -/
def fracReducedSpec : ChangeSpec := { name := "fracReduced", fn := fun _ => fun
  | [d1, d2] => { results := [.lit (.bool true)], args := [d1, d2] }
  | _ => none }
def fracReducedRow : OpenClaim := { program := "ytbgcjbhaaelkhaa", sum := "f102e91c399f6bf87cc5ac55c9d0a1faaea75ed8b5081705f8dbccbb66fcca72", func := "limewash/limewashlaw03.FracReduced", spec := "fracReduced", unfollowed := true, recurses := true, apart := false }
def FracReducedSaid : Prop := fracReducedRow.holds Try.pinned (OpenSpec.ofChange fracReducedSpec)

/-- ITS FALSE NEIGHBOUR: 'it returns false'. Refute it at one input. -/
def fracReducedWrong : ChangeSpec := { name := "fracReduced", fn := fun _ => fun
  | [d1, d2] => { results := [.lit (.bool false)], args := [d1, d2] }
  | _ => none }
def FracReducedWrongFalsely : Prop := fracReducedRow.holds Try.pinned (OpenSpec.ofChange fracReducedWrong)

/-- 'limewashlaw03.FracFloor': WHATEVER THE INPUT: true; the input reads as it did. -/
def fracFloorSpec : ChangeSpec := { name := "fracFloor", fn := fun _ => fun
  | [d] => { results := [.lit (.bool true)], args := [d] }
  | _ => none }
def fracFloorRow : OpenClaim := { program := "ytbgcjbhaaelkhaa", sum := "f102e91c399f6bf87cc5ac55c9d0a1faaea75ed8b5081705f8dbccbb66fcca72", func := "limewash/limewashlaw03.FracFloor", spec := "fracFloor", unfollowed := true, recurses := true, apart := false }
def FracFloorSaid : Prop := fracFloorRow.holds Try.pinned (OpenSpec.ofChange fracFloorSpec)

/-- ITS FALSE NEIGHBOUR: 'it returns false'. Refute it at one input. -/
def fracFloorWrong : ChangeSpec := { name := "fracFloor", fn := fun _ => fun
  | [d] => { results := [.lit (.bool false)], args := [d] }
  | _ => none }
def FracFloorWrongFalsely : Prop := fracFloorRow.holds Try.pinned (OpenSpec.ofChange fracFloorWrong)

/-- 'limewashlaw09.SignFlat': WHATEVER THE INPUT: true; the input reads as it did. -/
def signFlatSpec : ChangeSpec := { name := "signFlat", fn := fun _ => fun
  | [d1, d2, d3, d4] => { results := [.lit (.bool true)], args := [d1, d2, d3, d4] }
  | _ => none }
def signFlatRow : OpenClaim := { program := "ytbgcjbhaaelkhaa", sum := "f102e91c399f6bf87cc5ac55c9d0a1faaea75ed8b5081705f8dbccbb66fcca72", func := "limewash/limewashlaw09.SignFlat", spec := "signFlat", apart := false }
def SignFlatSaid : Prop := signFlatRow.holds Try.pinned (OpenSpec.ofChange signFlatSpec)

/-- ITS FALSE NEIGHBOUR: 'it returns false'. Refute it at one input. -/
def signFlatWrong : ChangeSpec := { name := "signFlat", fn := fun _ => fun
  | [d1, d2, d3, d4] => { results := [.lit (.bool false)], args := [d1, d2, d3, d4] }
  | _ => none }
def SignFlatWrongFalsely : Prop := signFlatRow.holds Try.pinned (OpenSpec.ofChange signFlatWrong)

/-- 'limewashlaw13.SlabDoes': WHATEVER THE INPUT: true; the input reads as it did. -/
def slabDoesSpec : ChangeSpec := { name := "slabDoes", fn := fun _ => fun
  | [d1, d2, d3, d4, d5] => { results := [.lit (.bool true)], args := [d1, d2, d3, d4, d5] }
  | _ => none }
def slabDoesRow : OpenClaim := { program := "ytbgcjbhaaelkhaa", sum := "f102e91c399f6bf87cc5ac55c9d0a1faaea75ed8b5081705f8dbccbb66fcca72", func := "limewash/limewashlaw13.SlabDoes", spec := "slabDoes", unfollowed := true, recurses := true, apart := false }
def SlabDoesSaid : Prop := slabDoesRow.holds Try.pinned (OpenSpec.ofChange slabDoesSpec)

/-- ITS FALSE NEIGHBOUR: 'it returns false'. Refute it at one input. -/
def slabDoesWrong : ChangeSpec := { name := "slabDoes", fn := fun _ => fun
  | [d1, d2, d3, d4, d5] => { results := [.lit (.bool false)], args := [d1, d2, d3, d4, d5] }
  | _ => none }
def SlabDoesWrongFalsely : Prop := slabDoesRow.holds Try.pinned (OpenSpec.ofChange slabDoesWrong)

/-- 'limewashlaw13.SlabMeets': WHATEVER THE INPUT: true; the input reads as it did. -/
def slabMeetsSpec : ChangeSpec := { name := "slabMeets", fn := fun _ => fun
  | [d1, d2, d3, d4] => { results := [.lit (.bool true)], args := [d1, d2, d3, d4] }
  | _ => none }
def slabMeetsRow : OpenClaim := { program := "ytbgcjbhaaelkhaa", sum := "f102e91c399f6bf87cc5ac55c9d0a1faaea75ed8b5081705f8dbccbb66fcca72", func := "limewash/limewashlaw13.SlabMeets", spec := "slabMeets", unfollowed := true, recurses := true, apart := false }
def SlabMeetsSaid : Prop := slabMeetsRow.holds Try.pinned (OpenSpec.ofChange slabMeetsSpec)

/-- ITS FALSE NEIGHBOUR: 'it returns false'. Refute it at one input. -/
def slabMeetsWrong : ChangeSpec := { name := "slabMeets", fn := fun _ => fun
  | [d1, d2, d3, d4] => { results := [.lit (.bool false)], args := [d1, d2, d3, d4] }
  | _ => none }
def SlabMeetsWrongFalsely : Prop := slabMeetsRow.holds Try.pinned (OpenSpec.ofChange slabMeetsWrong)

/-- 'limewashlaw13.SlabMiddle': WHATEVER THE INPUT: true; the input reads as it did. -/
def slabMiddleSpec : ChangeSpec := { name := "slabMiddle", fn := fun _ => fun
  | [d1, d2, d3] => { results := [.lit (.bool true)], args := [d1, d2, d3] }
  | _ => none }
def slabMiddleRow : OpenClaim := { program := "ytbgcjbhaaelkhaa", sum := "f102e91c399f6bf87cc5ac55c9d0a1faaea75ed8b5081705f8dbccbb66fcca72", func := "limewash/limewashlaw13.SlabMiddle", spec := "slabMiddle", unfollowed := true, recurses := true, apart := false }
def SlabMiddleSaid : Prop := slabMiddleRow.holds Try.pinned (OpenSpec.ofChange slabMiddleSpec)

/-- ITS FALSE NEIGHBOUR: 'it returns false'. Refute it at one input. -/
def slabMiddleWrong : ChangeSpec := { name := "slabMiddle", fn := fun _ => fun
  | [d1, d2, d3] => { results := [.lit (.bool false)], args := [d1, d2, d3] }
  | _ => none }
def SlabMiddleWrongFalsely : Prop := slabMiddleRow.holds Try.pinned (OpenSpec.ofChange slabMiddleWrong)

/-- 'limewashlaw13.SlabHit': WHATEVER THE INPUT: true; the input reads as it did. -/
def slabHitSpec : ChangeSpec := { name := "slabHit", fn := fun _ => fun
  | [d1, d2, d3] => { results := [.lit (.bool true)], args := [d1, d2, d3] }
  | _ => none }
def slabHitRow : OpenClaim := { program := "ytbgcjbhaaelkhaa", sum := "f102e91c399f6bf87cc5ac55c9d0a1faaea75ed8b5081705f8dbccbb66fcca72", func := "limewash/limewashlaw13.SlabHit", spec := "slabHit", unfollowed := true, recurses := true, apart := false }
def SlabHitSaid : Prop := slabHitRow.holds Try.pinned (OpenSpec.ofChange slabHitSpec)

/-- ITS FALSE NEIGHBOUR: 'it returns false'. Refute it at one input. -/
def slabHitWrong : ChangeSpec := { name := "slabHit", fn := fun _ => fun
  | [d1, d2, d3] => { results := [.lit (.bool false)], args := [d1, d2, d3] }
  | _ => none }
def SlabHitWrongFalsely : Prop := slabHitRow.holds Try.pinned (OpenSpec.ofChange slabHitWrong)

/- THE SECOND FORM. 'bulk': how many values and letters a reading holds, each counted each time it is reached (what is shared counts as often as it is met; a slice's spare places count too). A statement '..UptoSaid' is the law's where the arguments, and the package variables that the reading takes, are together of bulk at most 1048576: NARROWER than '..Said'. Prove '..Said' where nothing that the law and all that it calls make is longer than what came in: it says more and counts as full. Else prove '..UptoSaid'. A law counts once. -/
mutual
def uptoBulk {H : Type} : DataW H → Nat
  | .lit (.string bytes) => bytes.length + 1
  | .lit _ => 1
  | .nil => 1
  | .ptr d => uptoBulk d + 1
  | .slice elems spare => uptoBulkAll elems + uptoBulkAll spare + 1
  | .agg parts => uptoBulkAll parts + 1
  | .iface _ d => uptoBulk d + 1
  | .map entries => uptoBulkEntries entries + 1
  | .held _ => 1
def uptoBulkAll {H : Type} : List (DataW H) → Nat
  | [] => 0
  | d :: r => uptoBulk d + uptoBulkAll r
def uptoBulkEntries {H : Type} : List (Lit × DataW H) → Nat
  | [] => 0
  | x :: r => uptoBulkEntry x + uptoBulkEntries r
def uptoBulkEntry {H : Type} : Lit × DataW H → Nat
  | (.string bytes, d) => bytes.length + uptoBulk d + 1
  | (_, d) => uptoBulk d + 1
 end
def uptoSmall : (H : Type) → List (DataW H) → Bool := fun _ ds => decide (uptoBulkAll ds ≤ 1048576)
def OpenSpec.upto (s : _root_.Go.ChangeSpec) : _root_.Go.OpenSpec := { _root_.Go.OpenSpec.ofChange s with cond := some uptoSmall }

/-- 'limewashlaw12.HitDoes', WHERE WHAT IT READS IS OF BULK AT MOST 1048576: true; the input reads as it did. -/
def hitDoesUptoRow : OpenClaim := { program := "ytbgcjbhaaelkhaa", sum := "f102e91c399f6bf87cc5ac55c9d0a1faaea75ed8b5081705f8dbccbb66fcca72", func := "limewash/limewashlaw12.HitDoes", spec := "hitDoes", unfollowed := true, recurses := true, apart := false, narrowed := true }
def HitDoesUptoSaid : Prop := hitDoesUptoRow.holds Try.pinned (OpenSpec.upto hitDoesSpec)

/-- 'limewashlaw12.HitApart', WHERE WHAT IT READS IS OF BULK AT MOST 1048576: true; the input reads as it did. -/
def hitApartUptoRow : OpenClaim := { program := "ytbgcjbhaaelkhaa", sum := "f102e91c399f6bf87cc5ac55c9d0a1faaea75ed8b5081705f8dbccbb66fcca72", func := "limewash/limewashlaw12.HitApart", spec := "hitApart", unfollowed := true, recurses := true, apart := false, narrowed := true }
def HitApartUptoSaid : Prop := hitApartUptoRow.holds Try.pinned (OpenSpec.upto hitApartSpec)

/-- 'limewashlaw12.HitThrough', WHERE WHAT IT READS IS OF BULK AT MOST 1048576: true; the input reads as it did. -/
def hitThroughUptoRow : OpenClaim := { program := "ytbgcjbhaaelkhaa", sum := "f102e91c399f6bf87cc5ac55c9d0a1faaea75ed8b5081705f8dbccbb66fcca72", func := "limewash/limewashlaw12.HitThrough", spec := "hitThrough", unfollowed := true, recurses := true, apart := false, narrowed := true }
def HitThroughUptoSaid : Prop := hitThroughUptoRow.holds Try.pinned (OpenSpec.upto hitThroughSpec)

/-- 'limewashlaw12.HitFirst', WHERE WHAT IT READS IS OF BULK AT MOST 1048576: true; the input reads as it did. -/
def hitFirstUptoRow : OpenClaim := { program := "ytbgcjbhaaelkhaa", sum := "f102e91c399f6bf87cc5ac55c9d0a1faaea75ed8b5081705f8dbccbb66fcca72", func := "limewash/limewashlaw12.HitFirst", spec := "hitFirst", unfollowed := true, recurses := true, apart := false, narrowed := true }
def HitFirstUptoSaid : Prop := hitFirstUptoRow.holds Try.pinned (OpenSpec.upto hitFirstSpec)

/-- 'limewashlaw03.FracOrder', WHERE WHAT IT READS IS OF BULK AT MOST 1048576: true; the input reads as it did. -/
def fracOrderUptoRow : OpenClaim := { program := "ytbgcjbhaaelkhaa", sum := "f102e91c399f6bf87cc5ac55c9d0a1faaea75ed8b5081705f8dbccbb66fcca72", func := "limewash/limewashlaw03.FracOrder", spec := "fracOrder", unfollowed := true, recurses := true, apart := false, narrowed := true }
def FracOrderUptoSaid : Prop := fracOrderUptoRow.holds Try.pinned (OpenSpec.upto fracOrderSpec)

/-- 'limewashlaw03.FracReduced', WHERE WHAT IT READS IS OF BULK AT MOST 1048576: true; the input reads as it did. -/
def fracReducedUptoRow : OpenClaim := { program := "ytbgcjbhaaelkhaa", sum := "f102e91c399f6bf87cc5ac55c9d0a1faaea75ed8b5081705f8dbccbb66fcca72", func := "limewash/limewashlaw03.FracReduced", spec := "fracReduced", unfollowed := true, recurses := true, apart := false, narrowed := true }
def FracReducedUptoSaid : Prop := fracReducedUptoRow.holds Try.pinned (OpenSpec.upto fracReducedSpec)

/-- 'limewashlaw03.FracFloor', WHERE WHAT IT READS IS OF BULK AT MOST 1048576: true; the input reads as it did. -/
def fracFloorUptoRow : OpenClaim := { program := "ytbgcjbhaaelkhaa", sum := "f102e91c399f6bf87cc5ac55c9d0a1faaea75ed8b5081705f8dbccbb66fcca72", func := "limewash/limewashlaw03.FracFloor", spec := "fracFloor", unfollowed := true, recurses := true, apart := false, narrowed := true }
def FracFloorUptoSaid : Prop := fracFloorUptoRow.holds Try.pinned (OpenSpec.upto fracFloorSpec)

/-- 'limewashlaw09.SignFlat', WHERE WHAT IT READS IS OF BULK AT MOST 1048576: true; the input reads as it did. -/
def signFlatUptoRow : OpenClaim := { program := "ytbgcjbhaaelkhaa", sum := "f102e91c399f6bf87cc5ac55c9d0a1faaea75ed8b5081705f8dbccbb66fcca72", func := "limewash/limewashlaw09.SignFlat", spec := "signFlat", apart := false, narrowed := true }
def SignFlatUptoSaid : Prop := signFlatUptoRow.holds Try.pinned (OpenSpec.upto signFlatSpec)

/-- 'limewashlaw13.SlabDoes', WHERE WHAT IT READS IS OF BULK AT MOST 1048576: true; the input reads as it did. -/
def slabDoesUptoRow : OpenClaim := { program := "ytbgcjbhaaelkhaa", sum := "f102e91c399f6bf87cc5ac55c9d0a1faaea75ed8b5081705f8dbccbb66fcca72", func := "limewash/limewashlaw13.SlabDoes", spec := "slabDoes", unfollowed := true, recurses := true, apart := false, narrowed := true }
def SlabDoesUptoSaid : Prop := slabDoesUptoRow.holds Try.pinned (OpenSpec.upto slabDoesSpec)

/-- 'limewashlaw13.SlabMeets', WHERE WHAT IT READS IS OF BULK AT MOST 1048576: true; the input reads as it did. -/
def slabMeetsUptoRow : OpenClaim := { program := "ytbgcjbhaaelkhaa", sum := "f102e91c399f6bf87cc5ac55c9d0a1faaea75ed8b5081705f8dbccbb66fcca72", func := "limewash/limewashlaw13.SlabMeets", spec := "slabMeets", unfollowed := true, recurses := true, apart := false, narrowed := true }
def SlabMeetsUptoSaid : Prop := slabMeetsUptoRow.holds Try.pinned (OpenSpec.upto slabMeetsSpec)

/-- 'limewashlaw13.SlabMiddle', WHERE WHAT IT READS IS OF BULK AT MOST 1048576: true; the input reads as it did. -/
def slabMiddleUptoRow : OpenClaim := { program := "ytbgcjbhaaelkhaa", sum := "f102e91c399f6bf87cc5ac55c9d0a1faaea75ed8b5081705f8dbccbb66fcca72", func := "limewash/limewashlaw13.SlabMiddle", spec := "slabMiddle", unfollowed := true, recurses := true, apart := false, narrowed := true }
def SlabMiddleUptoSaid : Prop := slabMiddleUptoRow.holds Try.pinned (OpenSpec.upto slabMiddleSpec)

/-- 'limewashlaw13.SlabHit', WHERE WHAT IT READS IS OF BULK AT MOST 1048576: true; the input reads as it did. -/
def slabHitUptoRow : OpenClaim := { program := "ytbgcjbhaaelkhaa", sum := "f102e91c399f6bf87cc5ac55c9d0a1faaea75ed8b5081705f8dbccbb66fcca72", func := "limewash/limewashlaw13.SlabHit", spec := "slabHit", unfollowed := true, recurses := true, apart := false, narrowed := true }
def SlabHitUptoSaid : Prop := slabHitUptoRow.holds Try.pinned (OpenSpec.upto slabHitSpec)

end Rows
end Go.Proofs.Ytbgcjbhaaelkhaa
