/-
  No cell of these rows narrows 'for every input' (looked for: loops, veiled, ifaces, maps, wideKeys, modest, calm, conditions, laid).
  DERIVED. THE GIVEN ROWS OF THIS SEAT. 11 by the template 'for every input the law returns true; each argument reads behind the call as it read before'; 0 by the template 'total and deterministic' (their statements: YtfpnkcmplmkghaaTotals.lean).
  GIVEN WITH THE SEED: the statements are not yours to turn. If you find one false, say at which input.
  Laid BY PROGRAM, IN A SANDBOX (cutbox-rows.mjs): the forced cells as the released guide's own fill.sh prints them over the translation 8b86f12b5769dcf9… (all of the seat's roots in one cut). By AI agents, Wed Nov 11 2026. No macro, syntax, notation, axiom, sorry.
-/
import Derived.Test.YtfpnkcmplmkghaaChecked
import GoSem.Claim
import GoSem.ClaimJoined
import GoSem.ClaimMapViews
import Derived.JoinedTies
import Derived.KernelRfl
namespace Go.Proofs.Ytfpnkcmplmkghaa
/- THE CELL 'sum', in the pinned program and in every row, IS THE sha256 OF THE DUMP (.gsa) THAT YtfpnkcmplmkghaaProg.lean LOADS. Nothing in Lean hashes anything: it is a label: what it is worth is what the hold of that sum in a sandbox is worth. -/
noncomputable def Try.pinned : Pinned := { name := "ytfpnkcmplmkghaa", sum := "8b86f12b5769dcf9e359eb1c5ebe5a83419999ed04beed7cfb2360fe5a90ec73", checked := Try.checked }
namespace Rows
def none {H : Type} : Left H := { results := [], args := [] }

/-- 'limewashlaw02.WholeFloor': WHATEVER THE INPUT: true; the input reads as it did. -/
def wholeFloorSpec : ChangeSpec := { name := "wholeFloor", fn := fun _ => fun
  | [d1, d2] => { results := [.lit (.bool true)], args := [d1, d2] }
  | _ => none }
def wholeFloorRow : OpenClaim := { program := "ytfpnkcmplmkghaa", sum := "8b86f12b5769dcf9e359eb1c5ebe5a83419999ed04beed7cfb2360fe5a90ec73", func := "limewash/limewashlaw02.WholeFloor", spec := "wholeFloor", unfollowed := true, recurses := true, apart := false }
def WholeFloorSaid : Prop := wholeFloorRow.holds Try.pinned (OpenSpec.ofChange wholeFloorSpec)

/-- ITS FALSE NEIGHBOUR: 'it returns false'. Refute it at one input. -/
def wholeFloorWrong : ChangeSpec := { name := "wholeFloor", fn := fun _ => fun
  | [d1, d2] => { results := [.lit (.bool false)], args := [d1, d2] }
  | _ => none }
def WholeFloorWrongFalsely : Prop := wholeFloorRow.holds Try.pinned (OpenSpec.ofChange wholeFloorWrong)

/-- 'limewashlaw12.HitDoes': WHATEVER THE INPUT: true; the input reads as it did. -/
def hitDoesSpec : ChangeSpec := { name := "hitDoes", fn := fun _ => fun
  | [d1, d2, d3, d4] => { results := [.lit (.bool true)], args := [d1, d2, d3, d4] }
  | _ => none }
def hitDoesRow : OpenClaim := { program := "ytfpnkcmplmkghaa", sum := "8b86f12b5769dcf9e359eb1c5ebe5a83419999ed04beed7cfb2360fe5a90ec73", func := "limewash/limewashlaw12.HitDoes", spec := "hitDoes", unfollowed := true, recurses := true, apart := false }
def HitDoesSaid : Prop := hitDoesRow.holds Try.pinned (OpenSpec.ofChange hitDoesSpec)

/-- ITS FALSE NEIGHBOUR: 'it returns false'. Refute it at one input. -/
def hitDoesWrong : ChangeSpec := { name := "hitDoes", fn := fun _ => fun
  | [d1, d2, d3, d4] => { results := [.lit (.bool false)], args := [d1, d2, d3, d4] }
  | _ => none }
def HitDoesWrongFalsely : Prop := hitDoesRow.holds Try.pinned (OpenSpec.ofChange hitDoesWrong)

/-- 'limewashlaw10.MeetDoes': WHATEVER THE INPUT: true; the input reads as it did. -/
def meetDoesSpec : ChangeSpec := { name := "meetDoes", fn := fun _ => fun
  | [d1, d2, d3, d4] => { results := [.lit (.bool true)], args := [d1, d2, d3, d4] }
  | _ => none }
def meetDoesRow : OpenClaim := { program := "ytfpnkcmplmkghaa", sum := "8b86f12b5769dcf9e359eb1c5ebe5a83419999ed04beed7cfb2360fe5a90ec73", func := "limewash/limewashlaw10.MeetDoes", spec := "meetDoes", unfollowed := true, recurses := true, apart := false }
def MeetDoesSaid : Prop := meetDoesRow.holds Try.pinned (OpenSpec.ofChange meetDoesSpec)

/-- ITS FALSE NEIGHBOUR: 'it returns false'. Refute it at one input. -/
def meetDoesWrong : ChangeSpec := { name := "meetDoes", fn := fun _ => fun
  | [d1, d2, d3, d4] => { results := [.lit (.bool false)], args := [d1, d2, d3, d4] }
  | _ => none }
def MeetDoesWrongFalsely : Prop := meetDoesRow.holds Try.pinned (OpenSpec.ofChange meetDoesWrong)

/-- 'limewashlaw10.MeetPoint': WHATEVER THE INPUT: true; the input reads as it did. -/
def meetPointSpec : ChangeSpec := { name := "meetPoint", fn := fun _ => fun
  | [d1, d2, d3] => { results := [.lit (.bool true)], args := [d1, d2, d3] }
  | _ => none }
def meetPointRow : OpenClaim := { program := "ytfpnkcmplmkghaa", sum := "8b86f12b5769dcf9e359eb1c5ebe5a83419999ed04beed7cfb2360fe5a90ec73", func := "limewash/limewashlaw10.MeetPoint", spec := "meetPoint", unfollowed := true, recurses := true, apart := false }
def MeetPointSaid : Prop := meetPointRow.holds Try.pinned (OpenSpec.ofChange meetPointSpec)

/-- ITS FALSE NEIGHBOUR: 'it returns false'. Refute it at one input. -/
def meetPointWrong : ChangeSpec := { name := "meetPoint", fn := fun _ => fun
  | [d1, d2, d3] => { results := [.lit (.bool false)], args := [d1, d2, d3] }
  | _ => none }
def MeetPointWrongFalsely : Prop := meetPointRow.holds Try.pinned (OpenSpec.ofChange meetPointWrong)

/-- 'limewashlaw10.MeetTurns': WHATEVER THE INPUT: true; the input reads as it did. -/
def meetTurnsSpec : ChangeSpec := { name := "meetTurns", fn := fun _ => fun
  | [d1, d2, d3] => { results := [.lit (.bool true)], args := [d1, d2, d3] }
  | _ => none }
def meetTurnsRow : OpenClaim := { program := "ytfpnkcmplmkghaa", sum := "8b86f12b5769dcf9e359eb1c5ebe5a83419999ed04beed7cfb2360fe5a90ec73", func := "limewash/limewashlaw10.MeetTurns", spec := "meetTurns", unfollowed := true, recurses := true, apart := false }
def MeetTurnsSaid : Prop := meetTurnsRow.holds Try.pinned (OpenSpec.ofChange meetTurnsSpec)

/-- ITS FALSE NEIGHBOUR: 'it returns false'. Refute it at one input. -/
def meetTurnsWrong : ChangeSpec := { name := "meetTurns", fn := fun _ => fun
  | [d1, d2, d3] => { results := [.lit (.bool false)], args := [d1, d2, d3] }
  | _ => none }
def MeetTurnsWrongFalsely : Prop := meetTurnsRow.holds Try.pinned (OpenSpec.ofChange meetTurnsWrong)

/-- 'limewashlaw10.MeetSelf': WHATEVER THE INPUT: true; the input reads as it did. -/
def meetSelfSpec : ChangeSpec := { name := "meetSelf", fn := fun _ => fun
  | [d1, d2] => { results := [.lit (.bool true)], args := [d1, d2] }
  | _ => none }
def meetSelfRow : OpenClaim := { program := "ytfpnkcmplmkghaa", sum := "8b86f12b5769dcf9e359eb1c5ebe5a83419999ed04beed7cfb2360fe5a90ec73", func := "limewash/limewashlaw10.MeetSelf", spec := "meetSelf", unfollowed := true, recurses := true, apart := false }
def MeetSelfSaid : Prop := meetSelfRow.holds Try.pinned (OpenSpec.ofChange meetSelfSpec)

/-- ITS FALSE NEIGHBOUR: 'it returns false'. Refute it at one input. -/
def meetSelfWrong : ChangeSpec := { name := "meetSelf", fn := fun _ => fun
  | [d1, d2] => { results := [.lit (.bool false)], args := [d1, d2] }
  | _ => none }
def MeetSelfWrongFalsely : Prop := meetSelfRow.holds Try.pinned (OpenSpec.ofChange meetSelfWrong)

/-- 'limewashlaw10.MeetSquare': WHATEVER THE INPUT: true; the input reads as it did. -/
def meetSquareSpec : ChangeSpec := { name := "meetSquare", fn := fun _ => fun
  | [d1, d2, d3, d4] => { results := [.lit (.bool true)], args := [d1, d2, d3, d4] }
  | _ => none }
def meetSquareRow : OpenClaim := { program := "ytfpnkcmplmkghaa", sum := "8b86f12b5769dcf9e359eb1c5ebe5a83419999ed04beed7cfb2360fe5a90ec73", func := "limewash/limewashlaw10.MeetSquare", spec := "meetSquare", unfollowed := true, recurses := true, apart := false }
def MeetSquareSaid : Prop := meetSquareRow.holds Try.pinned (OpenSpec.ofChange meetSquareSpec)

/-- ITS FALSE NEIGHBOUR: 'it returns false'. Refute it at one input. -/
def meetSquareWrong : ChangeSpec := { name := "meetSquare", fn := fun _ => fun
  | [d1, d2, d3, d4] => { results := [.lit (.bool false)], args := [d1, d2, d3, d4] }
  | _ => none }
def MeetSquareWrongFalsely : Prop := meetSquareRow.holds Try.pinned (OpenSpec.ofChange meetSquareWrong)

/-- 'limewashlaw03.FracDoes': WHATEVER THE INPUT: true; the input reads as it did. -/
def fracDoesSpec : ChangeSpec := { name := "fracDoes", fn := fun _ => fun
  | [d1, d2, d3] => { results := [.lit (.bool true)], args := [d1, d2, d3] }
  | _ => none }
def fracDoesRow : OpenClaim := { program := "ytfpnkcmplmkghaa", sum := "8b86f12b5769dcf9e359eb1c5ebe5a83419999ed04beed7cfb2360fe5a90ec73", func := "limewash/limewashlaw03.FracDoes", spec := "fracDoes", unfollowed := true, recurses := true, apart := false }
def FracDoesSaid : Prop := fracDoesRow.holds Try.pinned (OpenSpec.ofChange fracDoesSpec)

/-- ITS FALSE NEIGHBOUR: 'it returns false'. Refute it at one input. -/
def fracDoesWrong : ChangeSpec := { name := "fracDoes", fn := fun _ => fun
  | [d1, d2, d3] => { results := [.lit (.bool false)], args := [d1, d2, d3] }
  | _ => none }
def FracDoesWrongFalsely : Prop := fracDoesRow.holds Try.pinned (OpenSpec.ofChange fracDoesWrong)

/-- 'limewashlaw03.FracSort': WHATEVER THE INPUT: true; the input reads as it did. -/
def fracSortSpec : ChangeSpec := { name := "fracSort", fn := fun _ => fun
  | [d1, d2] => { results := [.lit (.bool true)], args := [d1, d2] }
  | _ => none }
def fracSortRow : OpenClaim := { program := "ytfpnkcmplmkghaa", sum := "8b86f12b5769dcf9e359eb1c5ebe5a83419999ed04beed7cfb2360fe5a90ec73", func := "limewash/limewashlaw03.FracSort", spec := "fracSort", unfollowed := true, recurses := true, apart := false }
def FracSortSaid : Prop := fracSortRow.holds Try.pinned (OpenSpec.ofChange fracSortSpec)

/-- ITS FALSE NEIGHBOUR: 'it returns false'. Refute it at one input. -/
def fracSortWrong : ChangeSpec := { name := "fracSort", fn := fun _ => fun
  | [d1, d2] => { results := [.lit (.bool false)], args := [d1, d2] }
  | _ => none }
def FracSortWrongFalsely : Prop := fracSortRow.holds Try.pinned (OpenSpec.ofChange fracSortWrong)

/-- 'limewashlaw13.SlabDoes': WHATEVER THE INPUT: true; the input reads as it did. -/
def slabDoesSpec : ChangeSpec := { name := "slabDoes", fn := fun _ => fun
  | [d1, d2, d3, d4, d5] => { results := [.lit (.bool true)], args := [d1, d2, d3, d4, d5] }
  | _ => none }
def slabDoesRow : OpenClaim := { program := "ytfpnkcmplmkghaa", sum := "8b86f12b5769dcf9e359eb1c5ebe5a83419999ed04beed7cfb2360fe5a90ec73", func := "limewash/limewashlaw13.SlabDoes", spec := "slabDoes", unfollowed := true, recurses := true, apart := false }
def SlabDoesSaid : Prop := slabDoesRow.holds Try.pinned (OpenSpec.ofChange slabDoesSpec)

/-- ITS FALSE NEIGHBOUR: 'it returns false'. Refute it at one input. -/
def slabDoesWrong : ChangeSpec := { name := "slabDoes", fn := fun _ => fun
  | [d1, d2, d3, d4, d5] => { results := [.lit (.bool false)], args := [d1, d2, d3, d4, d5] }
  | _ => none }
def SlabDoesWrongFalsely : Prop := slabDoesRow.holds Try.pinned (OpenSpec.ofChange slabDoesWrong)

/-- 'limewashlaw13.SlabHas': WHATEVER THE INPUT: true; the input reads as it did. -/
def slabHasSpec : ChangeSpec := { name := "slabHas", fn := fun _ => fun
  | [d1, d2, d3] => { results := [.lit (.bool true)], args := [d1, d2, d3] }
  | _ => none }
def slabHasRow : OpenClaim := { program := "ytfpnkcmplmkghaa", sum := "8b86f12b5769dcf9e359eb1c5ebe5a83419999ed04beed7cfb2360fe5a90ec73", func := "limewash/limewashlaw13.SlabHas", spec := "slabHas", unfollowed := true, recurses := true, apart := false }
def SlabHasSaid : Prop := slabHasRow.holds Try.pinned (OpenSpec.ofChange slabHasSpec)

/-- ITS FALSE NEIGHBOUR: 'it returns false'. Refute it at one input. -/
def slabHasWrong : ChangeSpec := { name := "slabHas", fn := fun _ => fun
  | [d1, d2, d3] => { results := [.lit (.bool false)], args := [d1, d2, d3] }
  | _ => none }
def SlabHasWrongFalsely : Prop := slabHasRow.holds Try.pinned (OpenSpec.ofChange slabHasWrong)

/- THE SECOND FORM. 'bulk': how many values and letters a reading holds, each counted each time it is reached (what is shared counts as often as it is met; a slice's spare places count too). A statement '..UptoSaid' is the law's where the arguments, and the package variables that the reading takes, are together of bulk at most 1048576: NARROWER than '..Said'. Prove '..Said' where nothing that the law and all that it calls make is longer than what came in: it says more and counts as full. Else prove '..UptoSaid'. A law counts once. -/
mutual
def uptoBulk {H : Type} : DataW H → Nat
  | .lit (.string bytes) => bytes.length + 1
  | .lit _ => 1
  | .nil => 1
  | .ptr d => uptoBulk d + 1
  | .slice elems spare => uptoBulkAll elems + uptoBulkAll spare + 1
  | .agg parts => uptoBulkAll parts + 1
  | .iface _ d => uptoBulk d + 1
  | .map entries => uptoBulkEntries entries + 1
  | .held _ => 1
def uptoBulkAll {H : Type} : List (DataW H) → Nat
  | [] => 0
  | d :: r => uptoBulk d + uptoBulkAll r
def uptoBulkEntries {H : Type} : List (Lit × DataW H) → Nat
  | [] => 0
  | x :: r => uptoBulkEntry x + uptoBulkEntries r
def uptoBulkEntry {H : Type} : Lit × DataW H → Nat
  | (.string bytes, d) => bytes.length + uptoBulk d + 1
  | (_, d) => uptoBulk d + 1
 end
def uptoSmall : (H : Type) → List (DataW H) → Bool := fun _ ds => decide (uptoBulkAll ds ≤ 1048576)
def OpenSpec.upto (s : _root_.Go.ChangeSpec) : _root_.Go.OpenSpec := { _root_.Go.OpenSpec.ofChange s with cond := some uptoSmall }

/-- 'limewashlaw02.WholeFloor', WHERE WHAT IT READS IS OF BULK AT MOST 1048576: true; the input reads as it did. -/
def wholeFloorUptoRow : OpenClaim := { program := "ytfpnkcmplmkghaa", sum := "8b86f12b5769dcf9e359eb1c5ebe5a83419999ed04beed7cfb2360fe5a90ec73", func := "limewash/limewashlaw02.WholeFloor", spec := "wholeFloor", unfollowed := true, recurses := true, apart := false, narrowed := true }
def WholeFloorUptoSaid : Prop := wholeFloorUptoRow.holds Try.pinned (OpenSpec.upto wholeFloorSpec)

/-- 'limewashlaw12.HitDoes', WHERE WHAT IT READS IS OF BULK AT MOST 1048576: true; the input reads as it did. -/
def hitDoesUptoRow : OpenClaim := { program := "ytfpnkcmplmkghaa", sum := "8b86f12b5769dcf9e359eb1c5ebe5a83419999ed04beed7cfb2360fe5a90ec73", func := "limewash/limewashlaw12.HitDoes", spec := "hitDoes", unfollowed := true, recurses := true, apart := false, narrowed := true }
def HitDoesUptoSaid : Prop := hitDoesUptoRow.holds Try.pinned (OpenSpec.upto hitDoesSpec)

/-- 'limewashlaw10.MeetDoes', WHERE WHAT IT READS IS OF BULK AT MOST 1048576: true; the input reads as it did. -/
def meetDoesUptoRow : OpenClaim := { program := "ytfpnkcmplmkghaa", sum := "8b86f12b5769dcf9e359eb1c5ebe5a83419999ed04beed7cfb2360fe5a90ec73", func := "limewash/limewashlaw10.MeetDoes", spec := "meetDoes", unfollowed := true, recurses := true, apart := false, narrowed := true }
def MeetDoesUptoSaid : Prop := meetDoesUptoRow.holds Try.pinned (OpenSpec.upto meetDoesSpec)

/-- 'limewashlaw10.MeetPoint', WHERE WHAT IT READS IS OF BULK AT MOST 1048576: true; the input reads as it did. -/
def meetPointUptoRow : OpenClaim := { program := "ytfpnkcmplmkghaa", sum := "8b86f12b5769dcf9e359eb1c5ebe5a83419999ed04beed7cfb2360fe5a90ec73", func := "limewash/limewashlaw10.MeetPoint", spec := "meetPoint", unfollowed := true, recurses := true, apart := false, narrowed := true }
def MeetPointUptoSaid : Prop := meetPointUptoRow.holds Try.pinned (OpenSpec.upto meetPointSpec)

/-- 'limewashlaw10.MeetTurns', WHERE WHAT IT READS IS OF BULK AT MOST 1048576: true; the input reads as it did. -/
def meetTurnsUptoRow : OpenClaim := { program := "ytfpnkcmplmkghaa", sum := "8b86f12b5769dcf9e359eb1c5ebe5a83419999ed04beed7cfb2360fe5a90ec73", func := "limewash/limewashlaw10.MeetTurns", spec := "meetTurns", unfollowed := true, recurses := true, apart := false, narrowed := true }
def MeetTurnsUptoSaid : Prop := meetTurnsUptoRow.holds Try.pinned (OpenSpec.upto meetTurnsSpec)

/-- 'limewashlaw10.MeetSelf', WHERE WHAT IT READS IS OF BULK AT MOST 1048576: true; the input reads as it did. -/
def meetSelfUptoRow : OpenClaim := { program := "ytfpnkcmplmkghaa", sum := "8b86f12b5769dcf9e359eb1c5ebe5a83419999ed04beed7cfb2360fe5a90ec73", func := "limewash/limewashlaw10.MeetSelf", spec := "meetSelf", unfollowed := true, recurses := true, apart := false, narrowed := true }
def MeetSelfUptoSaid : Prop := meetSelfUptoRow.holds Try.pinned (OpenSpec.upto meetSelfSpec)

/-- 'limewashlaw10.MeetSquare', WHERE WHAT IT READS IS OF BULK AT MOST 1048576: true; the input reads as it did. -/
def meetSquareUptoRow : OpenClaim := { program := "ytfpnkcmplmkghaa", sum := "8b86f12b5769dcf9e359eb1c5ebe5a83419999ed04beed7cfb2360fe5a90ec73", func := "limewash/limewashlaw10.MeetSquare", spec := "meetSquare", unfollowed := true, recurses := true, apart := false, narrowed := true }
def MeetSquareUptoSaid : Prop := meetSquareUptoRow.holds Try.pinned (OpenSpec.upto meetSquareSpec)

/-- 'limewashlaw03.FracDoes', WHERE WHAT IT READS IS OF BULK AT MOST 1048576: true; the input reads as it did. -/
def fracDoesUptoRow : OpenClaim := { program := "ytfpnkcmplmkghaa", sum := "8b86f12b5769dcf9e359eb1c5ebe5a83419999ed04beed7cfb2360fe5a90ec73", func := "limewash/limewashlaw03.FracDoes", spec := "fracDoes", unfollowed := true, recurses := true, apart := false, narrowed := true }
def FracDoesUptoSaid : Prop := fracDoesUptoRow.holds Try.pinned (OpenSpec.upto fracDoesSpec)

/-- 'limewashlaw03.FracSort', WHERE WHAT IT READS IS OF BULK AT MOST 1048576: true; the input reads as it did. -/
def fracSortUptoRow : OpenClaim := { program := "ytfpnkcmplmkghaa", sum := "8b86f12b5769dcf9e359eb1c5ebe5a83419999ed04beed7cfb2360fe5a90ec73", func := "limewash/limewashlaw03.FracSort", spec := "fracSort", unfollowed := true, recurses := true, apart := false, narrowed := true }
def FracSortUptoSaid : Prop := fracSortUptoRow.holds Try.pinned (OpenSpec.upto fracSortSpec)

/-- 'limewashlaw13.SlabDoes', WHERE WHAT IT READS IS OF BULK AT MOST 1048576: true; the input reads as it did. -/
def slabDoesUptoRow : OpenClaim := { program := "ytfpnkcmplmkghaa", sum := "8b86f12b5769dcf9e359eb1c5ebe5a83419999ed04beed7cfb2360fe5a90ec73", func := "limewash/limewashlaw13.SlabDoes", spec := "slabDoes", unfollowed := true, recurses := true, apart := false, narrowed := true }
def SlabDoesUptoSaid : Prop := slabDoesUptoRow.holds Try.pinned (OpenSpec.upto slabDoesSpec)

/-- 'limewashlaw13.SlabHas', WHERE WHAT IT READS IS OF BULK AT MOST 1048576: true; the input reads as it did. -/
def slabHasUptoRow : OpenClaim := { program := "ytfpnkcmplmkghaa", sum := "8b86f12b5769dcf9e359eb1c5ebe5a83419999ed04beed7cfb2360fe5a90ec73", func := "limewash/limewashlaw13.SlabHas", spec := "slabHas", unfollowed := true, recurses := true, apart := false, narrowed := true }
def SlabHasUptoSaid : Prop := slabHasUptoRow.holds Try.pinned (OpenSpec.upto slabHasSpec)

end Rows
end Go.Proofs.Ytfpnkcmplmkghaa
