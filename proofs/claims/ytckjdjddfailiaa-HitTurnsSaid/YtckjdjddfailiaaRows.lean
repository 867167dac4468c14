/-
  No cell of these rows narrows 'for every input' (looked for: loops, veiled, ifaces, maps, wideKeys, modest, calm, conditions, laid).
  DERIVED. THE GIVEN ROWS OF THIS SEAT. 10 by the template 'for every input the law returns true; each argument reads behind the call as it read before'; 0 by the template 'total and deterministic' (their statements: YtckjdjddfailiaaTotals.lean).
  GIVEN WITH THE SEED: the statements are not yours to turn. If you find one false, say at which input.
  Laid BY PROGRAM, IN A SANDBOX (cutbox-rows.mjs): the forced cells as the released guide's own fill.sh prints them over the translation 61d70ae6bf22d00e… (all of the seat's roots in one cut). By AI agents, Wed Nov 11 2026. No macro, syntax, notation, axiom, sorry.
-/
import Derived.Test.YtckjdjddfailiaaChecked
import GoSem.Claim
import GoSem.ClaimJoined
import GoSem.ClaimMapViews
import Derived.JoinedTies
import Derived.KernelRfl
namespace Go.Proofs.Ytckjdjddfailiaa
/- THE CELL 'sum', in the pinned program and in every row, IS THE sha256 OF THE DUMP (.gsa) THAT YtckjdjddfailiaaProg.lean LOADS. Nothing in Lean hashes anything: it is a label: what it is worth is what the hold of that sum in a sandbox is worth. -/
noncomputable def Try.pinned : Pinned := { name := "ytckjdjddfailiaa", sum := "61d70ae6bf22d00e63ff360b34915596c30b92303c94073cdab109ea31894c8c", checked := Try.checked }
namespace Rows
def none {H : Type} : Left H := { results := [], args := [] }

/-- 'limewashlaw12.HitDoes': WHATEVER THE INPUT: true; the input reads as it did. -/
def hitDoesSpec : ChangeSpec := { name := "hitDoes", fn := fun _ => fun
  | [d1, d2, d3, d4] => { results := [.lit (.bool true)], args := [d1, d2, d3, d4] }
  | _ => none }
def hitDoesRow : OpenClaim := { program := "ytckjdjddfailiaa", sum := "61d70ae6bf22d00e63ff360b34915596c30b92303c94073cdab109ea31894c8c", func := "limewash/limewashlaw12.HitDoes", spec := "hitDoes", unfollowed := true, recurses := true, apart := false }
def HitDoesSaid : Prop := hitDoesRow.holds Try.pinned (OpenSpec.ofChange hitDoesSpec)

/-- ITS FALSE NEIGHBOUR: 'it returns false'. Refute it at one input. -/
def hitDoesWrong : ChangeSpec := { name := "hitDoes", fn := fun _ => fun
  | [d1, d2, d3, d4] => { results := [.lit (.bool false)], args := [d1, d2, d3, d4] }
  | _ => none }
def HitDoesWrongFalsely : Prop := hitDoesRow.holds Try.pinned (OpenSpec.ofChange hitDoesWrong)

/-- 'limewashlaw12.HitTurns': WHATEVER THE INPUT: true; the input reads as it did. -/
def hitTurnsSpec : ChangeSpec := { name := "hitTurns", fn := fun _ => fun
  | [d1, d2, d3] => { results := [.lit (.bool true)], args := [d1, d2, d3] }
  | _ => none }
def hitTurnsRow : OpenClaim := { program := "ytckjdjddfailiaa", sum := "61d70ae6bf22d00e63ff360b34915596c30b92303c94073cdab109ea31894c8c", func := "limewash/limewashlaw12.HitTurns", spec := "hitTurns", unfollowed := true, recurses := true, apart := false }
def HitTurnsSaid : Prop := hitTurnsRow.holds Try.pinned (OpenSpec.ofChange hitTurnsSpec)

/-- ITS FALSE NEIGHBOUR: 'it returns false'. Refute it at one input. -/
def hitTurnsWrong : ChangeSpec := { name := "hitTurns", fn := fun _ => fun
  | [d1, d2, d3] => { results := [.lit (.bool false)], args := [d1, d2, d3] }
  | _ => none }
def HitTurnsWrongFalsely : Prop := hitTurnsRow.holds Try.pinned (OpenSpec.ofChange hitTurnsWrong)

/-- 'limewashlaw12.HitApart': WHATEVER THE INPUT: true; the input reads as it did. -/
def hitApartSpec : ChangeSpec := { name := "hitApart", fn := fun _ => fun
  | [d1, d2, d3] => { results := [.lit (.bool true)], args := [d1, d2, d3] }
  | _ => none }
def hitApartRow : OpenClaim := { program := "ytckjdjddfailiaa", sum := "61d70ae6bf22d00e63ff360b34915596c30b92303c94073cdab109ea31894c8c", func := "limewash/limewashlaw12.HitApart", spec := "hitApart", unfollowed := true, recurses := true, apart := false }
def HitApartSaid : Prop := hitApartRow.holds Try.pinned (OpenSpec.ofChange hitApartSpec)

/-- ITS FALSE NEIGHBOUR: 'it returns false'. Refute it at one input. -/
def hitApartWrong : ChangeSpec := { name := "hitApart", fn := fun _ => fun
  | [d1, d2, d3] => { results := [.lit (.bool false)], args := [d1, d2, d3] }
  | _ => none }
def HitApartWrongFalsely : Prop := hitApartRow.holds Try.pinned (OpenSpec.ofChange hitApartWrong)

/-- 'limewashlaw12.HitThrough': WHATEVER THE INPUT: true; the input reads as it did. -/
def hitThroughSpec : ChangeSpec := { name := "hitThrough", fn := fun _ => fun
  | [d1, d2, d3, d4, d5] => { results := [.lit (.bool true)], args := [d1, d2, d3, d4, d5] }
  | _ => none }
def hitThroughRow : OpenClaim := { program := "ytckjdjddfailiaa", sum := "61d70ae6bf22d00e63ff360b34915596c30b92303c94073cdab109ea31894c8c", func := "limewash/limewashlaw12.HitThrough", spec := "hitThrough", unfollowed := true, recurses := true, apart := false }
def HitThroughSaid : Prop := hitThroughRow.holds Try.pinned (OpenSpec.ofChange hitThroughSpec)

/-- ITS FALSE NEIGHBOUR: 'it returns false'. Refute it at one input. -/
def hitThroughWrong : ChangeSpec := { name := "hitThrough", fn := fun _ => fun
  | [d1, d2, d3, d4, d5] => { results := [.lit (.bool false)], args := [d1, d2, d3, d4, d5] }
  | _ => none }
def HitThroughWrongFalsely : Prop := hitThroughRow.holds Try.pinned (OpenSpec.ofChange hitThroughWrong)

/-- 'limewashlaw12.HitFirst': WHATEVER THE INPUT: true; the input reads as it did. -/
def hitFirstSpec : ChangeSpec := { name := "hitFirst", fn := fun _ => fun
  | [d1, d2, d3] => { results := [.lit (.bool true)], args := [d1, d2, d3] }
  | _ => none }
def hitFirstRow : OpenClaim := { program := "ytckjdjddfailiaa", sum := "61d70ae6bf22d00e63ff360b34915596c30b92303c94073cdab109ea31894c8c", func := "limewash/limewashlaw12.HitFirst", spec := "hitFirst", unfollowed := true, recurses := true, apart := false }
def HitFirstSaid : Prop := hitFirstRow.holds Try.pinned (OpenSpec.ofChange hitFirstSpec)

/-- ITS FALSE NEIGHBOUR: 'it returns false'. Refute it at one input. -/
def hitFirstWrong : ChangeSpec := { name := "hitFirst", fn := fun _ => fun
  | [d1, d2, d3] => { results := [.lit (.bool false)], args := [d1, d2, d3] }
  | _ => none }
def HitFirstWrongFalsely : Prop := hitFirstRow.holds Try.pinned (OpenSpec.ofChange hitFirstWrong)

/-- 'limewashlaw10.MeetDoes': WHATEVER THE INPUT: true; the input reads as it did. -/
def meetDoesSpec : ChangeSpec := { name := "meetDoes", fn := fun _ => fun
  | [d1, d2, d3, d4] => { results := [.lit (.bool true)], args := [d1, d2, d3, d4] }
  | _ => none }
def meetDoesRow : OpenClaim := { program := "ytckjdjddfailiaa", sum := "61d70ae6bf22d00e63ff360b34915596c30b92303c94073cdab109ea31894c8c", func := "limewash/limewashlaw10.MeetDoes", spec := "meetDoes", unfollowed := true, recurses := true, apart := false }
def MeetDoesSaid : Prop := meetDoesRow.holds Try.pinned (OpenSpec.ofChange meetDoesSpec)

/-- ITS FALSE NEIGHBOUR: 'it returns false'. Refute it at one input. -/
def meetDoesWrong : ChangeSpec := { name := "meetDoes", fn := fun _ => fun
  | [d1, d2, d3, d4] => { results := [.lit (.bool false)], args := [d1, d2, d3, d4] }
  | _ => none }
def MeetDoesWrongFalsely : Prop := meetDoesRow.holds Try.pinned (OpenSpec.ofChange meetDoesWrong)

/-- 'limewashlaw10.MeetPoint': WHATEVER THE INPUT: true; the input reads as it did. -/
def meetPointSpec : ChangeSpec := { name := "meetPoint", fn := fun _ => fun
  | [d1, d2, d3] => { results := [.lit (.bool true)], args := [d1, d2, d3] }
  | _ => none }
def meetPointRow : OpenClaim := { program := "ytckjdjddfailiaa", sum := "61d70ae6bf22d00e63ff360b34915596c30b92303c94073cdab109ea31894c8c", func := "limewash/limewashlaw10.MeetPoint", spec := "meetPoint", unfollowed := true, recurses := true, apart := false }
def MeetPointSaid : Prop := meetPointRow.holds Try.pinned (OpenSpec.ofChange meetPointSpec)

/-- ITS FALSE NEIGHBOUR: 'it returns false'. Refute it at one input. -/
def meetPointWrong : ChangeSpec := { name := "meetPoint", fn := fun _ => fun
  | [d1, d2, d3] => { results := [.lit (.bool false)], args := [d1, d2, d3] }
  | _ => none }
def MeetPointWrongFalsely : Prop := meetPointRow.holds Try.pinned (OpenSpec.ofChange meetPointWrong)

/-- 'limewashlaw10.MeetTurns': WHATEVER THE INPUT: true; the input reads as it did. -/
def meetTurnsSpec : ChangeSpec := { name := "meetTurns", fn := fun _ => fun
  | [d1, d2, d3] => { results := [.lit (.bool true)], args := [d1, d2, d3] }
  | _ => none }
def meetTurnsRow : OpenClaim := { program := "ytckjdjddfailiaa", sum := "61d70ae6bf22d00e63ff360b34915596c30b92303c94073cdab109ea31894c8c", func := "limewash/limewashlaw10.MeetTurns", spec := "meetTurns", unfollowed := true, recurses := true, apart := false }
def MeetTurnsSaid : Prop := meetTurnsRow.holds Try.pinned (OpenSpec.ofChange meetTurnsSpec)

/-- ITS FALSE NEIGHBOUR: 'it returns false'. Refute it at one input. -/
def meetTurnsWrong : ChangeSpec := { name := "meetTurns", fn := fun _ => fun
  | [d1, d2, d3] => { results := [.lit (.bool false)], args := [d1, d2, d3] }
  | _ => none }
def MeetTurnsWrongFalsely : Prop := meetTurnsRow.holds Try.pinned (OpenSpec.ofChange meetTurnsWrong)

/-- 'limewashlaw10.MeetSelf': WHATEVER THE INPUT: true; the input reads as it did. -/
def meetSelfSpec : ChangeSpec := { name := "meetSelf", fn := fun _ => fun
  | [d1, d2] => { results := [.lit (.bool true)], args := [d1, d2] }
  | _ => none }
def meetSelfRow : OpenClaim := { program := "ytckjdjddfailiaa", sum := "61d70ae6bf22d00e63ff360b34915596c30b92303c94073cdab109ea31894c8c", func := "limewash/limewashlaw10.MeetSelf", spec := "meetSelf", unfollowed := true, recurses := true, apart := false }
def MeetSelfSaid : Prop := meetSelfRow.holds Try.pinned (OpenSpec.ofChange meetSelfSpec)

/-- ITS FALSE NEIGHBOUR: 'it returns false'. Refute it at one input. -/
def meetSelfWrong : ChangeSpec := { name := "meetSelf", fn := fun _ => fun
  | [d1, d2] => { results := [.lit (.bool false)], args := [d1, d2] }
  | _ => none }
def MeetSelfWrongFalsely : Prop := meetSelfRow.holds Try.pinned (OpenSpec.ofChange meetSelfWrong)

/-- 'limewashlaw10.MeetSquare': WHATEVER THE INPUT: true; the input reads as it did. -/
def meetSquareSpec : ChangeSpec := { name := "meetSquare", fn := fun _ => fun
  | [d1, d2, d3, d4] => { results := [.lit (.bool true)], args := [d1, d2, d3, d4] }
  | _ => none }
def meetSquareRow : OpenClaim := { program := "ytckjdjddfailiaa", sum := "61d70ae6bf22d00e63ff360b34915596c30b92303c94073cdab109ea31894c8c", func := "limewash/limewashlaw10.MeetSquare", spec := "meetSquare", unfollowed := true, recurses := true, apart := false }
def MeetSquareSaid : Prop := meetSquareRow.holds Try.pinned (OpenSpec.ofChange meetSquareSpec)

/-- ITS FALSE NEIGHBOUR: 'it returns false'. Refute it at one input. -/
def meetSquareWrong : ChangeSpec := { name := "meetSquare", fn := fun _ => fun
  | [d1, d2, d3, d4] => { results := [.lit (.bool false)], args := [d1, d2, d3, d4] }
  | _ => none }
def MeetSquareWrongFalsely : Prop := meetSquareRow.holds Try.pinned (OpenSpec.ofChange meetSquareWrong)

/- THE SECOND FORM. 'bulk': how many values and letters a reading holds, each counted each time it is reached (what is shared counts as often as it is met; a slice's spare places count too). A statement '..UptoSaid' is the law's where the arguments, and the package variables that the reading takes, are together of bulk at most 1048576: NARROWER than '..Said'. Prove '..Said' where nothing that the law and all that it calls make is longer than what came in: it says more and counts as full. Else prove '..UptoSaid'. A law counts once. -/
mutual
def uptoBulk {H : Type} : DataW H → Nat
  | .lit (.string bytes) => bytes.length + 1
  | .lit _ => 1
  | .nil => 1
  | .ptr d => uptoBulk d + 1
  | .slice elems spare => uptoBulkAll elems + uptoBulkAll spare + 1
  | .agg parts => uptoBulkAll parts + 1
  | .iface _ d => uptoBulk d + 1
  | .map entries => uptoBulkEntries entries + 1
  | .held _ => 1
def uptoBulkAll {H : Type} : List (DataW H) → Nat
  | [] => 0
  | d :: r => uptoBulk d + uptoBulkAll r
def uptoBulkEntries {H : Type} : List (Lit × DataW H) → Nat
  | [] => 0
  | x :: r => uptoBulkEntry x + uptoBulkEntries r
def uptoBulkEntry {H : Type} : Lit × DataW H → Nat
  | (.string bytes, d) => bytes.length + uptoBulk d + 1
  | (_, d) => uptoBulk d + 1
 end
def uptoSmall : (H : Type) → List (DataW H) → Bool := fun _ ds => decide (uptoBulkAll ds ≤ 1048576)
def OpenSpec.upto (s : _root_.Go.ChangeSpec) : _root_.Go.OpenSpec := { _root_.Go.OpenSpec.ofChange s with cond := some uptoSmall }

/-- 'limewashlaw12.HitDoes', WHERE WHAT IT READS IS OF BULK AT MOST 1048576: true; the input reads as it did. -/
def hitDoesUptoRow : OpenClaim := { program := "ytckjdjddfailiaa", sum := "61d70ae6bf22d00e63ff360b34915596c30b92303c94073cdab109ea31894c8c", func := "limewash/limewashlaw12.HitDoes", spec := "hitDoes", unfollowed := true, recurses := true, apart := false, narrowed := true }
def HitDoesUptoSaid : Prop := hitDoesUptoRow.holds Try.pinned (OpenSpec.upto hitDoesSpec)

/-- 'limewashlaw12.HitTurns', WHERE WHAT IT READS IS OF BULK AT MOST 1048576: true; the input reads as it did. -/
def hitTurnsUptoRow : OpenClaim := { program := "ytckjdjddfailiaa", sum := "61d70ae6bf22d00e63ff360b34915596c30b92303c94073cdab109ea31894c8c", func := "limewash/limewashlaw12.HitTurns", spec := "hitTurns", unfollowed := true, recurses := true, apart := false, narrowed := true }
def HitTurnsUptoSaid : Prop := hitTurnsUptoRow.holds Try.pinned (OpenSpec.upto hitTurnsSpec)

/-- 'limewashlaw12.HitApart', WHERE WHAT IT READS IS OF BULK AT MOST 1048576: true; the input reads as it did. -/
def hitApartUptoRow : OpenClaim := { program := "ytckjdjddfailiaa", sum := "61d70ae6bf22d00e63ff360b34915596c30b92303c94073cdab109ea31894c8c", func := "limewash/limewashlaw12.HitApart", spec := "hitApart", unfollowed := true, recurses := true, apart := false, narrowed := true }
def HitApartUptoSaid : Prop := hitApartUptoRow.holds Try.pinned (OpenSpec.upto hitApartSpec)

/-- 'limewashlaw12.HitThrough', WHERE WHAT IT READS IS OF BULK AT MOST 1048576: true; the input reads as it did. -/
def hitThroughUptoRow : OpenClaim := { program := "ytckjdjddfailiaa", sum := "61d70ae6bf22d00e63ff360b34915596c30b92303c94073cdab109ea31894c8c", func := "limewash/limewashlaw12.HitThrough", spec := "hitThrough", unfollowed := true, recurses := true, apart := false, narrowed := true }
def HitThroughUptoSaid : Prop := hitThroughUptoRow.holds Try.pinned (OpenSpec.upto hitThroughSpec)

/-- 'limewashlaw12.HitFirst', WHERE WHAT IT READS IS OF BULK AT MOST 1048576: true; the input reads as it did. -/
def hitFirstUptoRow : OpenClaim := { program := "ytckjdjddfailiaa", sum := "61d70ae6bf22d00e63ff360b34915596c30b92303c94073cdab109ea31894c8c", func := "limewash/limewashlaw12.HitFirst", spec := "hitFirst", unfollowed := true, recurses := true, apart := false, narrowed := true }
def HitFirstUptoSaid : Prop := hitFirstUptoRow.holds Try.pinned (OpenSpec.upto hitFirstSpec)

/-- 'limewashlaw10.MeetDoes', WHERE WHAT IT READS IS OF BULK AT MOST 1048576: true; the input reads as it did. -/
def meetDoesUptoRow : OpenClaim := { program := "ytckjdjddfailiaa", sum := "61d70ae6bf22d00e63ff360b34915596c30b92303c94073cdab109ea31894c8c", func := "limewash/limewashlaw10.MeetDoes", spec := "meetDoes", unfollowed := true, recurses := true, apart := false, narrowed := true }
def MeetDoesUptoSaid : Prop := meetDoesUptoRow.holds Try.pinned (OpenSpec.upto meetDoesSpec)

/-- 'limewashlaw10.MeetPoint', WHERE WHAT IT READS IS OF BULK AT MOST 1048576: true; the input reads as it did. -/
def meetPointUptoRow : OpenClaim := { program := "ytckjdjddfailiaa", sum := "61d70ae6bf22d00e63ff360b34915596c30b92303c94073cdab109ea31894c8c", func := "limewash/limewashlaw10.MeetPoint", spec := "meetPoint", unfollowed := true, recurses := true, apart := false, narrowed := true }
def MeetPointUptoSaid : Prop := meetPointUptoRow.holds Try.pinned (OpenSpec.upto meetPointSpec)

/-- 'limewashlaw10.MeetTurns', WHERE WHAT IT READS IS OF BULK AT MOST 1048576: true; the input reads as it did. -/
def meetTurnsUptoRow : OpenClaim := { program := "ytckjdjddfailiaa", sum := "61d70ae6bf22d00e63ff360b34915596c30b92303c94073cdab109ea31894c8c", func := "limewash/limewashlaw10.MeetTurns", spec := "meetTurns", unfollowed := true, recurses := true, apart := false, narrowed := true }
def MeetTurnsUptoSaid : Prop := meetTurnsUptoRow.holds Try.pinned (OpenSpec.upto meetTurnsSpec)

/-- 'limewashlaw10.MeetSelf', WHERE WHAT IT READS IS OF BULK AT MOST 1048576: true; the input reads as it did. -/
def meetSelfUptoRow : OpenClaim := { program := "ytckjdjddfailiaa", sum := "61d70ae6bf22d00e63ff360b34915596c30b92303c94073cdab109ea31894c8c", func := "limewash/limewashlaw10.MeetSelf", spec := "meetSelf", unfollowed := true, recurses := true, apart := false, narrowed := true }
def MeetSelfUptoSaid : Prop := meetSelfUptoRow.holds Try.pinned (OpenSpec.upto meetSelfSpec)

/-- 'limewashlaw10.MeetSquare', WHERE WHAT IT READS IS OF BULK AT MOST 1048576: true; the input reads as it did. -/
def meetSquareUptoRow : OpenClaim := { program := "ytckjdjddfailiaa", sum := "61d70ae6bf22d00e63ff360b34915596c30b92303c94073cdab109ea31894c8c", func := "limewash/limewashlaw10.MeetSquare", spec := "meetSquare", unfollowed := true, recurses := true, apart := false, narrowed := true }
def MeetSquareUptoSaid : Prop := meetSquareUptoRow.holds Try.pinned (OpenSpec.upto meetSquareSpec)

end Rows
end Go.Proofs.Ytckjdjddfailiaa
