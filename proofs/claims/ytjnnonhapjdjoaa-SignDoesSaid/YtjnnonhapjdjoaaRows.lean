/-
  No cell of these rows narrows 'for every input' (looked for: loops, veiled, ifaces, maps, wideKeys, modest, calm, conditions, laid).
  DERIVED. THE GIVEN ROWS OF THIS SEAT. 10 by the template 'for every input the law returns true; each argument reads behind the call as it read before'; 0 by the template 'total and deterministic' (their statements: YtjnnonhapjdjoaaTotals.lean).
  GIVEN WITH THE SEED: the statements are not yours to turn. If you find one false, say at which input.
  Laid BY PROGRAM, IN A SANDBOX (cutbox-rows.mjs): the forced cells as the released guide's own fill.sh prints them over the translation 991e77036317e48e… (all of the seat's roots in one cut). By AI agents, Wed Nov 11 2026. No macro, syntax, notation, axiom, sorry.
-/
import Derived.Test.YtjnnonhapjdjoaaChecked
import GoSem.Claim
import GoSem.ClaimJoined
import GoSem.ClaimMapViews
import Derived.JoinedTies
import Derived.KernelRfl
namespace Go.Proofs.Ytjnnonhapjdjoaa
/- THE CELL 'sum', in the pinned program and in every row, IS THE sha256 OF THE DUMP (.gsa) THAT YtjnnonhapjdjoaaProg.lean LOADS. Nothing in Lean hashes anything: it is a label: what it is worth is what the hold of that sum in a sandbox is worth. -/
noncomputable def Try.pinned : Pinned := { name := "ytjnnonhapjdjoaa", sum := "991e77036317e48e3b701af6e84fc75bd7fa9e2bade647ea5c1c3b9a7d194c8b", checked := Try.checked }
namespace Rows
def none {H : Type} : Left H := { results := [], args := [] }

/-- 'limewashlaw04.VecSquare': WHATEVER THE INPUT: true; the input reads as it did. -/
def vecSquareSpec : ChangeSpec := { name := "vecSquare", fn := fun _ => fun
  | [d1, d2] => { results := [.lit (.bool true)], args := [d1, d2] }
  | _ => none }
def vecSquareRow : OpenClaim := { program := "ytjnnonhapjdjoaa", sum := "991e77036317e48e3b701af6e84fc75bd7fa9e2bade647ea5c1c3b9a7d194c8b", func := "limewash/limewashlaw04.VecSquare", spec := "vecSquare", apart := false }
def VecSquareSaid : Prop := vecSquareRow.holds Try.pinned (OpenSpec.ofChange vecSquareSpec)

/-- ITS FALSE NEIGHBOUR: 'it returns false'. Refute it at one input. -/
def vecSquareWrong : ChangeSpec := { name := "vecSquare", fn := fun _ => fun
  | [d1, d2] => { results := [.lit (.bool false)], args := [d1, d2] }
  | _ => none }
def VecSquareWrongFalsely : Prop := vecSquareRow.holds Try.pinned (OpenSpec.ofChange vecSquareWrong)

/-- 'limewashlaw04.VecAlong': WHATEVER THE INPUT: true; the input reads as it did. -/
def vecAlongSpec : ChangeSpec := { name := "vecAlong", fn := fun _ => fun
  | [d1, d2] => { results := [.lit (.bool true)], args := [d1, d2] }
  | _ => none }
def vecAlongRow : OpenClaim := { program := "ytjnnonhapjdjoaa", sum := "991e77036317e48e3b701af6e84fc75bd7fa9e2bade647ea5c1c3b9a7d194c8b", func := "limewash/limewashlaw04.VecAlong", spec := "vecAlong", apart := false }
def VecAlongSaid : Prop := vecAlongRow.holds Try.pinned (OpenSpec.ofChange vecAlongSpec)

/-- ITS FALSE NEIGHBOUR: 'it returns false'. Refute it at one input. -/
def vecAlongWrong : ChangeSpec := { name := "vecAlong", fn := fun _ => fun
  | [d1, d2] => { results := [.lit (.bool false)], args := [d1, d2] }
  | _ => none }
def VecAlongWrongFalsely : Prop := vecAlongRow.holds Try.pinned (OpenSpec.ofChange vecAlongWrong)

/-- 'limewashlaw04.VecSums': WHATEVER THE INPUT: true; the input reads as it did. -/
def vecSumsSpec : ChangeSpec := { name := "vecSums", fn := fun _ => fun
  | [d1, d2, d3] => { results := [.lit (.bool true)], args := [d1, d2, d3] }
  | _ => none }
def vecSumsRow : OpenClaim := { program := "ytjnnonhapjdjoaa", sum := "991e77036317e48e3b701af6e84fc75bd7fa9e2bade647ea5c1c3b9a7d194c8b", func := "limewash/limewashlaw04.VecSums", spec := "vecSums", apart := false }
def VecSumsSaid : Prop := vecSumsRow.holds Try.pinned (OpenSpec.ofChange vecSumsSpec)

/-- ITS FALSE NEIGHBOUR: 'it returns false'. Refute it at one input. -/
def vecSumsWrong : ChangeSpec := { name := "vecSums", fn := fun _ => fun
  | [d1, d2, d3] => { results := [.lit (.bool false)], args := [d1, d2, d3] }
  | _ => none }
def VecSumsWrongFalsely : Prop := vecSumsRow.holds Try.pinned (OpenSpec.ofChange vecSumsWrong)

/-- 'limewashlaw04.VecOrder': WHATEVER THE INPUT: true; the input reads as it did. -/
def vecOrderSpec : ChangeSpec := { name := "vecOrder", fn := fun _ => fun
  | [d1, d2, d3] => { results := [.lit (.bool true)], args := [d1, d2, d3] }
  | _ => none }
def vecOrderRow : OpenClaim := { program := "ytjnnonhapjdjoaa", sum := "991e77036317e48e3b701af6e84fc75bd7fa9e2bade647ea5c1c3b9a7d194c8b", func := "limewash/limewashlaw04.VecOrder", spec := "vecOrder", apart := false }
def VecOrderSaid : Prop := vecOrderRow.holds Try.pinned (OpenSpec.ofChange vecOrderSpec)

/-- ITS FALSE NEIGHBOUR: 'it returns false'. Refute it at one input. -/
def vecOrderWrong : ChangeSpec := { name := "vecOrder", fn := fun _ => fun
  | [d1, d2, d3] => { results := [.lit (.bool false)], args := [d1, d2, d3] }
  | _ => none }
def VecOrderWrongFalsely : Prop := vecOrderRow.holds Try.pinned (OpenSpec.ofChange vecOrderWrong)

/-- 'limewashlaw04.VecDoes': WHATEVER THE INPUT: true; the input reads as it did. -/
def vecDoesSpec : ChangeSpec := { name := "vecDoes", fn := fun _ => fun
  | [d1, d2, d3, d4, d5] => { results := [.lit (.bool true)], args := [d1, d2, d3, d4, d5] }
  | _ => none }
def vecDoesRow : OpenClaim := { program := "ytjnnonhapjdjoaa", sum := "991e77036317e48e3b701af6e84fc75bd7fa9e2bade647ea5c1c3b9a7d194c8b", func := "limewash/limewashlaw04.VecDoes", spec := "vecDoes", apart := false }
def VecDoesSaid : Prop := vecDoesRow.holds Try.pinned (OpenSpec.ofChange vecDoesSpec)

/-- ITS FALSE NEIGHBOUR: 'it returns false'. Refute it at one input. -/
def vecDoesWrong : ChangeSpec := { name := "vecDoes", fn := fun _ => fun
  | [d1, d2, d3, d4, d5] => { results := [.lit (.bool false)], args := [d1, d2, d3, d4, d5] }
  | _ => none }
def VecDoesWrongFalsely : Prop := vecDoesRow.holds Try.pinned (OpenSpec.ofChange vecDoesWrong)

/-- 'limewashlaw09.SignDoes': WHATEVER THE INPUT: true; the input reads as it did. -/
def signDoesSpec : ChangeSpec := { name := "signDoes", fn := fun _ => fun
  | [d1, d2, d3, d4, d5, d6, d7] => { results := [.lit (.bool true)], args := [d1, d2, d3, d4, d5, d6, d7] }
  | _ => none }
def signDoesRow : OpenClaim := { program := "ytjnnonhapjdjoaa", sum := "991e77036317e48e3b701af6e84fc75bd7fa9e2bade647ea5c1c3b9a7d194c8b", func := "limewash/limewashlaw09.SignDoes", spec := "signDoes", apart := false }
def SignDoesSaid : Prop := signDoesRow.holds Try.pinned (OpenSpec.ofChange signDoesSpec)

/-- ITS FALSE NEIGHBOUR: 'it returns false'. Refute it at one input. -/
def signDoesWrong : ChangeSpec := { name := "signDoes", fn := fun _ => fun
  | [d1, d2, d3, d4, d5, d6, d7] => { results := [.lit (.bool false)], args := [d1, d2, d3, d4, d5, d6, d7] }
  | _ => none }
def SignDoesWrongFalsely : Prop := signDoesRow.holds Try.pinned (OpenSpec.ofChange signDoesWrong)

/-- 'limewashlaw09.SignTurns': WHATEVER THE INPUT: true; the input reads as it did. -/
def signTurnsSpec : ChangeSpec := { name := "signTurns", fn := fun _ => fun
  | [d1, d2, d3, d4, d5, d6] => { results := [.lit (.bool true)], args := [d1, d2, d3, d4, d5, d6] }
  | _ => none }
def signTurnsRow : OpenClaim := { program := "ytjnnonhapjdjoaa", sum := "991e77036317e48e3b701af6e84fc75bd7fa9e2bade647ea5c1c3b9a7d194c8b", func := "limewash/limewashlaw09.SignTurns", spec := "signTurns", apart := false }
def SignTurnsSaid : Prop := signTurnsRow.holds Try.pinned (OpenSpec.ofChange signTurnsSpec)

/-- ITS FALSE NEIGHBOUR: 'it returns false'. Refute it at one input. -/
def signTurnsWrong : ChangeSpec := { name := "signTurns", fn := fun _ => fun
  | [d1, d2, d3, d4, d5, d6] => { results := [.lit (.bool false)], args := [d1, d2, d3, d4, d5, d6] }
  | _ => none }
def SignTurnsWrongFalsely : Prop := signTurnsRow.holds Try.pinned (OpenSpec.ofChange signTurnsWrong)

/-- 'limewashlaw09.SignParts': WHATEVER THE INPUT: true; the input reads as it did. -/
def signPartsSpec : ChangeSpec := { name := "signParts", fn := fun _ => fun
  | [d1, d2, d3, d4] => { results := [.lit (.bool true)], args := [d1, d2, d3, d4] }
  | _ => none }
def signPartsRow : OpenClaim := { program := "ytjnnonhapjdjoaa", sum := "991e77036317e48e3b701af6e84fc75bd7fa9e2bade647ea5c1c3b9a7d194c8b", func := "limewash/limewashlaw09.SignParts", spec := "signParts", apart := false }
def SignPartsSaid : Prop := signPartsRow.holds Try.pinned (OpenSpec.ofChange signPartsSpec)

/-- ITS FALSE NEIGHBOUR: 'it returns false'. Refute it at one input. -/
def signPartsWrong : ChangeSpec := { name := "signParts", fn := fun _ => fun
  | [d1, d2, d3, d4] => { results := [.lit (.bool false)], args := [d1, d2, d3, d4] }
  | _ => none }
def SignPartsWrongFalsely : Prop := signPartsRow.holds Try.pinned (OpenSpec.ofChange signPartsWrong)

/-- 'limewashlaw09.SignMoves': WHATEVER THE INPUT: true; the input reads as it did. -/
def signMovesSpec : ChangeSpec := { name := "signMoves", fn := fun _ => fun
  | [d1, d2, d3, d4, d5, d6, d7, d8, d9] => { results := [.lit (.bool true)], args := [d1, d2, d3, d4, d5, d6, d7, d8, d9] }
  | _ => none }
def signMovesRow : OpenClaim := { program := "ytjnnonhapjdjoaa", sum := "991e77036317e48e3b701af6e84fc75bd7fa9e2bade647ea5c1c3b9a7d194c8b", func := "limewash/limewashlaw09.SignMoves", spec := "signMoves", apart := false }
def SignMovesSaid : Prop := signMovesRow.holds Try.pinned (OpenSpec.ofChange signMovesSpec)

/-- ITS FALSE NEIGHBOUR: 'it returns false'. Refute it at one input. -/
def signMovesWrong : ChangeSpec := { name := "signMoves", fn := fun _ => fun
  | [d1, d2, d3, d4, d5, d6, d7, d8, d9] => { results := [.lit (.bool false)], args := [d1, d2, d3, d4, d5, d6, d7, d8, d9] }
  | _ => none }
def SignMovesWrongFalsely : Prop := signMovesRow.holds Try.pinned (OpenSpec.ofChange signMovesWrong)

/-- 'limewashlaw09.SignFlat': WHATEVER THE INPUT: true; the input reads as it did. -/
def signFlatSpec : ChangeSpec := { name := "signFlat", fn := fun _ => fun
  | [d1, d2, d3, d4] => { results := [.lit (.bool true)], args := [d1, d2, d3, d4] }
  | _ => none }
def signFlatRow : OpenClaim := { program := "ytjnnonhapjdjoaa", sum := "991e77036317e48e3b701af6e84fc75bd7fa9e2bade647ea5c1c3b9a7d194c8b", func := "limewash/limewashlaw09.SignFlat", spec := "signFlat", apart := false }
def SignFlatSaid : Prop := signFlatRow.holds Try.pinned (OpenSpec.ofChange signFlatSpec)

/-- ITS FALSE NEIGHBOUR: 'it returns false'. Refute it at one input. -/
def signFlatWrong : ChangeSpec := { name := "signFlat", fn := fun _ => fun
  | [d1, d2, d3, d4] => { results := [.lit (.bool false)], args := [d1, d2, d3, d4] }
  | _ => none }
def SignFlatWrongFalsely : Prop := signFlatRow.holds Try.pinned (OpenSpec.ofChange signFlatWrong)

/- THE SECOND FORM. 'bulk': how many values and letters a reading holds, each counted each time it is reached (what is shared counts as often as it is met; a slice's spare places count too). A statement '..UptoSaid' is the law's where the arguments, and the package variables that the reading takes, are together of bulk at most 1048576: NARROWER than '..Said'. Prove '..Said' where nothing that the law and all that it calls make is longer than what came in: it says more and counts as full. Else prove '..UptoSaid'. A law counts once. -/
mutual
def uptoBulk {H : Type} : DataW H → Nat
  | .lit (.string bytes) => bytes.length + 1
  | .lit _ => 1
  | .nil => 1
  | .ptr d => uptoBulk d + 1
  | .slice elems spare => uptoBulkAll elems + uptoBulkAll spare + 1
  | .agg parts => uptoBulkAll parts + 1
  | .iface _ d => uptoBulk d + 1
  | .map entries => uptoBulkEntries entries + 1
  | .held _ => 1
def uptoBulkAll {H : Type} : List (DataW H) → Nat
  | [] => 0
  | d :: r => uptoBulk d + uptoBulkAll r
def uptoBulkEntries {H : Type} : List (Lit × DataW H) → Nat
  | [] => 0
  | x :: r => uptoBulkEntry x + uptoBulkEntries r
def uptoBulkEntry {H : Type} : Lit × DataW H → Nat
  | (.string bytes, d) => bytes.length + uptoBulk d + 1
  | (_, d) => uptoBulk d + 1
 end
def uptoSmall : (H : Type) → List (DataW H) → Bool := fun _ ds => decide (uptoBulkAll ds ≤ 1048576)
def OpenSpec.upto (s : _root_.Go.ChangeSpec) : _root_.Go.OpenSpec := { _root_.Go.OpenSpec.ofChange s with cond := some uptoSmall }

/-- 'limewashlaw04.VecSquare', WHERE WHAT IT READS IS OF BULK AT MOST 1048576: true; the input reads as it did. -/
def vecSquareUptoRow : OpenClaim := { program := "ytjnnonhapjdjoaa", sum := "991e77036317e48e3b701af6e84fc75bd7fa9e2bade647ea5c1c3b9a7d194c8b", func := "limewash/limewashlaw04.VecSquare", spec := "vecSquare", apart := false, narrowed := true }
def VecSquareUptoSaid : Prop := vecSquareUptoRow.holds Try.pinned (OpenSpec.upto vecSquareSpec)

/-- 'limewashlaw04.VecAlong', WHERE WHAT IT READS IS OF BULK AT MOST 1048576: true; the input reads as it did. -/
def vecAlongUptoRow : OpenClaim := { program := "ytjnnonhapjdjoaa", sum := "991e77036317e48e3b701af6e84fc75bd7fa9e2bade647ea5c1c3b9a7d194c8b", func := "limewash/limewashlaw04.VecAlong", spec := "vecAlong", apart := false, narrowed := true }
def VecAlongUptoSaid : Prop := vecAlongUptoRow.holds Try.pinned (OpenSpec.upto vecAlongSpec)

/-- 'limewashlaw04.VecSums', WHERE WHAT IT READS IS OF BULK AT MOST 1048576: true; the input reads as it did. -/
def vecSumsUptoRow : OpenClaim := { program := "ytjnnonhapjdjoaa", sum := "991e77036317e48e3b701af6e84fc75bd7fa9e2bade647ea5c1c3b9a7d194c8b", func := "limewash/limewashlaw04.VecSums", spec := "vecSums", apart := false, narrowed := true }
def VecSumsUptoSaid : Prop := vecSumsUptoRow.holds Try.pinned (OpenSpec.upto vecSumsSpec)

/-- 'limewashlaw04.VecOrder', WHERE WHAT IT READS IS OF BULK AT MOST 1048576: true; the input reads as it did. -/
def vecOrderUptoRow : OpenClaim := { program := "ytjnnonhapjdjoaa", sum := "991e77036317e48e3b701af6e84fc75bd7fa9e2bade647ea5c1c3b9a7d194c8b", func := "limewash/limewashlaw04.VecOrder", spec := "vecOrder", apart := false, narrowed := true }
def VecOrderUptoSaid : Prop := vecOrderUptoRow.holds Try.pinned (OpenSpec.upto vecOrderSpec)

/-- 'limewashlaw04.VecDoes', WHERE WHAT IT READS IS OF BULK AT MOST 1048576: true; the input reads as it did. -/
def vecDoesUptoRow : OpenClaim := { program := "ytjnnonhapjdjoaa", sum := "991e77036317e48e3b701af6e84fc75bd7fa9e2bade647ea5c1c3b9a7d194c8b", func := "limewash/limewashlaw04.VecDoes", spec := "vecDoes", apart := false, narrowed := true }
def VecDoesUptoSaid : Prop := vecDoesUptoRow.holds Try.pinned (OpenSpec.upto vecDoesSpec)

/-- 'limewashlaw09.SignDoes', WHERE WHAT IT READS IS OF BULK AT MOST 1048576: true; the input reads as it did. -/
def signDoesUptoRow : OpenClaim := { program := "ytjnnonhapjdjoaa", sum := "991e77036317e48e3b701af6e84fc75bd7fa9e2bade647ea5c1c3b9a7d194c8b", func := "limewash/limewashlaw09.SignDoes", spec := "signDoes", apart := false, narrowed := true }
def SignDoesUptoSaid : Prop := signDoesUptoRow.holds Try.pinned (OpenSpec.upto signDoesSpec)

/-- 'limewashlaw09.SignTurns', WHERE WHAT IT READS IS OF BULK AT MOST 1048576: true; the input reads as it did. -/
def signTurnsUptoRow : OpenClaim := { program := "ytjnnonhapjdjoaa", sum := "991e77036317e48e3b701af6e84fc75bd7fa9e2bade647ea5c1c3b9a7d194c8b", func := "limewash/limewashlaw09.SignTurns", spec := "signTurns", apart := false, narrowed := true }
def SignTurnsUptoSaid : Prop := signTurnsUptoRow.holds Try.pinned (OpenSpec.upto signTurnsSpec)

/-- 'limewashlaw09.SignParts', WHERE WHAT IT READS IS OF BULK AT MOST 1048576: true; the input reads as it did. -/
def signPartsUptoRow : OpenClaim := { program := "ytjnnonhapjdjoaa", sum := "991e77036317e48e3b701af6e84fc75bd7fa9e2bade647ea5c1c3b9a7d194c8b", func := "limewash/limewashlaw09.SignParts", spec := "signParts", apart := false, narrowed := true }
def SignPartsUptoSaid : Prop := signPartsUptoRow.holds Try.pinned (OpenSpec.upto signPartsSpec)

/-- 'limewashlaw09.SignMoves', WHERE WHAT IT READS IS OF BULK AT MOST 1048576: true; the input reads as it did. -/
def signMovesUptoRow : OpenClaim := { program := "ytjnnonhapjdjoaa", sum := "991e77036317e48e3b701af6e84fc75bd7fa9e2bade647ea5c1c3b9a7d194c8b", func := "limewash/limewashlaw09.SignMoves", spec := "signMoves", apart := false, narrowed := true }
def SignMovesUptoSaid : Prop := signMovesUptoRow.holds Try.pinned (OpenSpec.upto signMovesSpec)

/-- 'limewashlaw09.SignFlat', WHERE WHAT IT READS IS OF BULK AT MOST 1048576: true; the input reads as it did. -/
def signFlatUptoRow : OpenClaim := { program := "ytjnnonhapjdjoaa", sum := "991e77036317e48e3b701af6e84fc75bd7fa9e2bade647ea5c1c3b9a7d194c8b", func := "limewash/limewashlaw09.SignFlat", spec := "signFlat", apart := false, narrowed := true }
def SignFlatUptoSaid : Prop := signFlatUptoRow.holds Try.pinned (OpenSpec.upto signFlatSpec)

end Rows
end Go.Proofs.Ytjnnonhapjdjoaa
