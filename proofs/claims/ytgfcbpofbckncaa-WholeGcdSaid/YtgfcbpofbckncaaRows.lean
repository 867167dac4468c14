/-
  No cell of these rows narrows 'for every input' (looked for: loops, veiled, ifaces, maps, wideKeys, modest, calm, conditions, laid).
  DERIVED. THE GIVEN ROWS OF THIS SEAT. 6 by the template 'for every input the law returns true; each argument reads behind the call as it read before'; 0 by the template 'total and deterministic' (their statements: YtgfcbpofbckncaaTotals.lean).
  GIVEN WITH THE SEED: the statements are not yours to turn. If you find one false, say at which input.
  Laid BY PROGRAM, IN A SANDBOX (cutbox-rows.mjs): the forced cells as the released guide's own fill.sh prints them over the translation 4d6c0bae9ce36b54… (all of the seat's roots in one cut). By AI agents, Wed Nov 11 2026. No macro, syntax, notation, axiom, sorry.
-/
import Derived.Test.YtgfcbpofbckncaaChecked
import GoSem.Claim
import GoSem.ClaimJoined
import GoSem.ClaimMapViews
import Derived.JoinedTies
import Derived.KernelRfl
namespace Go.Proofs.Ytgfcbpofbckncaa
/- THE CELL 'sum', in the pinned program and in every row, IS THE sha256 OF THE DUMP (.gsa) THAT YtgfcbpofbckncaaProg.lean LOADS. Nothing in Lean hashes anything: it is a label: what it is worth is what the hold of that sum in a sandbox is worth. -/
noncomputable def Try.pinned : Pinned := { name := "ytgfcbpofbckncaa", sum := "4d6c0bae9ce36b54c798b9b32a37ce4d4445479750ed9c91f49c578fa11615a9", checked := Try.checked }
namespace Rows
def none {H : Type} : Left H := { results := [], args := [] }

/-- 'limewashlaw02.WholeDoes': WHATEVER THE INPUT: true; the input reads as it did. -/
def wholeDoesSpec : ChangeSpec := { name := "wholeDoes", fn := fun _ => fun
  | [d1, d2, d3, d4] => { results := [.lit (.bool true)], args := [d1, d2, d3, d4] }
  | _ => none }
def wholeDoesRow : OpenClaim := { program := "ytgfcbpofbckncaa", sum := "4d6c0bae9ce36b54c798b9b32a37ce4d4445479750ed9c91f49c578fa11615a9", func := "limewash/limewashlaw02.WholeDoes", spec := "wholeDoes", unfollowed := true, recurses := true, apart := false }
def WholeDoesSaid : Prop := wholeDoesRow.holds Try.pinned (OpenSpec.ofChange wholeDoesSpec)

/-- ITS FALSE NEIGHBOUR: 'it returns false'. Refute it at one input. -/
def wholeDoesWrong : ChangeSpec := { name := "wholeDoes", fn := fun _ => fun
  | [d1, d2, d3, d4] => { results := [.lit (.bool false)], args := [d1, d2, d3, d4] }
  | _ => none }
def WholeDoesWrongFalsely : Prop := wholeDoesRow.holds Try.pinned (OpenSpec.ofChange wholeDoesWrong)

/-- 'limewashlaw02.WholeFloor': WHATEVER THE INPUT: true; the input reads as it did. -/
def wholeFloorSpec : ChangeSpec := { name := "wholeFloor", fn := fun _ => fun
  | [d1, d2] => { results := [.lit (.bool true)], args := [d1, d2] }
  | _ => none }
def wholeFloorRow : OpenClaim := { program := "ytgfcbpofbckncaa", sum := "4d6c0bae9ce36b54c798b9b32a37ce4d4445479750ed9c91f49c578fa11615a9", func := "limewash/limewashlaw02.WholeFloor", spec := "wholeFloor", unfollowed := true, recurses := true, apart := false }
def WholeFloorSaid : Prop := wholeFloorRow.holds Try.pinned (OpenSpec.ofChange wholeFloorSpec)

/-- ITS FALSE NEIGHBOUR: 'it returns false'. Refute it at one input. -/
def wholeFloorWrong : ChangeSpec := { name := "wholeFloor", fn := fun _ => fun
  | [d1, d2] => { results := [.lit (.bool false)], args := [d1, d2] }
  | _ => none }
def WholeFloorWrongFalsely : Prop := wholeFloorRow.holds Try.pinned (OpenSpec.ofChange wholeFloorWrong)

/-- 'limewashlaw02.WholeCeil': WHATEVER THE INPUT: true; the input reads as it did. -/
def wholeCeilSpec : ChangeSpec := { name := "wholeCeil", fn := fun _ => fun
  | [d1, d2] => { results := [.lit (.bool true)], args := [d1, d2] }
  | _ => none }
def wholeCeilRow : OpenClaim := { program := "ytgfcbpofbckncaa", sum := "4d6c0bae9ce36b54c798b9b32a37ce4d4445479750ed9c91f49c578fa11615a9", func := "limewash/limewashlaw02.WholeCeil", spec := "wholeCeil", unfollowed := true, recurses := true, apart := false }
def WholeCeilSaid : Prop := wholeCeilRow.holds Try.pinned (OpenSpec.ofChange wholeCeilSpec)

/-- ITS FALSE NEIGHBOUR: 'it returns false'. Refute it at one input. -/
def wholeCeilWrong : ChangeSpec := { name := "wholeCeil", fn := fun _ => fun
  | [d1, d2] => { results := [.lit (.bool false)], args := [d1, d2] }
  | _ => none }
def WholeCeilWrongFalsely : Prop := wholeCeilRow.holds Try.pinned (OpenSpec.ofChange wholeCeilWrong)

/-- 'limewashlaw02.WholeGcd': WHATEVER THE INPUT: true; the input reads as it did. -/
def wholeGcdSpec : ChangeSpec := { name := "wholeGcd", fn := fun _ => fun
  | [d1, d2] => { results := [.lit (.bool true)], args := [d1, d2] }
  | _ => none }
def wholeGcdRow : OpenClaim := { program := "ytgfcbpofbckncaa", sum := "4d6c0bae9ce36b54c798b9b32a37ce4d4445479750ed9c91f49c578fa11615a9", func := "limewash/limewashlaw02.WholeGcd", spec := "wholeGcd", unfollowed := true, recurses := true, apart := false }
def WholeGcdSaid : Prop := wholeGcdRow.holds Try.pinned (OpenSpec.ofChange wholeGcdSpec)

/-- ITS FALSE NEIGHBOUR: 'it returns false'. Refute it at one input. -/
def wholeGcdWrong : ChangeSpec := { name := "wholeGcd", fn := fun _ => fun
  | [d1, d2] => { results := [.lit (.bool false)], args := [d1, d2] }
  | _ => none }
def WholeGcdWrongFalsely : Prop := wholeGcdRow.holds Try.pinned (OpenSpec.ofChange wholeGcdWrong)

/-- 'limewashlaw02.WholeSqrt': WHATEVER THE INPUT: true; the input reads as it did. -/
def wholeSqrtSpec : ChangeSpec := { name := "wholeSqrt", fn := fun _ => fun
  | [d] => { results := [.lit (.bool true)], args := [d] }
  | _ => none }
def wholeSqrtRow : OpenClaim := { program := "ytgfcbpofbckncaa", sum := "4d6c0bae9ce36b54c798b9b32a37ce4d4445479750ed9c91f49c578fa11615a9", func := "limewash/limewashlaw02.WholeSqrt", spec := "wholeSqrt", unfollowed := true, recurses := true, apart := false }
def WholeSqrtSaid : Prop := wholeSqrtRow.holds Try.pinned (OpenSpec.ofChange wholeSqrtSpec)

/-- ITS FALSE NEIGHBOUR: 'it returns false'. Refute it at one input. -/
def wholeSqrtWrong : ChangeSpec := { name := "wholeSqrt", fn := fun _ => fun
  | [d] => { results := [.lit (.bool false)], args := [d] }
  | _ => none }
def WholeSqrtWrongFalsely : Prop := wholeSqrtRow.holds Try.pinned (OpenSpec.ofChange wholeSqrtWrong)

/-- 'limewashlaw02.WholeClamp': WHATEVER THE INPUT: true; the input reads as it did. -/
def wholeClampSpec : ChangeSpec := { name := "wholeClamp", fn := fun _ => fun
  | [d1, d2, d3] => { results := [.lit (.bool true)], args := [d1, d2, d3] }
  | _ => none }
def wholeClampRow : OpenClaim := { program := "ytgfcbpofbckncaa", sum := "4d6c0bae9ce36b54c798b9b32a37ce4d4445479750ed9c91f49c578fa11615a9", func := "limewash/limewashlaw02.WholeClamp", spec := "wholeClamp", unfollowed := true, recurses := true, apart := false }
def WholeClampSaid : Prop := wholeClampRow.holds Try.pinned (OpenSpec.ofChange wholeClampSpec)

/-- ITS FALSE NEIGHBOUR: 'it returns false'. Refute it at one input. -/
def wholeClampWrong : ChangeSpec := { name := "wholeClamp", fn := fun _ => fun
  | [d1, d2, d3] => { results := [.lit (.bool false)], args := [d1, d2, d3] }
  | _ => none }
def WholeClampWrongFalsely : Prop := wholeClampRow.holds Try.pinned (OpenSpec.ofChange wholeClampWrong)

/- THE SECOND FORM. 'bulk': how many values and letters a reading holds, each counted each time it is reached (what is shared counts as often as it is met; a slice's spare places count too). A statement '..UptoSaid' is the law's where the arguments, and the package variables that the reading takes, are together of bulk at most 1048576: NARROWER than '..Said'. Prove '..Said' where nothing that the law and all that it calls make is longer than what came in: it says more and counts as full. Else prove '..UptoSaid'. A law counts once. -/
mutual
def uptoBulk {H : Type} : DataW H → Nat
  | .lit (.string bytes) => bytes.length + 1
  | .lit _ => 1
  | .nil => 1
  | .ptr d => uptoBulk d + 1
  | .slice elems spare => uptoBulkAll elems + uptoBulkAll spare + 1
  | .agg parts => uptoBulkAll parts + 1
  | .iface _ d => uptoBulk d + 1
  | .map entries => uptoBulkEntries entries + 1
  | .held _ => 1
def uptoBulkAll {H : Type} : List (DataW H) → Nat
  | [] => 0
  | d :: r => uptoBulk d + uptoBulkAll r
def uptoBulkEntries {H : Type} : List (Lit × DataW H) → Nat
  | [] => 0
  | x :: r => uptoBulkEntry x + uptoBulkEntries r
def uptoBulkEntry {H : Type} : Lit × DataW H → Nat
  | (.string bytes, d) => bytes.length + uptoBulk d + 1
  | (_, d) => uptoBulk d + 1
 end
def uptoSmall : (H : Type) → List (DataW H) → Bool := fun _ ds => decide (uptoBulkAll ds ≤ 1048576)
def OpenSpec.upto (s : _root_.Go.ChangeSpec) : _root_.Go.OpenSpec := { _root_.Go.OpenSpec.ofChange s with cond := some uptoSmall }

/-- 'limewashlaw02.WholeDoes', WHERE WHAT IT READS IS OF BULK AT MOST 1048576: true; the input reads as it did. -/
def wholeDoesUptoRow : OpenClaim := { program := "ytgfcbpofbckncaa", sum := "4d6c0bae9ce36b54c798b9b32a37ce4d4445479750ed9c91f49c578fa11615a9", func := "limewash/limewashlaw02.WholeDoes", spec := "wholeDoes", unfollowed := true, recurses := true, apart := false, narrowed := true }
def WholeDoesUptoSaid : Prop := wholeDoesUptoRow.holds Try.pinned (OpenSpec.upto wholeDoesSpec)

/-- 'limewashlaw02.WholeFloor', WHERE WHAT IT READS IS OF BULK AT MOST 1048576: true; the input reads as it did. -/
def wholeFloorUptoRow : OpenClaim := { program := "ytgfcbpofbckncaa", sum := "4d6c0bae9ce36b54c798b9b32a37ce4d4445479750ed9c91f49c578fa11615a9", func := "limewash/limewashlaw02.WholeFloor", spec := "wholeFloor", unfollowed := true, recurses := true, apart := false, narrowed := true }
def WholeFloorUptoSaid : Prop := wholeFloorUptoRow.holds Try.pinned (OpenSpec.upto wholeFloorSpec)

/-- 'limewashlaw02.WholeCeil', WHERE WHAT IT READS IS OF BULK AT MOST 1048576: true; the input reads as it did. -/
def wholeCeilUptoRow : OpenClaim := { program := "ytgfcbpofbckncaa", sum := "4d6c0bae9ce36b54c798b9b32a37ce4d4445479750ed9c91f49c578fa11615a9", func := "limewash/limewashlaw02.WholeCeil", spec := "wholeCeil", unfollowed := true, recurses := true, apart := false, narrowed := true }
def WholeCeilUptoSaid : Prop := wholeCeilUptoRow.holds Try.pinned (OpenSpec.upto wholeCeilSpec)

/-- 'limewashlaw02.WholeGcd', WHERE WHAT IT READS IS OF BULK AT MOST 1048576: true; the input reads as it did. -/
def wholeGcdUptoRow : OpenClaim := { program := "ytgfcbpofbckncaa", sum := "4d6c0bae9ce36b54c798b9b32a37ce4d4445479750ed9c91f49c578fa11615a9", func := "limewash/limewashlaw02.WholeGcd", spec := "wholeGcd", unfollowed := true, recurses := true, apart := false, narrowed := true }
def WholeGcdUptoSaid : Prop := wholeGcdUptoRow.holds Try.pinned (OpenSpec.upto wholeGcdSpec)

/-- 'limewashlaw02.WholeSqrt', WHERE WHAT IT READS IS OF BULK AT MOST 1048576: true; the input reads as it did. -/
def wholeSqrtUptoRow : OpenClaim := { program := "ytgfcbpofbckncaa", sum := "4d6c0bae9ce36b54c798b9b32a37ce4d4445479750ed9c91f49c578fa11615a9", func := "limewash/limewashlaw02.WholeSqrt", spec := "wholeSqrt", unfollowed := true, recurses := true, apart := false, narrowed := true }
def WholeSqrtUptoSaid : Prop := wholeSqrtUptoRow.holds Try.pinned (OpenSpec.upto wholeSqrtSpec)

/-- 'limewashlaw02.WholeClamp', WHERE WHAT IT READS IS OF BULK AT MOST 1048576: true; the input reads as it did. -/
def wholeClampUptoRow : OpenClaim := { program := "ytgfcbpofbckncaa", sum := "4d6c0bae9ce36b54c798b9b32a37ce4d4445479750ed9c91f49c578fa11615a9", func := "limewash/limewashlaw02.WholeClamp", spec := "wholeClamp", unfollowed := true, recurses := true, apart := false, narrowed := true }
def WholeClampUptoSaid : Prop := wholeClampUptoRow.holds Try.pinned (OpenSpec.upto wholeClampSpec)

end Rows
end Go.Proofs.Ytgfcbpofbckncaa
