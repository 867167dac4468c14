/-
  No cell of these rows narrows 'for every input' (looked for: loops, veiled, ifaces, maps, wideKeys, modest, calm, conditions, laid).
  DERIVED. THE GIVEN ROWS OF THIS SEAT. 5 by the template 'for every input the law returns true; each argument reads behind the call as it read before'; 0 by the template 'total and deterministic' (their statements: YtfkgjpdipdllhaaTotals.lean).
  GIVEN WITH THE SEED: the statements are not yours to turn. If you find one false, say at which input.
  Laid BY PROGRAM, IN A SANDBOX (cutbox-rows.mjs): the forced cells as the released guide's own fill.sh prints them over the translation 58074f2314e038c5… (all of the seat's roots in one cut). By AI agents, Wed Nov 11 2026. No macro, syntax, notation, axiom, sorry.
-/
import Derived.Test.YtfkgjpdipdllhaaChecked
import GoSem.Claim
import GoSem.ClaimJoined
import GoSem.ClaimMapViews
import Derived.JoinedTies
import Derived.KernelRfl
namespace Go.Proofs.Ytfkgjpdipdllhaa
/- THE CELL 'sum', in the pinned program and in every row, IS THE sha256 OF THE DUMP (.gsa) THAT YtfkgjpdipdllhaaProg.lean LOADS. Nothing in Lean hashes anything: it is a label: what it is worth is what the hold of that sum in a sandbox is worth. -/
noncomputable def Try.pinned : Pinned := { name := "ytfkgjpdipdllhaa", sum := "58074f2314e038c584b7f30d76128614547a97638e0903cec8981df06862fb28", checked := Try.checked }
namespace Rows
def none {H : Type} : Left H := { results := [], args := [] }

/-- 'limewashlaw19.RasterDoes': WHATEVER THE INPUT: true; the input reads as it did. -/
def rasterDoesSpec : ChangeSpec := { name := "rasterDoes", fn := fun _ => fun
  | [d1, d2, d3, d4, d5, d6, d7] => { results := [.lit (.bool true)], args := [d1, d2, d3, d4, d5, d6, d7] }
  | _ => none }
def rasterDoesRow : OpenClaim := { program := "ytfkgjpdipdllhaa", sum := "58074f2314e038c584b7f30d76128614547a97638e0903cec8981df06862fb28", func := "limewash/limewashlaw19.RasterDoes", spec := "rasterDoes", unfollowed := true, recurses := true, apart := false }
def RasterDoesSaid : Prop := rasterDoesRow.holds Try.pinned (OpenSpec.ofChange rasterDoesSpec)

/-- ITS FALSE NEIGHBOUR: 'it returns false'. Refute it at one input. -/
def rasterDoesWrong : ChangeSpec := { name := "rasterDoes", fn := fun _ => fun
  | [d1, d2, d3, d4, d5, d6, d7] => { results := [.lit (.bool false)], args := [d1, d2, d3, d4, d5, d6, d7] }
  | _ => none }
def RasterDoesWrongFalsely : Prop := rasterDoesRow.holds Try.pinned (OpenSpec.ofChange rasterDoesWrong)

/-- 'limewashlaw19.RasterOwner': WHATEVER THE INPUT: true; the input reads as it did. -/
def rasterOwnerSpec : ChangeSpec := { name := "rasterOwner", fn := fun _ => fun
  | [d1, d2, d3] => { results := [.lit (.bool true)], args := [d1, d2, d3] }
  | _ => none }
def rasterOwnerRow : OpenClaim := { program := "ytfkgjpdipdllhaa", sum := "58074f2314e038c584b7f30d76128614547a97638e0903cec8981df06862fb28", func := "limewash/limewashlaw19.RasterOwner", spec := "rasterOwner", unfollowed := true, recurses := true, apart := false }
def RasterOwnerSaid : Prop := rasterOwnerRow.holds Try.pinned (OpenSpec.ofChange rasterOwnerSpec)

/-- ITS FALSE NEIGHBOUR: 'it returns false'. Refute it at one input. -/
def rasterOwnerWrong : ChangeSpec := { name := "rasterOwner", fn := fun _ => fun
  | [d1, d2, d3] => { results := [.lit (.bool false)], args := [d1, d2, d3] }
  | _ => none }
def RasterOwnerWrongFalsely : Prop := rasterOwnerRow.holds Try.pinned (OpenSpec.ofChange rasterOwnerWrong)

/-- 'limewashlaw19.RasterAside': WHATEVER THE INPUT: true; the input reads as it did. -/
def rasterAsideSpec : ChangeSpec := { name := "rasterAside", fn := fun _ => fun
  | [d1, d2, d3] => { results := [.lit (.bool true)], args := [d1, d2, d3] }
  | _ => none }
def rasterAsideRow : OpenClaim := { program := "ytfkgjpdipdllhaa", sum := "58074f2314e038c584b7f30d76128614547a97638e0903cec8981df06862fb28", func := "limewash/limewashlaw19.RasterAside", spec := "rasterAside", unfollowed := true, recurses := true, apart := false }
def RasterAsideSaid : Prop := rasterAsideRow.holds Try.pinned (OpenSpec.ofChange rasterAsideSpec)

/-- ITS FALSE NEIGHBOUR: 'it returns false'. Refute it at one input. -/
def rasterAsideWrong : ChangeSpec := { name := "rasterAside", fn := fun _ => fun
  | [d1, d2, d3] => { results := [.lit (.bool false)], args := [d1, d2, d3] }
  | _ => none }
def RasterAsideWrongFalsely : Prop := rasterAsideRow.holds Try.pinned (OpenSpec.ofChange rasterAsideWrong)

/-- 'limewashlaw19.RasterMore': WHATEVER THE INPUT: true; the input reads as it did. -/
def rasterMoreSpec : ChangeSpec := { name := "rasterMore", fn := fun _ => fun
  | [d1, d2, d3, d4] => { results := [.lit (.bool true)], args := [d1, d2, d3, d4] }
  | _ => none }
def rasterMoreRow : OpenClaim := { program := "ytfkgjpdipdllhaa", sum := "58074f2314e038c584b7f30d76128614547a97638e0903cec8981df06862fb28", func := "limewash/limewashlaw19.RasterMore", spec := "rasterMore", unfollowed := true, recurses := true, apart := false }
def RasterMoreSaid : Prop := rasterMoreRow.holds Try.pinned (OpenSpec.ofChange rasterMoreSpec)

/-- ITS FALSE NEIGHBOUR: 'it returns false'. Refute it at one input. -/
def rasterMoreWrong : ChangeSpec := { name := "rasterMore", fn := fun _ => fun
  | [d1, d2, d3, d4] => { results := [.lit (.bool false)], args := [d1, d2, d3, d4] }
  | _ => none }
def RasterMoreWrongFalsely : Prop := rasterMoreRow.holds Try.pinned (OpenSpec.ofChange rasterMoreWrong)

/-- 'limewashlaw19.RasterPoint': WHATEVER THE INPUT: true; the input reads as it did. -/
def rasterPointSpec : ChangeSpec := { name := "rasterPoint", fn := fun _ => fun
  | [d1, d2, d3, d4] => { results := [.lit (.bool true)], args := [d1, d2, d3, d4] }
  | _ => none }
def rasterPointRow : OpenClaim := { program := "ytfkgjpdipdllhaa", sum := "58074f2314e038c584b7f30d76128614547a97638e0903cec8981df06862fb28", func := "limewash/limewashlaw19.RasterPoint", spec := "rasterPoint", unfollowed := true, recurses := true, apart := false }
def RasterPointSaid : Prop := rasterPointRow.holds Try.pinned (OpenSpec.ofChange rasterPointSpec)

/-- ITS FALSE NEIGHBOUR: 'it returns false'. Refute it at one input. -/
def rasterPointWrong : ChangeSpec := { name := "rasterPoint", fn := fun _ => fun
  | [d1, d2, d3, d4] => { results := [.lit (.bool false)], args := [d1, d2, d3, d4] }
  | _ => none }
def RasterPointWrongFalsely : Prop := rasterPointRow.holds Try.pinned (OpenSpec.ofChange rasterPointWrong)

/- THE SECOND FORM. 'bulk': how many values and letters a reading holds, each counted each time it is reached (what is shared counts as often as it is met; a slice's spare places count too). A statement '..UptoSaid' is the law's where the arguments, and the package variables that the reading takes, are together of bulk at most 1048576: NARROWER than '..Said'. Prove '..Said' where nothing that the law and all that it calls make is longer than what came in: it says more and counts as full. Else prove '..UptoSaid'. A law counts once. -/
mutual
def uptoBulk {H : Type} : DataW H → Nat
  | .lit (.string bytes) => bytes.length + 1
  | .lit _ => 1
  | .nil => 1
  | .ptr d => uptoBulk d + 1
  | .slice elems spare => uptoBulkAll elems + uptoBulkAll spare + 1
  | .agg parts => uptoBulkAll parts + 1
  | .iface _ d => uptoBulk d + 1
  | .map entries => uptoBulkEntries entries + 1
  | .held _ => 1
def uptoBulkAll {H : Type} : List (DataW H) → Nat
  | [] => 0
  | d :: r => uptoBulk d + uptoBulkAll r
def uptoBulkEntries {H : Type} : List (Lit × DataW H) → Nat
  | [] => 0
  | x :: r => uptoBulkEntry x + uptoBulkEntries r
def uptoBulkEntry {H : Type} : Lit × DataW H → Nat
  | (.string bytes, d) => bytes.length + uptoBulk d + 1
  | (_, d) => uptoBulk d + 1
 end
def uptoSmall : (H : Type) → List (DataW H) → Bool := fun _ ds => decide (uptoBulkAll ds ≤ 1048576)
def OpenSpec.upto (s : _root_.Go.ChangeSpec) : _root_.Go.OpenSpec := { _root_.Go.OpenSpec.ofChange s with cond := some uptoSmall }

/-- 'limewashlaw19.RasterDoes', WHERE WHAT IT READS IS OF BULK AT MOST 1048576: true; the input reads as it did. -/
def rasterDoesUptoRow : OpenClaim := { program := "ytfkgjpdipdllhaa", sum := "58074f2314e038c584b7f30d76128614547a97638e0903cec8981df06862fb28", func := "limewash/limewashlaw19.RasterDoes", spec := "rasterDoes", unfollowed := true, recurses := true, apart := false, narrowed := true }
def RasterDoesUptoSaid : Prop := rasterDoesUptoRow.holds Try.pinned (OpenSpec.upto rasterDoesSpec)

/-- 'limewashlaw19.RasterOwner', WHERE WHAT IT READS IS OF BULK AT MOST 1048576: true; the input reads as it did. -/
def rasterOwnerUptoRow : OpenClaim := { program := "ytfkgjpdipdllhaa", sum := "58074f2314e038c584b7f30d76128614547a97638e0903cec8981df06862fb28", func := "limewash/limewashlaw19.RasterOwner", spec := "rasterOwner", unfollowed := true, recurses := true, apart := false, narrowed := true }
def RasterOwnerUptoSaid : Prop := rasterOwnerUptoRow.holds Try.pinned (OpenSpec.upto rasterOwnerSpec)

/-- 'limewashlaw19.RasterAside', WHERE WHAT IT READS IS OF BULK AT MOST 1048576: true; the input reads as it did. -/
def rasterAsideUptoRow : OpenClaim := { program := "ytfkgjpdipdllhaa", sum := "58074f2314e038c584b7f30d76128614547a97638e0903cec8981df06862fb28", func := "limewash/limewashlaw19.RasterAside", spec := "rasterAside", unfollowed := true, recurses := true, apart := false, narrowed := true }
def RasterAsideUptoSaid : Prop := rasterAsideUptoRow.holds Try.pinned (OpenSpec.upto rasterAsideSpec)

/-- 'limewashlaw19.RasterMore', WHERE WHAT IT READS IS OF BULK AT MOST 1048576: true; the input reads as it did. -/
def rasterMoreUptoRow : OpenClaim := { program := "ytfkgjpdipdllhaa", sum := "58074f2314e038c584b7f30d76128614547a97638e0903cec8981df06862fb28", func := "limewash/limewashlaw19.RasterMore", spec := "rasterMore", unfollowed := true, recurses := true, apart := false, narrowed := true }
def RasterMoreUptoSaid : Prop := rasterMoreUptoRow.holds Try.pinned (OpenSpec.upto rasterMoreSpec)

/-- 'limewashlaw19.RasterPoint', WHERE WHAT IT READS IS OF BULK AT MOST 1048576: true; the input reads as it did. -/
def rasterPointUptoRow : OpenClaim := { program := "ytfkgjpdipdllhaa", sum := "58074f2314e038c584b7f30d76128614547a97638e0903cec8981df06862fb28", func := "limewash/limewashlaw19.RasterPoint", spec := "rasterPoint", unfollowed := true, recurses := true, apart := false, narrowed := true }
def RasterPointUptoSaid : Prop := rasterPointUptoRow.holds Try.pinned (OpenSpec.upto rasterPointSpec)

end Rows
end Go.Proofs.Ytfkgjpdipdllhaa
