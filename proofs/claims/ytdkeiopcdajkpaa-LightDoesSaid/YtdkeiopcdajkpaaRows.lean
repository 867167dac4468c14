/-
  No cell of these rows narrows 'for every input' (looked for: loops, veiled, ifaces, maps, wideKeys, modest, calm, conditions, laid).
  DERIVED. THE GIVEN ROWS OF THIS SEAT. 10 by the template 'for every input the law returns true; each argument reads behind the call as it read before'; 0 by the template 'total and deterministic' (their statements: YtdkeiopcdajkpaaTotals.lean).
  GIVEN WITH THE SEED: the statements are not yours to turn. If you find one false, say at which input.
  Laid BY PROGRAM, IN A SANDBOX (cutbox-rows.mjs): the forced cells as the released guide's own fill.sh prints them over the translation 34d2a563b62ccaed… (all of the seat's roots in one cut). By AI agents, Wed Nov 11 2026. No macro, syntax, notation, axiom, sorry.
-/
import Derived.Test.YtdkeiopcdajkpaaChecked
import GoSem.Claim
import GoSem.ClaimJoined
import GoSem.ClaimMapViews
import Derived.JoinedTies
import Derived.KernelRfl
namespace Go.Proofs.Ytdkeiopcdajkpaa
/- THE CELL 'sum', in the pinned program and in every row, IS THE sha256 OF THE DUMP (.gsa) THAT YtdkeiopcdajkpaaProg.lean LOADS. Nothing in Lean hashes anything: it is a label: what it is worth is what the hold of that sum in a sandbox is worth. -/
noncomputable def Try.pinned : Pinned := { name := "ytdkeiopcdajkpaa", sum := "34d2a563b62ccaed0a8d43308f96cfaa8f66746302ce6890cf11119ec0bdb1ab", checked := Try.checked }
namespace Rows
def none {H : Type} : Left H := { results := [], args := [] }

/-- 'limewashlaw24.FrameDoes': WHATEVER THE INPUT: true; the input reads as it did. -/
def frameDoesSpec : ChangeSpec := { name := "frameDoes", fn := fun _ => fun
  | [d1, d2, d3] => { results := [.lit (.bool true)], args := [d1, d2, d3] }
  | _ => none }
def frameDoesRow : OpenClaim := { program := "ytdkeiopcdajkpaa", sum := "34d2a563b62ccaed0a8d43308f96cfaa8f66746302ce6890cf11119ec0bdb1ab", func := "limewash/limewashlaw24.FrameDoes", spec := "frameDoes", unfollowed := true, recurses := true, apart := false }
def FrameDoesSaid : Prop := frameDoesRow.holds Try.pinned (OpenSpec.ofChange frameDoesSpec)

/-- ITS FALSE NEIGHBOUR: 'it returns false'. Refute it at one input. -/
def frameDoesWrong : ChangeSpec := { name := "frameDoes", fn := fun _ => fun
  | [d1, d2, d3] => { results := [.lit (.bool false)], args := [d1, d2, d3] }
  | _ => none }
def FrameDoesWrongFalsely : Prop := frameDoesRow.holds Try.pinned (OpenSpec.ofChange frameDoesWrong)

/-- 'limewashlaw24.FrameUnit': WHATEVER THE INPUT: true; the input reads as it did. -/
def frameUnitSpec : ChangeSpec := { name := "frameUnit", fn := fun _ => fun
  | [d] => { results := [.lit (.bool true)], args := [d] }
  | _ => none }
def frameUnitRow : OpenClaim := { program := "ytdkeiopcdajkpaa", sum := "34d2a563b62ccaed0a8d43308f96cfaa8f66746302ce6890cf11119ec0bdb1ab", func := "limewash/limewashlaw24.FrameUnit", spec := "frameUnit", unfollowed := true, recurses := true, apart := false }
def FrameUnitSaid : Prop := frameUnitRow.holds Try.pinned (OpenSpec.ofChange frameUnitSpec)

/-- ITS FALSE NEIGHBOUR: 'it returns false'. Refute it at one input. -/
def frameUnitWrong : ChangeSpec := { name := "frameUnit", fn := fun _ => fun
  | [d] => { results := [.lit (.bool false)], args := [d] }
  | _ => none }
def FrameUnitWrongFalsely : Prop := frameUnitRow.holds Try.pinned (OpenSpec.ofChange frameUnitWrong)

/-- 'limewashlaw24.FrameAlong': WHATEVER THE INPUT: true; the input reads as it did. -/
def frameAlongSpec : ChangeSpec := { name := "frameAlong", fn := fun _ => fun
  | [d1, d2, d3] => { results := [.lit (.bool true)], args := [d1, d2, d3] }
  | _ => none }
def frameAlongRow : OpenClaim := { program := "ytdkeiopcdajkpaa", sum := "34d2a563b62ccaed0a8d43308f96cfaa8f66746302ce6890cf11119ec0bdb1ab", func := "limewash/limewashlaw24.FrameAlong", spec := "frameAlong", unfollowed := true, recurses := true, apart := false }
def FrameAlongSaid : Prop := frameAlongRow.holds Try.pinned (OpenSpec.ofChange frameAlongSpec)

/-- ITS FALSE NEIGHBOUR: 'it returns false'. Refute it at one input. -/
def frameAlongWrong : ChangeSpec := { name := "frameAlong", fn := fun _ => fun
  | [d1, d2, d3] => { results := [.lit (.bool false)], args := [d1, d2, d3] }
  | _ => none }
def FrameAlongWrongFalsely : Prop := frameAlongRow.holds Try.pinned (OpenSpec.ofChange frameAlongWrong)

/-- 'limewashlaw24.FrameSquare': WHATEVER THE INPUT: true; the input reads as it did. -/
def frameSquareSpec : ChangeSpec := { name := "frameSquare", fn := fun _ => fun
  | [d1, d2] => { results := [.lit (.bool true)], args := [d1, d2] }
  | _ => none }
def frameSquareRow : OpenClaim := { program := "ytdkeiopcdajkpaa", sum := "34d2a563b62ccaed0a8d43308f96cfaa8f66746302ce6890cf11119ec0bdb1ab", func := "limewash/limewashlaw24.FrameSquare", spec := "frameSquare", unfollowed := true, recurses := true, apart := false }
def FrameSquareSaid : Prop := frameSquareRow.holds Try.pinned (OpenSpec.ofChange frameSquareSpec)

/-- ITS FALSE NEIGHBOUR: 'it returns false'. Refute it at one input. -/
def frameSquareWrong : ChangeSpec := { name := "frameSquare", fn := fun _ => fun
  | [d1, d2] => { results := [.lit (.bool false)], args := [d1, d2] }
  | _ => none }
def FrameSquareWrongFalsely : Prop := frameSquareRow.holds Try.pinned (OpenSpec.ofChange frameSquareWrong)

/-- 'limewashlaw24.FrameLambert': WHATEVER THE INPUT: true; the input reads as it did. -/
def frameLambertSpec : ChangeSpec := { name := "frameLambert", fn := fun _ => fun
  | [d1, d2] => { results := [.lit (.bool true)], args := [d1, d2] }
  | _ => none }
def frameLambertRow : OpenClaim := { program := "ytdkeiopcdajkpaa", sum := "34d2a563b62ccaed0a8d43308f96cfaa8f66746302ce6890cf11119ec0bdb1ab", func := "limewash/limewashlaw24.FrameLambert", spec := "frameLambert", unfollowed := true, recurses := true, apart := false }
def FrameLambertSaid : Prop := frameLambertRow.holds Try.pinned (OpenSpec.ofChange frameLambertSpec)

/-- ITS FALSE NEIGHBOUR: 'it returns false'. Refute it at one input. -/
def frameLambertWrong : ChangeSpec := { name := "frameLambert", fn := fun _ => fun
  | [d1, d2] => { results := [.lit (.bool false)], args := [d1, d2] }
  | _ => none }
def FrameLambertWrongFalsely : Prop := frameLambertRow.holds Try.pinned (OpenSpec.ofChange frameLambertWrong)

/-- 'limewashlaw25.LightDoes': WHATEVER THE INPUT: true; the input reads as it did. -/
def lightDoesSpec : ChangeSpec := { name := "lightDoes", fn := fun _ => fun
  | [d1, d2, d3, d4] => { results := [.lit (.bool true)], args := [d1, d2, d3, d4] }
  | _ => none }
def lightDoesRow : OpenClaim := { program := "ytdkeiopcdajkpaa", sum := "34d2a563b62ccaed0a8d43308f96cfaa8f66746302ce6890cf11119ec0bdb1ab", func := "limewash/limewashlaw25.LightDoes", spec := "lightDoes", unfollowed := true, recurses := true, apart := false }
def LightDoesSaid : Prop := lightDoesRow.holds Try.pinned (OpenSpec.ofChange lightDoesSpec)

/-- ITS FALSE NEIGHBOUR: 'it returns false'. Refute it at one input. -/
def lightDoesWrong : ChangeSpec := { name := "lightDoes", fn := fun _ => fun
  | [d1, d2, d3, d4] => { results := [.lit (.bool false)], args := [d1, d2, d3, d4] }
  | _ => none }
def LightDoesWrongFalsely : Prop := lightDoesRow.holds Try.pinned (OpenSpec.ofChange lightDoesWrong)

/-- 'limewashlaw25.LightMost': WHATEVER THE INPUT: true; the input reads as it did. -/
def lightMostSpec : ChangeSpec := { name := "lightMost", fn := fun _ => fun
  | [d1, d2, d3] => { results := [.lit (.bool true)], args := [d1, d2, d3] }
  | _ => none }
def lightMostRow : OpenClaim := { program := "ytdkeiopcdajkpaa", sum := "34d2a563b62ccaed0a8d43308f96cfaa8f66746302ce6890cf11119ec0bdb1ab", func := "limewash/limewashlaw25.LightMost", spec := "lightMost", unfollowed := true, recurses := true, apart := false }
def LightMostSaid : Prop := lightMostRow.holds Try.pinned (OpenSpec.ofChange lightMostSpec)

/-- ITS FALSE NEIGHBOUR: 'it returns false'. Refute it at one input. -/
def lightMostWrong : ChangeSpec := { name := "lightMost", fn := fun _ => fun
  | [d1, d2, d3] => { results := [.lit (.bool false)], args := [d1, d2, d3] }
  | _ => none }
def LightMostWrongFalsely : Prop := lightMostRow.holds Try.pinned (OpenSpec.ofChange lightMostWrong)

/-- 'limewashlaw25.LightSpot': WHATEVER THE INPUT: true; the input reads as it did. -/
def lightSpotSpec : ChangeSpec := { name := "lightSpot", fn := fun _ => fun
  | [d1, d2, d3, d4] => { results := [.lit (.bool true)], args := [d1, d2, d3, d4] }
  | _ => none }
def lightSpotRow : OpenClaim := { program := "ytdkeiopcdajkpaa", sum := "34d2a563b62ccaed0a8d43308f96cfaa8f66746302ce6890cf11119ec0bdb1ab", func := "limewash/limewashlaw25.LightSpot", spec := "lightSpot", unfollowed := true, recurses := true, apart := false }
def LightSpotSaid : Prop := lightSpotRow.holds Try.pinned (OpenSpec.ofChange lightSpotSpec)

/-- ITS FALSE NEIGHBOUR: 'it returns false'. Refute it at one input. -/
def lightSpotWrong : ChangeSpec := { name := "lightSpot", fn := fun _ => fun
  | [d1, d2, d3, d4] => { results := [.lit (.bool false)], args := [d1, d2, d3, d4] }
  | _ => none }
def LightSpotWrongFalsely : Prop := lightSpotRow.holds Try.pinned (OpenSpec.ofChange lightSpotWrong)

/-- 'limewashlaw25.LightPower': WHATEVER THE INPUT: true; the input reads as it did. -/
def lightPowerSpec : ChangeSpec := { name := "lightPower", fn := fun _ => fun
  | [d1, d2, d3] => { results := [.lit (.bool true)], args := [d1, d2, d3] }
  | _ => none }
def lightPowerRow : OpenClaim := { program := "ytdkeiopcdajkpaa", sum := "34d2a563b62ccaed0a8d43308f96cfaa8f66746302ce6890cf11119ec0bdb1ab", func := "limewash/limewashlaw25.LightPower", spec := "lightPower", unfollowed := true, recurses := true, apart := false }
def LightPowerSaid : Prop := lightPowerRow.holds Try.pinned (OpenSpec.ofChange lightPowerSpec)

/-- ITS FALSE NEIGHBOUR: 'it returns false'. Refute it at one input. -/
def lightPowerWrong : ChangeSpec := { name := "lightPower", fn := fun _ => fun
  | [d1, d2, d3] => { results := [.lit (.bool false)], args := [d1, d2, d3] }
  | _ => none }
def LightPowerWrongFalsely : Prop := lightPowerRow.holds Try.pinned (OpenSpec.ofChange lightPowerWrong)

/-- 'limewashlaw25.LightSum': WHATEVER THE INPUT: true; the input reads as it did. -/
def lightSumSpec : ChangeSpec := { name := "lightSum", fn := fun _ => fun
  | [d1, d2] => { results := [.lit (.bool true)], args := [d1, d2] }
  | _ => none }
def lightSumRow : OpenClaim := { program := "ytdkeiopcdajkpaa", sum := "34d2a563b62ccaed0a8d43308f96cfaa8f66746302ce6890cf11119ec0bdb1ab", func := "limewash/limewashlaw25.LightSum", spec := "lightSum", unfollowed := true, recurses := true, apart := false }
def LightSumSaid : Prop := lightSumRow.holds Try.pinned (OpenSpec.ofChange lightSumSpec)

/-- ITS FALSE NEIGHBOUR: 'it returns false'. Refute it at one input. -/
def lightSumWrong : ChangeSpec := { name := "lightSum", fn := fun _ => fun
  | [d1, d2] => { results := [.lit (.bool false)], args := [d1, d2] }
  | _ => none }
def LightSumWrongFalsely : Prop := lightSumRow.holds Try.pinned (OpenSpec.ofChange lightSumWrong)

/- THE SECOND FORM. 'bulk': how many values and letters a reading holds, each counted each time it is reached (what is shared counts as often as it is met; a slice's spare places count too). A statement '..UptoSaid' is the law's where the arguments, and the package variables that the reading takes, are together of bulk at most 1048576: NARROWER than '..Said'. Prove '..Said' where nothing that the law and all that it calls make is longer than what came in: it says more and counts as full. Else prove '..UptoSaid'. A law counts once. -/
mutual
def uptoBulk {H : Type} : DataW H → Nat
  | .lit (.string bytes) => bytes.length + 1
  | .lit _ => 1
  | .nil => 1
  | .ptr d => uptoBulk d + 1
  | .slice elems spare => uptoBulkAll elems + uptoBulkAll spare + 1
  | .agg parts => uptoBulkAll parts + 1
  | .iface _ d => uptoBulk d + 1
  | .map entries => uptoBulkEntries entries + 1
  | .held _ => 1
def uptoBulkAll {H : Type} : List (DataW H) → Nat
  | [] => 0
  | d :: r => uptoBulk d + uptoBulkAll r
def uptoBulkEntries {H : Type} : List (Lit × DataW H) → Nat
  | [] => 0
  | x :: r => uptoBulkEntry x + uptoBulkEntries r
def uptoBulkEntry {H : Type} : Lit × DataW H → Nat
  | (.string bytes, d) => bytes.length + uptoBulk d + 1
  | (_, d) => uptoBulk d + 1
 end
def uptoSmall : (H : Type) → List (DataW H) → Bool := fun _ ds => decide (uptoBulkAll ds ≤ 1048576)
def OpenSpec.upto (s : _root_.Go.ChangeSpec) : _root_.Go.OpenSpec := { _root_.Go.OpenSpec.ofChange s with cond := some uptoSmall }

/-- 'limewashlaw24.FrameDoes', WHERE WHAT IT READS IS OF BULK AT MOST 1048576: true; the input reads as it did. -/
def frameDoesUptoRow : OpenClaim := { program := "ytdkeiopcdajkpaa", sum := "34d2a563b62ccaed0a8d43308f96cfaa8f66746302ce6890cf11119ec0bdb1ab", func := "limewash/limewashlaw24.FrameDoes", spec := "frameDoes", unfollowed := true, recurses := true, apart := false, narrowed := true }
def FrameDoesUptoSaid : Prop := frameDoesUptoRow.holds Try.pinned (OpenSpec.upto frameDoesSpec)

/-- 'limewashlaw24.FrameUnit', WHERE WHAT IT READS IS OF BULK AT MOST 1048576: true; the input reads as it did. -/
def frameUnitUptoRow : OpenClaim := { program := "ytdkeiopcdajkpaa", sum := "34d2a563b62ccaed0a8d43308f96cfaa8f66746302ce6890cf11119ec0bdb1ab", func := "limewash/limewashlaw24.FrameUnit", spec := "frameUnit", unfollowed := true, recurses := true, apart := false, narrowed := true }
def FrameUnitUptoSaid : Prop := frameUnitUptoRow.holds Try.pinned (OpenSpec.upto frameUnitSpec)

/-- 'limewashlaw24.FrameAlong', WHERE WHAT IT READS IS OF BULK AT MOST 1048576: true; the input reads as it did. -/
def frameAlongUptoRow : OpenClaim := { program := "ytdkeiopcdajkpaa", sum := "34d2a563b62ccaed0a8d43308f96cfaa8f66746302ce6890cf11119ec0bdb1ab", func := "limewash/limewashlaw24.FrameAlong", spec := "frameAlong", unfollowed := true, recurses := true, apart := false, narrowed := true }
def FrameAlongUptoSaid : Prop := frameAlongUptoRow.holds Try.pinned (OpenSpec.upto frameAlongSpec)

/-- 'limewashlaw24.FrameSquare', WHERE WHAT IT READS IS OF BULK AT MOST 1048576: true; the input reads as it did. -/
def frameSquareUptoRow : OpenClaim := { program := "ytdkeiopcdajkpaa", sum := "34d2a563b62ccaed0a8d43308f96cfaa8f66746302ce6890cf11119ec0bdb1ab", func := "limewash/limewashlaw24.FrameSquare", spec := "frameSquare", unfollowed := true, recurses := true, apart := false, narrowed := true }
def FrameSquareUptoSaid : Prop := frameSquareUptoRow.holds Try.pinned (OpenSpec.upto frameSquareSpec)

/-- 'limewashlaw24.FrameLambert', WHERE WHAT IT READS IS OF BULK AT MOST 1048576: true; the input reads as it did. -/
def frameLambertUptoRow : OpenClaim := { program := "ytdkeiopcdajkpaa", sum := "34d2a563b62ccaed0a8d43308f96cfaa8f66746302ce6890cf11119ec0bdb1ab", func := "limewash/limewashlaw24.FrameLambert", spec := "frameLambert", unfollowed := true, recurses := true, apart := false, narrowed := true }
def FrameLambertUptoSaid : Prop := frameLambertUptoRow.holds Try.pinned (OpenSpec.upto frameLambertSpec)

/-- 'limewashlaw25.LightDoes', WHERE WHAT IT READS IS OF BULK AT MOST 1048576: true; the input reads as it did. -/
def lightDoesUptoRow : OpenClaim := { program := "ytdkeiopcdajkpaa", sum := "34d2a563b62ccaed0a8d43308f96cfaa8f66746302ce6890cf11119ec0bdb1ab", func := "limewash/limewashlaw25.LightDoes", spec := "lightDoes", unfollowed := true, recurses := true, apart := false, narrowed := true }
def LightDoesUptoSaid : Prop := lightDoesUptoRow.holds Try.pinned (OpenSpec.upto lightDoesSpec)

/-- 'limewashlaw25.LightMost', WHERE WHAT IT READS IS OF BULK AT MOST 1048576: true; the input reads as it did. -/
def lightMostUptoRow : OpenClaim := { program := "ytdkeiopcdajkpaa", sum := "34d2a563b62ccaed0a8d43308f96cfaa8f66746302ce6890cf11119ec0bdb1ab", func := "limewash/limewashlaw25.LightMost", spec := "lightMost", unfollowed := true, recurses := true, apart := false, narrowed := true }
def LightMostUptoSaid : Prop := lightMostUptoRow.holds Try.pinned (OpenSpec.upto lightMostSpec)

/-- 'limewashlaw25.LightSpot', WHERE WHAT IT READS IS OF BULK AT MOST 1048576: true; the input reads as it did. -/
def lightSpotUptoRow : OpenClaim := { program := "ytdkeiopcdajkpaa", sum := "34d2a563b62ccaed0a8d43308f96cfaa8f66746302ce6890cf11119ec0bdb1ab", func := "limewash/limewashlaw25.LightSpot", spec := "lightSpot", unfollowed := true, recurses := true, apart := false, narrowed := true }
def LightSpotUptoSaid : Prop := lightSpotUptoRow.holds Try.pinned (OpenSpec.upto lightSpotSpec)

/-- 'limewashlaw25.LightPower', WHERE WHAT IT READS IS OF BULK AT MOST 1048576: true; the input reads as it did. -/
def lightPowerUptoRow : OpenClaim := { program := "ytdkeiopcdajkpaa", sum := "34d2a563b62ccaed0a8d43308f96cfaa8f66746302ce6890cf11119ec0bdb1ab", func := "limewash/limewashlaw25.LightPower", spec := "lightPower", unfollowed := true, recurses := true, apart := false, narrowed := true }
def LightPowerUptoSaid : Prop := lightPowerUptoRow.holds Try.pinned (OpenSpec.upto lightPowerSpec)

/-- 'limewashlaw25.LightSum', WHERE WHAT IT READS IS OF BULK AT MOST 1048576: true; the input reads as it did. -/
def lightSumUptoRow : OpenClaim := { program := "ytdkeiopcdajkpaa", sum := "34d2a563b62ccaed0a8d43308f96cfaa8f66746302ce6890cf11119ec0bdb1ab", func := "limewash/limewashlaw25.LightSum", spec := "lightSum", unfollowed := true, recurses := true, apart := false, narrowed := true }
def LightSumUptoSaid : Prop := lightSumUptoRow.holds Try.pinned (OpenSpec.upto lightSumSpec)

end Rows
end Go.Proofs.Ytdkeiopcdajkpaa
