/-
  No cell of these rows narrows 'for every input' (looked for: loops, veiled, ifaces, maps, wideKeys, modest, calm, conditions, laid).
  DERIVED. THE GIVEN ROWS OF THIS SEAT. 5 by the template 'for every input the law returns true; each argument reads behind the call as it read before'; 0 by the template 'total and deterministic' (their statements: YtndnjjeildnhdaaTotals.lean).
  GIVEN WITH THE SEED: the statements are not yours to turn. If you find one false, say at which input.
  Laid BY PROGRAM, IN A SANDBOX (cutbox-rows.mjs): the forced cells as the released guide's own fill.sh prints them over the translation 7eb23385f5bbde75… (all of the seat's roots in one cut). By AI agents, Wed Nov 11 2026. No macro, syntax, notation, axiom, sorry.
-/
import Derived.Test.YtndnjjeildnhdaaChecked
import GoSem.Claim
import GoSem.ClaimJoined
import GoSem.ClaimMapViews
import Derived.JoinedTies
import Derived.KernelRfl
namespace Go.Proofs.Ytndnjjeildnhdaa
/- THE CELL 'sum', in the pinned program and in every row, IS THE sha256 OF THE DUMP (.gsa) THAT YtndnjjeildnhdaaProg.lean LOADS. Nothing in Lean hashes anything: it is a label: what it is worth is what the hold of that sum in a sandbox is worth. -/
noncomputable def Try.pinned : Pinned := { name := "ytndnjjeildnhdaa", sum := "7eb23385f5bbde75c76a3aa8836099e0743a0caf095ff9ca12581c86e319b509", checked := Try.checked }
namespace Rows
def none {H : Type} : Left H := { results := [], args := [] }

/-- 'limewashlaw23.HaltonDoes': WHATEVER THE INPUT: true; the input reads as it did. -/
def haltonDoesSpec : ChangeSpec := { name := "haltonDoes", fn := fun _ => fun
  | [d1, d2, d3, d4] => { results := [.lit (.bool true)], args := [d1, d2, d3, d4] }
  | _ => none }
def haltonDoesRow : OpenClaim := { program := "ytndnjjeildnhdaa", sum := "7eb23385f5bbde75c76a3aa8836099e0743a0caf095ff9ca12581c86e319b509", func := "limewash/limewashlaw23.HaltonDoes", spec := "haltonDoes", inPlace := ["sync/atomic.LoadUint32", "(*internal/sync.Mutex).Lock", "internal/race.Disable", "sync/atomic.CompareAndSwapInt32", "internal/race.Enable", "internal/race.Acquire", "(*internal/sync.Mutex).lockSlow", "internal/sync.runtime_canSpin", "internal/sync.runtime_doSpin", "internal/sync.throw", "internal/sync.runtime_nanotime", "internal/sync.runtime_SemacquireMutex", "sync/atomic.AddInt32", "(*internal/sync.Mutex).Unlock", "internal/race.ReleaseMerge", "(*internal/sync.Mutex).unlockSlow", "internal/sync.fatal", "internal/sync.runtime_Semrelease", "sync/atomic.StoreUint32"], unfollowed := true, recurses := true, apart := false }
def HaltonDoesSaid : Prop := haltonDoesRow.holds Try.pinned (OpenSpec.ofChange haltonDoesSpec)

/-- ITS FALSE NEIGHBOUR: 'it returns false'. Refute it at one input. -/
def haltonDoesWrong : ChangeSpec := { name := "haltonDoes", fn := fun _ => fun
  | [d1, d2, d3, d4] => { results := [.lit (.bool false)], args := [d1, d2, d3, d4] }
  | _ => none }
def HaltonDoesWrongFalsely : Prop := haltonDoesRow.holds Try.pinned (OpenSpec.ofChange haltonDoesWrong)

/-- 'limewashlaw23.HaltonEach': WHATEVER THE INPUT: true; the input reads as it did. -/
def haltonEachSpec : ChangeSpec := { name := "haltonEach", fn := fun _ => fun
  | [d1, d2] => { results := [.lit (.bool true)], args := [d1, d2] }
  | _ => none }
def haltonEachRow : OpenClaim := { program := "ytndnjjeildnhdaa", sum := "7eb23385f5bbde75c76a3aa8836099e0743a0caf095ff9ca12581c86e319b509", func := "limewash/limewashlaw23.HaltonEach", spec := "haltonEach", inPlace := ["sync/atomic.LoadUint32", "(*internal/sync.Mutex).Lock", "internal/race.Disable", "sync/atomic.CompareAndSwapInt32", "internal/race.Enable", "internal/race.Acquire", "(*internal/sync.Mutex).lockSlow", "internal/sync.runtime_canSpin", "internal/sync.runtime_doSpin", "internal/sync.throw", "internal/sync.runtime_nanotime", "internal/sync.runtime_SemacquireMutex", "sync/atomic.AddInt32", "(*internal/sync.Mutex).Unlock", "internal/race.ReleaseMerge", "(*internal/sync.Mutex).unlockSlow", "internal/sync.fatal", "internal/sync.runtime_Semrelease", "sync/atomic.StoreUint32"], unfollowed := true, recurses := true, apart := false }
def HaltonEachSaid : Prop := haltonEachRow.holds Try.pinned (OpenSpec.ofChange haltonEachSpec)

/-- ITS FALSE NEIGHBOUR: 'it returns false'. Refute it at one input. -/
def haltonEachWrong : ChangeSpec := { name := "haltonEach", fn := fun _ => fun
  | [d1, d2] => { results := [.lit (.bool false)], args := [d1, d2] }
  | _ => none }
def HaltonEachWrongFalsely : Prop := haltonEachRow.holds Try.pinned (OpenSpec.ofChange haltonEachWrong)

/-- 'limewashlaw23.HaltonDisc': WHATEVER THE INPUT: true; the input reads as it did. -/
def haltonDiscSpec : ChangeSpec := { name := "haltonDisc", fn := fun _ => fun
  | [d1, d2] => { results := [.lit (.bool true)], args := [d1, d2] }
  | _ => none }
def haltonDiscRow : OpenClaim := { program := "ytndnjjeildnhdaa", sum := "7eb23385f5bbde75c76a3aa8836099e0743a0caf095ff9ca12581c86e319b509", func := "limewash/limewashlaw23.HaltonDisc", spec := "haltonDisc", inPlace := ["sync/atomic.LoadUint32", "(*internal/sync.Mutex).Lock", "internal/race.Disable", "sync/atomic.CompareAndSwapInt32", "internal/race.Enable", "internal/race.Acquire", "(*internal/sync.Mutex).lockSlow", "internal/sync.runtime_canSpin", "internal/sync.runtime_doSpin", "internal/sync.throw", "internal/sync.runtime_nanotime", "internal/sync.runtime_SemacquireMutex", "sync/atomic.AddInt32", "(*internal/sync.Mutex).Unlock", "internal/race.ReleaseMerge", "(*internal/sync.Mutex).unlockSlow", "internal/sync.fatal", "internal/sync.runtime_Semrelease", "sync/atomic.StoreUint32"], unfollowed := true, recurses := true, apart := false }
def HaltonDiscSaid : Prop := haltonDiscRow.holds Try.pinned (OpenSpec.ofChange haltonDiscSpec)

/-- ITS FALSE NEIGHBOUR: 'it returns false'. Refute it at one input. -/
def haltonDiscWrong : ChangeSpec := { name := "haltonDisc", fn := fun _ => fun
  | [d1, d2] => { results := [.lit (.bool false)], args := [d1, d2] }
  | _ => none }
def HaltonDiscWrongFalsely : Prop := haltonDiscRow.holds Try.pinned (OpenSpec.ofChange haltonDiscWrong)

/-- 'limewashlaw23.HaltonInside': WHATEVER THE INPUT: true; the input reads as it did. -/
def haltonInsideSpec : ChangeSpec := { name := "haltonInside", fn := fun _ => fun
  | [d] => { results := [.lit (.bool true)], args := [d] }
  | _ => none }
def haltonInsideRow : OpenClaim := { program := "ytndnjjeildnhdaa", sum := "7eb23385f5bbde75c76a3aa8836099e0743a0caf095ff9ca12581c86e319b509", func := "limewash/limewashlaw23.HaltonInside", spec := "haltonInside", inPlace := ["sync/atomic.LoadUint32", "(*internal/sync.Mutex).Lock", "internal/race.Disable", "sync/atomic.CompareAndSwapInt32", "internal/race.Enable", "internal/race.Acquire", "(*internal/sync.Mutex).lockSlow", "internal/sync.runtime_canSpin", "internal/sync.runtime_doSpin", "internal/sync.throw", "internal/sync.runtime_nanotime", "internal/sync.runtime_SemacquireMutex", "sync/atomic.AddInt32", "(*internal/sync.Mutex).Unlock", "internal/race.ReleaseMerge", "(*internal/sync.Mutex).unlockSlow", "internal/sync.fatal", "internal/sync.runtime_Semrelease", "sync/atomic.StoreUint32"], unfollowed := true, recurses := true, apart := false }
def HaltonInsideSaid : Prop := haltonInsideRow.holds Try.pinned (OpenSpec.ofChange haltonInsideSpec)

/-- ITS FALSE NEIGHBOUR: 'it returns false'. Refute it at one input. -/
def haltonInsideWrong : ChangeSpec := { name := "haltonInside", fn := fun _ => fun
  | [d] => { results := [.lit (.bool false)], args := [d] }
  | _ => none }
def HaltonInsideWrongFalsely : Prop := haltonInsideRow.holds Try.pinned (OpenSpec.ofChange haltonInsideWrong)

/-- 'limewashlaw23.HaltonDigit': WHATEVER THE INPUT: true; the input reads as it did. -/
def haltonDigitSpec : ChangeSpec := { name := "haltonDigit", fn := fun _ => fun
  | [d1, d2, d3] => { results := [.lit (.bool true)], args := [d1, d2, d3] }
  | _ => none }
def haltonDigitRow : OpenClaim := { program := "ytndnjjeildnhdaa", sum := "7eb23385f5bbde75c76a3aa8836099e0743a0caf095ff9ca12581c86e319b509", func := "limewash/limewashlaw23.HaltonDigit", spec := "haltonDigit", inPlace := ["sync/atomic.LoadUint32", "(*internal/sync.Mutex).Lock", "internal/race.Disable", "sync/atomic.CompareAndSwapInt32", "internal/race.Enable", "internal/race.Acquire", "(*internal/sync.Mutex).lockSlow", "internal/sync.runtime_canSpin", "internal/sync.runtime_doSpin", "internal/sync.throw", "internal/sync.runtime_nanotime", "internal/sync.runtime_SemacquireMutex", "sync/atomic.AddInt32", "(*internal/sync.Mutex).Unlock", "internal/race.ReleaseMerge", "(*internal/sync.Mutex).unlockSlow", "internal/sync.fatal", "internal/sync.runtime_Semrelease", "sync/atomic.StoreUint32"], unfollowed := true, recurses := true, apart := false }
def HaltonDigitSaid : Prop := haltonDigitRow.holds Try.pinned (OpenSpec.ofChange haltonDigitSpec)

/-- ITS FALSE NEIGHBOUR: 'it returns false'. Refute it at one input. -/
def haltonDigitWrong : ChangeSpec := { name := "haltonDigit", fn := fun _ => fun
  | [d1, d2, d3] => { results := [.lit (.bool false)], args := [d1, d2, d3] }
  | _ => none }
def HaltonDigitWrongFalsely : Prop := haltonDigitRow.holds Try.pinned (OpenSpec.ofChange haltonDigitWrong)

/- THE SECOND FORM. 'bulk': how many values and letters a reading holds, each counted each time it is reached (what is shared counts as often as it is met; a slice's spare places count too). A statement '..UptoSaid' is the law's where the arguments, and the package variables that the reading takes, are together of bulk at most 1048576: NARROWER than '..Said'. Prove '..Said' where nothing that the law and all that it calls make is longer than what came in: it says more and counts as full. Else prove '..UptoSaid'. A law counts once. -/
mutual
def uptoBulk {H : Type} : DataW H → Nat
  | .lit (.string bytes) => bytes.length + 1
  | .lit _ => 1
  | .nil => 1
  | .ptr d => uptoBulk d + 1
  | .slice elems spare => uptoBulkAll elems + uptoBulkAll spare + 1
  | .agg parts => uptoBulkAll parts + 1
  | .iface _ d => uptoBulk d + 1
  | .map entries => uptoBulkEntries entries + 1
  | .held _ => 1
def uptoBulkAll {H : Type} : List (DataW H) → Nat
  | [] => 0
  | d :: r => uptoBulk d + uptoBulkAll r
def uptoBulkEntries {H : Type} : List (Lit × DataW H) → Nat
  | [] => 0
  | x :: r => uptoBulkEntry x + uptoBulkEntries r
def uptoBulkEntry {H : Type} : Lit × DataW H → Nat
  | (.string bytes, d) => bytes.length + uptoBulk d + 1
  | (_, d) => uptoBulk d + 1
 end
def uptoSmall : (H : Type) → List (DataW H) → Bool := fun _ ds => decide (uptoBulkAll ds ≤ 1048576)
def OpenSpec.upto (s : _root_.Go.ChangeSpec) : _root_.Go.OpenSpec := { _root_.Go.OpenSpec.ofChange s with cond := some uptoSmall }

/-- 'limewashlaw23.HaltonDoes', WHERE WHAT IT READS IS OF BULK AT MOST 1048576: true; the input reads as it did. -/
def haltonDoesUptoRow : OpenClaim := { program := "ytndnjjeildnhdaa", sum := "7eb23385f5bbde75c76a3aa8836099e0743a0caf095ff9ca12581c86e319b509", func := "limewash/limewashlaw23.HaltonDoes", spec := "haltonDoes", inPlace := ["sync/atomic.LoadUint32", "(*internal/sync.Mutex).Lock", "internal/race.Disable", "sync/atomic.CompareAndSwapInt32", "internal/race.Enable", "internal/race.Acquire", "(*internal/sync.Mutex).lockSlow", "internal/sync.runtime_canSpin", "internal/sync.runtime_doSpin", "internal/sync.throw", "internal/sync.runtime_nanotime", "internal/sync.runtime_SemacquireMutex", "sync/atomic.AddInt32", "(*internal/sync.Mutex).Unlock", "internal/race.ReleaseMerge", "(*internal/sync.Mutex).unlockSlow", "internal/sync.fatal", "internal/sync.runtime_Semrelease", "sync/atomic.StoreUint32"], unfollowed := true, recurses := true, apart := false, narrowed := true }
def HaltonDoesUptoSaid : Prop := haltonDoesUptoRow.holds Try.pinned (OpenSpec.upto haltonDoesSpec)

/-- 'limewashlaw23.HaltonEach', WHERE WHAT IT READS IS OF BULK AT MOST 1048576: true; the input reads as it did. -/
def haltonEachUptoRow : OpenClaim := { program := "ytndnjjeildnhdaa", sum := "7eb23385f5bbde75c76a3aa8836099e0743a0caf095ff9ca12581c86e319b509", func := "limewash/limewashlaw23.HaltonEach", spec := "haltonEach", inPlace := ["sync/atomic.LoadUint32", "(*internal/sync.Mutex).Lock", "internal/race.Disable", "sync/atomic.CompareAndSwapInt32", "internal/race.Enable", "internal/race.Acquire", "(*internal/sync.Mutex).lockSlow", "internal/sync.runtime_canSpin", "internal/sync.runtime_doSpin", "internal/sync.throw", "internal/sync.runtime_nanotime", "internal/sync.runtime_SemacquireMutex", "sync/atomic.AddInt32", "(*internal/sync.Mutex).Unlock", "internal/race.ReleaseMerge", "(*internal/sync.Mutex).unlockSlow", "internal/sync.fatal", "internal/sync.runtime_Semrelease", "sync/atomic.StoreUint32"], unfollowed := true, recurses := true, apart := false, narrowed := true }
def HaltonEachUptoSaid : Prop := haltonEachUptoRow.holds Try.pinned (OpenSpec.upto haltonEachSpec)

/-- 'limewashlaw23.HaltonDisc', WHERE WHAT IT READS IS OF BULK AT MOST 1048576: true; the input reads as it did. -/
def haltonDiscUptoRow : OpenClaim := { program := "ytndnjjeildnhdaa", sum := "7eb23385f5bbde75c76a3aa8836099e0743a0caf095ff9ca12581c86e319b509", func := "limewash/limewashlaw23.HaltonDisc", spec := "haltonDisc", inPlace := ["sync/atomic.LoadUint32", "(*internal/sync.Mutex).Lock", "internal/race.Disable", "sync/atomic.CompareAndSwapInt32", "internal/race.Enable", "internal/race.Acquire", "(*internal/sync.Mutex).lockSlow", "internal/sync.runtime_canSpin", "internal/sync.runtime_doSpin", "internal/sync.throw", "internal/sync.runtime_nanotime", "internal/sync.runtime_SemacquireMutex", "sync/atomic.AddInt32", "(*internal/sync.Mutex).Unlock", "internal/race.ReleaseMerge", "(*internal/sync.Mutex).unlockSlow", "internal/sync.fatal", "internal/sync.runtime_Semrelease", "sync/atomic.StoreUint32"], unfollowed := true, recurses := true, apart := false, narrowed := true }
def HaltonDiscUptoSaid : Prop := haltonDiscUptoRow.holds Try.pinned (OpenSpec.upto haltonDiscSpec)

/-- 'limewashlaw23.HaltonInside', WHERE WHAT IT READS IS OF BULK AT MOST 1048576: true; the input reads as it did. -/
def haltonInsideUptoRow : OpenClaim := { program := "ytndnjjeildnhdaa", sum := "7eb23385f5bbde75c76a3aa8836099e0743a0caf095ff9ca12581c86e319b509", func := "limewash/limewashlaw23.HaltonInside", spec := "haltonInside", inPlace := ["sync/atomic.LoadUint32", "(*internal/sync.Mutex).Lock", "internal/race.Disable", "sync/atomic.CompareAndSwapInt32", "internal/race.Enable", "internal/race.Acquire", "(*internal/sync.Mutex).lockSlow", "internal/sync.runtime_canSpin", "internal/sync.runtime_doSpin", "internal/sync.throw", "internal/sync.runtime_nanotime", "internal/sync.runtime_SemacquireMutex", "sync/atomic.AddInt32", "(*internal/sync.Mutex).Unlock", "internal/race.ReleaseMerge", "(*internal/sync.Mutex).unlockSlow", "internal/sync.fatal", "internal/sync.runtime_Semrelease", "sync/atomic.StoreUint32"], unfollowed := true, recurses := true, apart := false, narrowed := true }
def HaltonInsideUptoSaid : Prop := haltonInsideUptoRow.holds Try.pinned (OpenSpec.upto haltonInsideSpec)

/-- 'limewashlaw23.HaltonDigit', WHERE WHAT IT READS IS OF BULK AT MOST 1048576: true; the input reads as it did. -/
def haltonDigitUptoRow : OpenClaim := { program := "ytndnjjeildnhdaa", sum := "7eb23385f5bbde75c76a3aa8836099e0743a0caf095ff9ca12581c86e319b509", func := "limewash/limewashlaw23.HaltonDigit", spec := "haltonDigit", inPlace := ["sync/atomic.LoadUint32", "(*internal/sync.Mutex).Lock", "internal/race.Disable", "sync/atomic.CompareAndSwapInt32", "internal/race.Enable", "internal/race.Acquire", "(*internal/sync.Mutex).lockSlow", "internal/sync.runtime_canSpin", "internal/sync.runtime_doSpin", "internal/sync.throw", "internal/sync.runtime_nanotime", "internal/sync.runtime_SemacquireMutex", "sync/atomic.AddInt32", "(*internal/sync.Mutex).Unlock", "internal/race.ReleaseMerge", "(*internal/sync.Mutex).unlockSlow", "internal/sync.fatal", "internal/sync.runtime_Semrelease", "sync/atomic.StoreUint32"], unfollowed := true, recurses := true, apart := false, narrowed := true }
def HaltonDigitUptoSaid : Prop := haltonDigitUptoRow.holds Try.pinned (OpenSpec.upto haltonDigitSpec)

end Rows
end Go.Proofs.Ytndnjjeildnhdaa
