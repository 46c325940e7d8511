/-
  No cell of these rows narrows 'for every input' (looked for: loops, veiled, ifaces, maps, wideKeys, modest, calm, conditions, laid).
  DERIVED. THE GIVEN ROWS OF THIS SEAT. 7 by the template 'for every input the law returns true; each argument reads behind the call as it read before'; 0 by the template 'total and deterministic' (their statements: YtniibeofggdfoaaTotals.lean).
  GIVEN WITH THE SEED: the statements are not yours to turn. If you find one false, say at which input.
  Laid BY PROGRAM, IN A SANDBOX (cutbox-rows.mjs): the forced cells as the released guide's own fill.sh prints them over the translation 16d2c9686d96d55e… (all of the seat's roots in one cut). By AI agents, Wed Nov 11 2026. No macro, syntax, notation, axiom, sorry.
-/
import Derived.Test.YtniibeofggdfoaaChecked
import GoSem.Claim
import GoSem.ClaimJoined
import GoSem.ClaimMapViews
import Derived.JoinedTies
import Derived.KernelRfl
namespace Go.Proofs.Ytniibeofggdfoaa
/- THE CELL 'sum', in the pinned program and in every row, IS THE sha256 OF THE DUMP (.gsa) THAT YtniibeofggdfoaaProg.lean LOADS. Nothing in Lean hashes anything: it is a label: what it is worth is what the hold of that sum in a sandbox is worth. -/
noncomputable def Try.pinned : Pinned := { name := "ytniibeofggdfoaa", sum := "16d2c9686d96d55e434a6fd0b85e3aa16f16fb1101e8ad9445fb5e917589ae2f", checked := Try.checked }
namespace Rows
def none {H : Type} : Left H := { results := [], args := [] }

/-- 'penstocklaw01.GateApart': WHATEVER THE INPUT: true; the input reads as it did. -/
def gateApartSpec : ChangeSpec := { name := "gateApart", fn := fun _ => fun
  | [d1, d2, d3] => { results := [.lit (.bool true)], args := [d1, d2, d3] }
  | _ => none }
def gateApartRow : OpenClaim := { program := "ytniibeofggdfoaa", sum := "16d2c9686d96d55e434a6fd0b85e3aa16f16fb1101e8ad9445fb5e917589ae2f", func := "penstock/penstocklaw01.GateApart", spec := "gateApart", inPlace := ["sync/atomic.StoreUint64", "sync/atomic.LoadUint64", "sync/atomic.CompareAndSwapUint64"], apart := false }
def GateApartSaid : Prop := gateApartRow.holds Try.pinned (OpenSpec.ofChange gateApartSpec)

/-- ITS FALSE NEIGHBOUR: 'it returns false'. Refute it at one input. -/
def gateApartWrong : ChangeSpec := { name := "gateApart", fn := fun _ => fun
  | [d1, d2, d3] => { results := [.lit (.bool false)], args := [d1, d2, d3] }
  | _ => none }
def GateApartWrongFalsely : Prop := gateApartRow.holds Try.pinned (OpenSpec.ofChange gateApartWrong)

/-- 'penstocklaw01.GatePlays': WHATEVER THE INPUT: true; the input reads as it did. -/
def gatePlaysSpec : ChangeSpec := { name := "gatePlays", fn := fun _ => fun
  | [d1, d2, d3] => { results := [.lit (.bool true)], args := [d1, d2, d3] }
  | _ => none }
def gatePlaysRow : OpenClaim := { program := "ytniibeofggdfoaa", sum := "16d2c9686d96d55e434a6fd0b85e3aa16f16fb1101e8ad9445fb5e917589ae2f", func := "penstock/penstocklaw01.GatePlays", spec := "gatePlays", inPlace := ["sync/atomic.StoreUint64", "sync/atomic.LoadUint64", "sync/atomic.CompareAndSwapUint64"], apart := false }
def GatePlaysSaid : Prop := gatePlaysRow.holds Try.pinned (OpenSpec.ofChange gatePlaysSpec)

/-- ITS FALSE NEIGHBOUR: 'it returns false'. Refute it at one input. -/
def gatePlaysWrong : ChangeSpec := { name := "gatePlays", fn := fun _ => fun
  | [d1, d2, d3] => { results := [.lit (.bool false)], args := [d1, d2, d3] }
  | _ => none }
def GatePlaysWrongFalsely : Prop := gatePlaysRow.holds Try.pinned (OpenSpec.ofChange gatePlaysWrong)

/-- 'penstocklaw01.GateRaised': WHATEVER THE INPUT: true; the input reads as it did. -/
def gateRaisedSpec : ChangeSpec := { name := "gateRaised", fn := fun _ => fun
  | [d1, d2, d3, d4] => { results := [.lit (.bool true)], args := [d1, d2, d3, d4] }
  | _ => none }
def gateRaisedRow : OpenClaim := { program := "ytniibeofggdfoaa", sum := "16d2c9686d96d55e434a6fd0b85e3aa16f16fb1101e8ad9445fb5e917589ae2f", func := "penstock/penstocklaw01.GateRaised", spec := "gateRaised", inPlace := ["sync/atomic.StoreUint64", "sync/atomic.LoadUint64", "sync/atomic.CompareAndSwapUint64"], apart := false }
def GateRaisedSaid : Prop := gateRaisedRow.holds Try.pinned (OpenSpec.ofChange gateRaisedSpec)

/-- ITS FALSE NEIGHBOUR: 'it returns false'. Refute it at one input. -/
def gateRaisedWrong : ChangeSpec := { name := "gateRaised", fn := fun _ => fun
  | [d1, d2, d3, d4] => { results := [.lit (.bool false)], args := [d1, d2, d3, d4] }
  | _ => none }
def GateRaisedWrongFalsely : Prop := gateRaisedRow.holds Try.pinned (OpenSpec.ofChange gateRaisedWrong)

/-- 'penstocklaw01.GateTwice': WHATEVER THE INPUT: true; the input reads as it did. -/
def gateTwiceSpec : ChangeSpec := { name := "gateTwice", fn := fun _ => fun
  | [d] => { results := [.lit (.bool true)], args := [d] }
  | _ => none }
def gateTwiceRow : OpenClaim := { program := "ytniibeofggdfoaa", sum := "16d2c9686d96d55e434a6fd0b85e3aa16f16fb1101e8ad9445fb5e917589ae2f", func := "penstock/penstocklaw01.GateTwice", spec := "gateTwice", inPlace := ["sync/atomic.StoreUint64", "sync/atomic.LoadUint64", "sync/atomic.CompareAndSwapUint64"], apart := false }
def GateTwiceSaid : Prop := gateTwiceRow.holds Try.pinned (OpenSpec.ofChange gateTwiceSpec)

/-- ITS FALSE NEIGHBOUR: 'it returns false'. Refute it at one input. -/
def gateTwiceWrong : ChangeSpec := { name := "gateTwice", fn := fun _ => fun
  | [d] => { results := [.lit (.bool false)], args := [d] }
  | _ => none }
def GateTwiceWrongFalsely : Prop := gateTwiceRow.holds Try.pinned (OpenSpec.ofChange gateTwiceWrong)

/-- 'penstocklaw01.GateMarks': WHATEVER THE INPUT: true; the input reads as it did. -/
def gateMarksSpec : ChangeSpec := { name := "gateMarks", fn := fun _ => fun
  | [d] => { results := [.lit (.bool true)], args := [d] }
  | _ => none }
def gateMarksRow : OpenClaim := { program := "ytniibeofggdfoaa", sum := "16d2c9686d96d55e434a6fd0b85e3aa16f16fb1101e8ad9445fb5e917589ae2f", func := "penstock/penstocklaw01.GateMarks", spec := "gateMarks", inPlace := ["sync/atomic.StoreUint64", "sync/atomic.LoadUint64", "sync/atomic.CompareAndSwapUint64"], apart := false }
def GateMarksSaid : Prop := gateMarksRow.holds Try.pinned (OpenSpec.ofChange gateMarksSpec)

/-- ITS FALSE NEIGHBOUR: 'it returns false'. Refute it at one input. -/
def gateMarksWrong : ChangeSpec := { name := "gateMarks", fn := fun _ => fun
  | [d] => { results := [.lit (.bool false)], args := [d] }
  | _ => none }
def GateMarksWrongFalsely : Prop := gateMarksRow.holds Try.pinned (OpenSpec.ofChange gateMarksWrong)

/-- 'penstocklaw01.GateOnce': WHATEVER THE INPUT: true; the input reads as it did. -/
def gateOnceSpec : ChangeSpec := { name := "gateOnce", fn := fun _ => fun
  | [d] => { results := [.lit (.bool true)], args := [d] }
  | _ => none }
def gateOnceRow : OpenClaim := { program := "ytniibeofggdfoaa", sum := "16d2c9686d96d55e434a6fd0b85e3aa16f16fb1101e8ad9445fb5e917589ae2f", func := "penstock/penstocklaw01.GateOnce", spec := "gateOnce", inPlace := ["sync/atomic.LoadUint32", "sync/atomic.StoreUint64", "sync/atomic.LoadUint64", "sync/atomic.CompareAndSwapUint64", "sync/atomic.StoreUint32", "(*internal/sync.Mutex).Lock", "internal/race.Disable", "sync/atomic.CompareAndSwapInt32", "internal/race.Enable", "internal/race.Acquire", "(*internal/sync.Mutex).lockSlow", "internal/sync.runtime_canSpin", "internal/sync.runtime_doSpin", "internal/sync.throw", "internal/sync.runtime_nanotime", "internal/sync.runtime_SemacquireMutex", "sync/atomic.AddInt32", "(*internal/sync.Mutex).Unlock", "internal/race.ReleaseMerge", "(*internal/sync.Mutex).unlockSlow", "internal/sync.fatal", "internal/sync.runtime_Semrelease"], unfollowed := true, recurses := true, apart := false }
def GateOnceSaid : Prop := gateOnceRow.holds Try.pinned (OpenSpec.ofChange gateOnceSpec)

/-- ITS FALSE NEIGHBOUR: 'it returns false'. Refute it at one input. -/
def gateOnceWrong : ChangeSpec := { name := "gateOnce", fn := fun _ => fun
  | [d] => { results := [.lit (.bool false)], args := [d] }
  | _ => none }
def GateOnceWrongFalsely : Prop := gateOnceRow.holds Try.pinned (OpenSpec.ofChange gateOnceWrong)

/-- 'penstocklaw01.GateNone': WHATEVER THE INPUT: true; the input reads as it did. -/
def gateNoneSpec : ChangeSpec := { name := "gateNone", fn := fun _ => fun
  | [d1, d2] => { results := [.lit (.bool true)], args := [d1, d2] }
  | _ => none }
def gateNoneRow : OpenClaim := { program := "ytniibeofggdfoaa", sum := "16d2c9686d96d55e434a6fd0b85e3aa16f16fb1101e8ad9445fb5e917589ae2f", func := "penstock/penstocklaw01.GateNone", spec := "gateNone", inPlace := ["sync/atomic.LoadUint64", "sync/atomic.CompareAndSwapUint64", "sync/atomic.LoadUint32", "sync/atomic.StoreUint64", "sync/atomic.StoreUint32", "(*internal/sync.Mutex).Lock", "internal/race.Disable", "sync/atomic.CompareAndSwapInt32", "internal/race.Enable", "internal/race.Acquire", "(*internal/sync.Mutex).lockSlow", "internal/sync.runtime_canSpin", "internal/sync.runtime_doSpin", "internal/sync.throw", "internal/sync.runtime_nanotime", "internal/sync.runtime_SemacquireMutex", "sync/atomic.AddInt32", "(*internal/sync.Mutex).Unlock", "internal/race.ReleaseMerge", "(*internal/sync.Mutex).unlockSlow", "internal/sync.fatal", "internal/sync.runtime_Semrelease"], unfollowed := true, recurses := true, apart := false }
def GateNoneSaid : Prop := gateNoneRow.holds Try.pinned (OpenSpec.ofChange gateNoneSpec)

/-- ITS FALSE NEIGHBOUR: 'it returns false'. Refute it at one input. -/
def gateNoneWrong : ChangeSpec := { name := "gateNone", fn := fun _ => fun
  | [d1, d2] => { results := [.lit (.bool false)], args := [d1, d2] }
  | _ => none }
def GateNoneWrongFalsely : Prop := gateNoneRow.holds Try.pinned (OpenSpec.ofChange gateNoneWrong)

/- THE SECOND FORM. 'bulk': how many values and letters a reading holds, each counted each time it is reached (what is shared counts as often as it is met; a slice's spare places count too). A statement '..UptoSaid' is the law's where the arguments, and the package variables that the reading takes, are together of bulk at most 1048576: NARROWER than '..Said'. Prove '..Said' where nothing that the law and all that it calls make is longer than what came in: it says more and counts as full. Else prove '..UptoSaid'. A law counts once. -/
mutual
def uptoBulk {H : Type} : DataW H → Nat
  | .lit (.string bytes) => bytes.length + 1
  | .lit _ => 1
  | .nil => 1
  | .ptr d => uptoBulk d + 1
  | .slice elems spare => uptoBulkAll elems + uptoBulkAll spare + 1
  | .agg parts => uptoBulkAll parts + 1
  | .iface _ d => uptoBulk d + 1
  | .map entries => uptoBulkEntries entries + 1
  | .held _ => 1
def uptoBulkAll {H : Type} : List (DataW H) → Nat
  | [] => 0
  | d :: r => uptoBulk d + uptoBulkAll r
def uptoBulkEntries {H : Type} : List (Lit × DataW H) → Nat
  | [] => 0
  | x :: r => uptoBulkEntry x + uptoBulkEntries r
def uptoBulkEntry {H : Type} : Lit × DataW H → Nat
  | (.string bytes, d) => bytes.length + uptoBulk d + 1
  | (_, d) => uptoBulk d + 1
 end
def uptoSmall : (H : Type) → List (DataW H) → Bool := fun _ ds => decide (uptoBulkAll ds ≤ 1048576)
def OpenSpec.upto (s : _root_.Go.ChangeSpec) : _root_.Go.OpenSpec := { _root_.Go.OpenSpec.ofChange s with cond := some uptoSmall }

/-- 'penstocklaw01.GateApart', WHERE WHAT IT READS IS OF BULK AT MOST 1048576: true; the input reads as it did. -/
def gateApartUptoRow : OpenClaim := { program := "ytniibeofggdfoaa", sum := "16d2c9686d96d55e434a6fd0b85e3aa16f16fb1101e8ad9445fb5e917589ae2f", func := "penstock/penstocklaw01.GateApart", spec := "gateApart", inPlace := ["sync/atomic.StoreUint64", "sync/atomic.LoadUint64", "sync/atomic.CompareAndSwapUint64"], apart := false, narrowed := true }
def GateApartUptoSaid : Prop := gateApartUptoRow.holds Try.pinned (OpenSpec.upto gateApartSpec)

/-- 'penstocklaw01.GatePlays', WHERE WHAT IT READS IS OF BULK AT MOST 1048576: true; the input reads as it did. -/
def gatePlaysUptoRow : OpenClaim := { program := "ytniibeofggdfoaa", sum := "16d2c9686d96d55e434a6fd0b85e3aa16f16fb1101e8ad9445fb5e917589ae2f", func := "penstock/penstocklaw01.GatePlays", spec := "gatePlays", inPlace := ["sync/atomic.StoreUint64", "sync/atomic.LoadUint64", "sync/atomic.CompareAndSwapUint64"], apart := false, narrowed := true }
def GatePlaysUptoSaid : Prop := gatePlaysUptoRow.holds Try.pinned (OpenSpec.upto gatePlaysSpec)

/-- 'penstocklaw01.GateRaised', WHERE WHAT IT READS IS OF BULK AT MOST 1048576: true; the input reads as it did. -/
def gateRaisedUptoRow : OpenClaim := { program := "ytniibeofggdfoaa", sum := "16d2c9686d96d55e434a6fd0b85e3aa16f16fb1101e8ad9445fb5e917589ae2f", func := "penstock/penstocklaw01.GateRaised", spec := "gateRaised", inPlace := ["sync/atomic.StoreUint64", "sync/atomic.LoadUint64", "sync/atomic.CompareAndSwapUint64"], apart := false, narrowed := true }
def GateRaisedUptoSaid : Prop := gateRaisedUptoRow.holds Try.pinned (OpenSpec.upto gateRaisedSpec)

/-- 'penstocklaw01.GateTwice', WHERE WHAT IT READS IS OF BULK AT MOST 1048576: true; the input reads as it did. -/
def gateTwiceUptoRow : OpenClaim := { program := "ytniibeofggdfoaa", sum := "16d2c9686d96d55e434a6fd0b85e3aa16f16fb1101e8ad9445fb5e917589ae2f", func := "penstock/penstocklaw01.GateTwice", spec := "gateTwice", inPlace := ["sync/atomic.StoreUint64", "sync/atomic.LoadUint64", "sync/atomic.CompareAndSwapUint64"], apart := false, narrowed := true }
def GateTwiceUptoSaid : Prop := gateTwiceUptoRow.holds Try.pinned (OpenSpec.upto gateTwiceSpec)

/-- 'penstocklaw01.GateMarks', WHERE WHAT IT READS IS OF BULK AT MOST 1048576: true; the input reads as it did. -/
def gateMarksUptoRow : OpenClaim := { program := "ytniibeofggdfoaa", sum := "16d2c9686d96d55e434a6fd0b85e3aa16f16fb1101e8ad9445fb5e917589ae2f", func := "penstock/penstocklaw01.GateMarks", spec := "gateMarks", inPlace := ["sync/atomic.StoreUint64", "sync/atomic.LoadUint64", "sync/atomic.CompareAndSwapUint64"], apart := false, narrowed := true }
def GateMarksUptoSaid : Prop := gateMarksUptoRow.holds Try.pinned (OpenSpec.upto gateMarksSpec)

/-- 'penstocklaw01.GateOnce', WHERE WHAT IT READS IS OF BULK AT MOST 1048576: true; the input reads as it did. -/
def gateOnceUptoRow : OpenClaim := { program := "ytniibeofggdfoaa", sum := "16d2c9686d96d55e434a6fd0b85e3aa16f16fb1101e8ad9445fb5e917589ae2f", func := "penstock/penstocklaw01.GateOnce", spec := "gateOnce", inPlace := ["sync/atomic.LoadUint32", "sync/atomic.StoreUint64", "sync/atomic.LoadUint64", "sync/atomic.CompareAndSwapUint64", "sync/atomic.StoreUint32", "(*internal/sync.Mutex).Lock", "internal/race.Disable", "sync/atomic.CompareAndSwapInt32", "internal/race.Enable", "internal/race.Acquire", "(*internal/sync.Mutex).lockSlow", "internal/sync.runtime_canSpin", "internal/sync.runtime_doSpin", "internal/sync.throw", "internal/sync.runtime_nanotime", "internal/sync.runtime_SemacquireMutex", "sync/atomic.AddInt32", "(*internal/sync.Mutex).Unlock", "internal/race.ReleaseMerge", "(*internal/sync.Mutex).unlockSlow", "internal/sync.fatal", "internal/sync.runtime_Semrelease"], unfollowed := true, recurses := true, apart := false, narrowed := true }
def GateOnceUptoSaid : Prop := gateOnceUptoRow.holds Try.pinned (OpenSpec.upto gateOnceSpec)

/-- 'penstocklaw01.GateNone', WHERE WHAT IT READS IS OF BULK AT MOST 1048576: true; the input reads as it did. -/
def gateNoneUptoRow : OpenClaim := { program := "ytniibeofggdfoaa", sum := "16d2c9686d96d55e434a6fd0b85e3aa16f16fb1101e8ad9445fb5e917589ae2f", func := "penstock/penstocklaw01.GateNone", spec := "gateNone", inPlace := ["sync/atomic.LoadUint64", "sync/atomic.CompareAndSwapUint64", "sync/atomic.LoadUint32", "sync/atomic.StoreUint64", "sync/atomic.StoreUint32", "(*internal/sync.Mutex).Lock", "internal/race.Disable", "sync/atomic.CompareAndSwapInt32", "internal/race.Enable", "internal/race.Acquire", "(*internal/sync.Mutex).lockSlow", "internal/sync.runtime_canSpin", "internal/sync.runtime_doSpin", "internal/sync.throw", "internal/sync.runtime_nanotime", "internal/sync.runtime_SemacquireMutex", "sync/atomic.AddInt32", "(*internal/sync.Mutex).Unlock", "internal/race.ReleaseMerge", "(*internal/sync.Mutex).unlockSlow", "internal/sync.fatal", "internal/sync.runtime_Semrelease"], unfollowed := true, recurses := true, apart := false, narrowed := true }
def GateNoneUptoSaid : Prop := gateNoneUptoRow.holds Try.pinned (OpenSpec.upto gateNoneSpec)

end Rows
end Go.Proofs.Ytniibeofggdfoaa
