/-
  No cell of these rows narrows 'for every input' (looked for: loops, veiled, ifaces, maps, wideKeys, modest, calm, conditions, laid).
  DERIVED. THE GIVEN ROWS OF THIS SEAT. 8 by the template 'for every input the law returns true; each argument reads behind the call as it read before'; 0 by the template 'total and deterministic' (their statements: YtjcenfgmpbeldaaTotals.lean).
  GIVEN WITH THE SEED: the statements are not yours to turn. If you find one false, say at which input.
  Laid BY PROGRAM, IN A SANDBOX (cutbox-rows.mjs): the forced cells as the released guide's own fill.sh prints them over the translation 01eabf460f41c3cc… (all of the seat's roots in one cut). By AI agents, Wed Nov 11 2026. No macro, syntax, notation, axiom, sorry.
-/
import Derived.Test.YtjcenfgmpbeldaaChecked
import GoSem.Claim
import GoSem.ClaimJoined
import GoSem.ClaimMapViews
import Derived.JoinedTies
import Derived.KernelRfl
namespace Go.Proofs.Ytjcenfgmpbeldaa
/- THE CELL 'sum', in the pinned program and in every row, IS THE sha256 OF THE DUMP (.gsa) THAT YtjcenfgmpbeldaaProg.lean LOADS. Nothing in Lean hashes anything: it is a label: what it is worth is what the hold of that sum in a sandbox is worth. -/
noncomputable def Try.pinned : Pinned := { name := "ytjcenfgmpbeldaa", sum := "01eabf460f41c3cc41a61f2479523b3cd605a20ffd92b19a0f3252f13d3cd9fe", checked := Try.checked }
namespace Rows
def none {H : Type} : Left H := { results := [], args := [] }

/-- 'penstocklaw13.ImageLeads': WHATEVER THE INPUT: true; the input reads as it did. -/
def imageLeadsSpec : ChangeSpec := { name := "imageLeads", fn := fun _ => fun
  | [d] => { results := [.lit (.bool true)], args := [d] }
  | _ => none }
def imageLeadsRow : OpenClaim := { program := "ytjcenfgmpbeldaa", sum := "01eabf460f41c3cc41a61f2479523b3cd605a20ffd92b19a0f3252f13d3cd9fe", func := "penstock/penstocklaw13.ImageLeads", spec := "imageLeads", inPlace := ["sync/atomic.StoreUint64", "sync/atomic.LoadUint64", "sync/atomic.CompareAndSwapUint64"], unfollowed := true, recurses := true, apart := false }
def ImageLeadsSaid : Prop := imageLeadsRow.holds Try.pinned (OpenSpec.ofChange imageLeadsSpec)

/-- ITS FALSE NEIGHBOUR: 'it returns false'. Refute it at one input. -/
def imageLeadsWrong : ChangeSpec := { name := "imageLeads", fn := fun _ => fun
  | [d] => { results := [.lit (.bool false)], args := [d] }
  | _ => none }
def ImageLeadsWrongFalsely : Prop := imageLeadsRow.holds Try.pinned (OpenSpec.ofChange imageLeadsWrong)

/-- 'penstocklaw13.ImageMoves': WHATEVER THE INPUT: true; the input reads as it did. -/
def imageMovesSpec : ChangeSpec := { name := "imageMoves", fn := fun _ => fun
  | [d1, d2, d3] => { results := [.lit (.bool true)], args := [d1, d2, d3] }
  | _ => none }
def imageMovesRow : OpenClaim := { program := "ytjcenfgmpbeldaa", sum := "01eabf460f41c3cc41a61f2479523b3cd605a20ffd92b19a0f3252f13d3cd9fe", func := "penstock/penstocklaw13.ImageMoves", spec := "imageMoves", inPlace := ["sync/atomic.StoreUint64", "sync/atomic.LoadUint64", "sync/atomic.CompareAndSwapUint64"], unfollowed := true, recurses := true, apart := false }
def ImageMovesSaid : Prop := imageMovesRow.holds Try.pinned (OpenSpec.ofChange imageMovesSpec)

/-- ITS FALSE NEIGHBOUR: 'it returns false'. Refute it at one input. -/
def imageMovesWrong : ChangeSpec := { name := "imageMoves", fn := fun _ => fun
  | [d1, d2, d3] => { results := [.lit (.bool false)], args := [d1, d2, d3] }
  | _ => none }
def ImageMovesWrongFalsely : Prop := imageMovesRow.holds Try.pinned (OpenSpec.ofChange imageMovesWrong)

/-- 'penstocklaw13.ImageBlocks': WHATEVER THE INPUT: true; the input reads as it did. -/
def imageBlocksSpec : ChangeSpec := { name := "imageBlocks", fn := fun _ => fun
  | [d] => { results := [.lit (.bool true)], args := [d] }
  | _ => none }
def imageBlocksRow : OpenClaim := { program := "ytjcenfgmpbeldaa", sum := "01eabf460f41c3cc41a61f2479523b3cd605a20ffd92b19a0f3252f13d3cd9fe", func := "penstock/penstocklaw13.ImageBlocks", spec := "imageBlocks", inPlace := ["sync/atomic.StoreUint64", "sync/atomic.LoadUint64", "sync/atomic.CompareAndSwapUint64"], unfollowed := true, recurses := true, apart := false }
def ImageBlocksSaid : Prop := imageBlocksRow.holds Try.pinned (OpenSpec.ofChange imageBlocksSpec)

/-- ITS FALSE NEIGHBOUR: 'it returns false'. Refute it at one input. -/
def imageBlocksWrong : ChangeSpec := { name := "imageBlocks", fn := fun _ => fun
  | [d] => { results := [.lit (.bool false)], args := [d] }
  | _ => none }
def ImageBlocksWrongFalsely : Prop := imageBlocksRow.holds Try.pinned (OpenSpec.ofChange imageBlocksWrong)

/-- 'penstocklaw13.ImageNews': WHATEVER THE INPUT: true; the input reads as it did. -/
def imageNewsSpec : ChangeSpec := { name := "imageNews", fn := fun _ => fun
  | [d1, d2, d3] => { results := [.lit (.bool true)], args := [d1, d2, d3] }
  | _ => none }
def imageNewsRow : OpenClaim := { program := "ytjcenfgmpbeldaa", sum := "01eabf460f41c3cc41a61f2479523b3cd605a20ffd92b19a0f3252f13d3cd9fe", func := "penstock/penstocklaw13.ImageNews", spec := "imageNews", inPlace := ["sync/atomic.StoreUint64", "sync/atomic.LoadUint64", "sync/atomic.CompareAndSwapUint64"], unfollowed := true, recurses := true, apart := false }
def ImageNewsSaid : Prop := imageNewsRow.holds Try.pinned (OpenSpec.ofChange imageNewsSpec)

/-- ITS FALSE NEIGHBOUR: 'it returns false'. Refute it at one input. -/
def imageNewsWrong : ChangeSpec := { name := "imageNews", fn := fun _ => fun
  | [d1, d2, d3] => { results := [.lit (.bool false)], args := [d1, d2, d3] }
  | _ => none }
def ImageNewsWrongFalsely : Prop := imageNewsRow.holds Try.pinned (OpenSpec.ofChange imageNewsWrong)

/-- 'penstocklaw13.ImageNone': WHATEVER THE INPUT: true; the input reads as it did. -/
def imageNoneSpec : ChangeSpec := { name := "imageNone", fn := fun _ => fun
  | [d1, d2] => { results := [.lit (.bool true)], args := [d1, d2] }
  | _ => none }
def imageNoneRow : OpenClaim := { program := "ytjcenfgmpbeldaa", sum := "01eabf460f41c3cc41a61f2479523b3cd605a20ffd92b19a0f3252f13d3cd9fe", func := "penstock/penstocklaw13.ImageNone", spec := "imageNone", inPlace := ["sync/atomic.LoadUint64", "sync/atomic.StoreUint64", "sync/atomic.CompareAndSwapUint64"], unfollowed := true, recurses := true, apart := false }
def ImageNoneSaid : Prop := imageNoneRow.holds Try.pinned (OpenSpec.ofChange imageNoneSpec)

/-- ITS FALSE NEIGHBOUR: 'it returns false'. Refute it at one input. -/
def imageNoneWrong : ChangeSpec := { name := "imageNone", fn := fun _ => fun
  | [d1, d2] => { results := [.lit (.bool false)], args := [d1, d2] }
  | _ => none }
def ImageNoneWrongFalsely : Prop := imageNoneRow.holds Try.pinned (OpenSpec.ofChange imageNoneWrong)

/-- 'penstocklaw13.ImageCmds': WHATEVER THE INPUT: true; the input reads as it did. -/
def imageCmdsSpec : ChangeSpec := { name := "imageCmds", fn := fun _ => fun
  | [d1, d2] => { results := [.lit (.bool true)], args := [d1, d2] }
  | _ => none }
def imageCmdsRow : OpenClaim := { program := "ytjcenfgmpbeldaa", sum := "01eabf460f41c3cc41a61f2479523b3cd605a20ffd92b19a0f3252f13d3cd9fe", func := "penstock/penstocklaw13.ImageCmds", spec := "imageCmds", inPlace := ["sync/atomic.StoreUint64", "sync/atomic.LoadUint64", "sync/atomic.CompareAndSwapUint64"], unfollowed := true, recurses := true, apart := false }
def ImageCmdsSaid : Prop := imageCmdsRow.holds Try.pinned (OpenSpec.ofChange imageCmdsSpec)

/-- ITS FALSE NEIGHBOUR: 'it returns false'. Refute it at one input. -/
def imageCmdsWrong : ChangeSpec := { name := "imageCmds", fn := fun _ => fun
  | [d1, d2] => { results := [.lit (.bool false)], args := [d1, d2] }
  | _ => none }
def ImageCmdsWrongFalsely : Prop := imageCmdsRow.holds Try.pinned (OpenSpec.ofChange imageCmdsWrong)

/-- 'penstocklaw13.ImageReads': WHATEVER THE INPUT: true; the input reads as it did. -/
def imageReadsSpec : ChangeSpec := { name := "imageReads", fn := fun _ => fun
  | [d] => { results := [.lit (.bool true)], args := [d] }
  | _ => none }
def imageReadsRow : OpenClaim := { program := "ytjcenfgmpbeldaa", sum := "01eabf460f41c3cc41a61f2479523b3cd605a20ffd92b19a0f3252f13d3cd9fe", func := "penstock/penstocklaw13.ImageReads", spec := "imageReads", inPlace := ["sync/atomic.StoreUint64", "sync/atomic.LoadUint64", "sync/atomic.CompareAndSwapUint64"], unfollowed := true, recurses := true, apart := false }
def ImageReadsSaid : Prop := imageReadsRow.holds Try.pinned (OpenSpec.ofChange imageReadsSpec)

/-- ITS FALSE NEIGHBOUR: 'it returns false'. Refute it at one input. -/
def imageReadsWrong : ChangeSpec := { name := "imageReads", fn := fun _ => fun
  | [d] => { results := [.lit (.bool false)], args := [d] }
  | _ => none }
def ImageReadsWrongFalsely : Prop := imageReadsRow.holds Try.pinned (OpenSpec.ofChange imageReadsWrong)

/-- 'penstocklaw13.ImageBack': WHATEVER THE INPUT: true; the input reads as it did. -/
def imageBackSpec : ChangeSpec := { name := "imageBack", fn := fun _ => fun
  | [d1, d2] => { results := [.lit (.bool true)], args := [d1, d2] }
  | _ => none }
def imageBackRow : OpenClaim := { program := "ytjcenfgmpbeldaa", sum := "01eabf460f41c3cc41a61f2479523b3cd605a20ffd92b19a0f3252f13d3cd9fe", func := "penstock/penstocklaw13.ImageBack", spec := "imageBack", inPlace := ["sync/atomic.StoreUint64", "sync/atomic.LoadUint64", "sync/atomic.CompareAndSwapUint64"], unfollowed := true, recurses := true, apart := false }
def ImageBackSaid : Prop := imageBackRow.holds Try.pinned (OpenSpec.ofChange imageBackSpec)

/-- ITS FALSE NEIGHBOUR: 'it returns false'. Refute it at one input. -/
def imageBackWrong : ChangeSpec := { name := "imageBack", fn := fun _ => fun
  | [d1, d2] => { results := [.lit (.bool false)], args := [d1, d2] }
  | _ => none }
def ImageBackWrongFalsely : Prop := imageBackRow.holds Try.pinned (OpenSpec.ofChange imageBackWrong)

/- THE SECOND FORM. 'bulk': how many values and letters a reading holds, each counted each time it is reached (what is shared counts as often as it is met; a slice's spare places count too). A statement '..UptoSaid' is the law's where the arguments, and the package variables that the reading takes, are together of bulk at most 1048576: NARROWER than '..Said'. Prove '..Said' where nothing that the law and all that it calls make is longer than what came in: it says more and counts as full. Else prove '..UptoSaid'. A law counts once. -/
mutual
def uptoBulk {H : Type} : DataW H → Nat
  | .lit (.string bytes) => bytes.length + 1
  | .lit _ => 1
  | .nil => 1
  | .ptr d => uptoBulk d + 1
  | .slice elems spare => uptoBulkAll elems + uptoBulkAll spare + 1
  | .agg parts => uptoBulkAll parts + 1
  | .iface _ d => uptoBulk d + 1
  | .map entries => uptoBulkEntries entries + 1
  | .held _ => 1
def uptoBulkAll {H : Type} : List (DataW H) → Nat
  | [] => 0
  | d :: r => uptoBulk d + uptoBulkAll r
def uptoBulkEntries {H : Type} : List (Lit × DataW H) → Nat
  | [] => 0
  | x :: r => uptoBulkEntry x + uptoBulkEntries r
def uptoBulkEntry {H : Type} : Lit × DataW H → Nat
  | (.string bytes, d) => bytes.length + uptoBulk d + 1
  | (_, d) => uptoBulk d + 1
 end
def uptoSmall : (H : Type) → List (DataW H) → Bool := fun _ ds => decide (uptoBulkAll ds ≤ 1048576)
def OpenSpec.upto (s : _root_.Go.ChangeSpec) : _root_.Go.OpenSpec := { _root_.Go.OpenSpec.ofChange s with cond := some uptoSmall }

/-- 'penstocklaw13.ImageLeads', WHERE WHAT IT READS IS OF BULK AT MOST 1048576: true; the input reads as it did. -/
def imageLeadsUptoRow : OpenClaim := { program := "ytjcenfgmpbeldaa", sum := "01eabf460f41c3cc41a61f2479523b3cd605a20ffd92b19a0f3252f13d3cd9fe", func := "penstock/penstocklaw13.ImageLeads", spec := "imageLeads", inPlace := ["sync/atomic.StoreUint64", "sync/atomic.LoadUint64", "sync/atomic.CompareAndSwapUint64"], unfollowed := true, recurses := true, apart := false, narrowed := true }
def ImageLeadsUptoSaid : Prop := imageLeadsUptoRow.holds Try.pinned (OpenSpec.upto imageLeadsSpec)

/-- 'penstocklaw13.ImageMoves', WHERE WHAT IT READS IS OF BULK AT MOST 1048576: true; the input reads as it did. -/
def imageMovesUptoRow : OpenClaim := { program := "ytjcenfgmpbeldaa", sum := "01eabf460f41c3cc41a61f2479523b3cd605a20ffd92b19a0f3252f13d3cd9fe", func := "penstock/penstocklaw13.ImageMoves", spec := "imageMoves", inPlace := ["sync/atomic.StoreUint64", "sync/atomic.LoadUint64", "sync/atomic.CompareAndSwapUint64"], unfollowed := true, recurses := true, apart := false, narrowed := true }
def ImageMovesUptoSaid : Prop := imageMovesUptoRow.holds Try.pinned (OpenSpec.upto imageMovesSpec)

/-- 'penstocklaw13.ImageBlocks', WHERE WHAT IT READS IS OF BULK AT MOST 1048576: true; the input reads as it did. -/
def imageBlocksUptoRow : OpenClaim := { program := "ytjcenfgmpbeldaa", sum := "01eabf460f41c3cc41a61f2479523b3cd605a20ffd92b19a0f3252f13d3cd9fe", func := "penstock/penstocklaw13.ImageBlocks", spec := "imageBlocks", inPlace := ["sync/atomic.StoreUint64", "sync/atomic.LoadUint64", "sync/atomic.CompareAndSwapUint64"], unfollowed := true, recurses := true, apart := false, narrowed := true }
def ImageBlocksUptoSaid : Prop := imageBlocksUptoRow.holds Try.pinned (OpenSpec.upto imageBlocksSpec)

/-- 'penstocklaw13.ImageNews', WHERE WHAT IT READS IS OF BULK AT MOST 1048576: true; the input reads as it did. -/
def imageNewsUptoRow : OpenClaim := { program := "ytjcenfgmpbeldaa", sum := "01eabf460f41c3cc41a61f2479523b3cd605a20ffd92b19a0f3252f13d3cd9fe", func := "penstock/penstocklaw13.ImageNews", spec := "imageNews", inPlace := ["sync/atomic.StoreUint64", "sync/atomic.LoadUint64", "sync/atomic.CompareAndSwapUint64"], unfollowed := true, recurses := true, apart := false, narrowed := true }
def ImageNewsUptoSaid : Prop := imageNewsUptoRow.holds Try.pinned (OpenSpec.upto imageNewsSpec)

/-- 'penstocklaw13.ImageNone', WHERE WHAT IT READS IS OF BULK AT MOST 1048576: true; the input reads as it did. -/
def imageNoneUptoRow : OpenClaim := { program := "ytjcenfgmpbeldaa", sum := "01eabf460f41c3cc41a61f2479523b3cd605a20ffd92b19a0f3252f13d3cd9fe", func := "penstock/penstocklaw13.ImageNone", spec := "imageNone", inPlace := ["sync/atomic.LoadUint64", "sync/atomic.StoreUint64", "sync/atomic.CompareAndSwapUint64"], unfollowed := true, recurses := true, apart := false, narrowed := true }
def ImageNoneUptoSaid : Prop := imageNoneUptoRow.holds Try.pinned (OpenSpec.upto imageNoneSpec)

/-- 'penstocklaw13.ImageCmds', WHERE WHAT IT READS IS OF BULK AT MOST 1048576: true; the input reads as it did. -/
def imageCmdsUptoRow : OpenClaim := { program := "ytjcenfgmpbeldaa", sum := "01eabf460f41c3cc41a61f2479523b3cd605a20ffd92b19a0f3252f13d3cd9fe", func := "penstock/penstocklaw13.ImageCmds", spec := "imageCmds", inPlace := ["sync/atomic.StoreUint64", "sync/atomic.LoadUint64", "sync/atomic.CompareAndSwapUint64"], unfollowed := true, recurses := true, apart := false, narrowed := true }
def ImageCmdsUptoSaid : Prop := imageCmdsUptoRow.holds Try.pinned (OpenSpec.upto imageCmdsSpec)

/-- 'penstocklaw13.ImageReads', WHERE WHAT IT READS IS OF BULK AT MOST 1048576: true; the input reads as it did. -/
def imageReadsUptoRow : OpenClaim := { program := "ytjcenfgmpbeldaa", sum := "01eabf460f41c3cc41a61f2479523b3cd605a20ffd92b19a0f3252f13d3cd9fe", func := "penstock/penstocklaw13.ImageReads", spec := "imageReads", inPlace := ["sync/atomic.StoreUint64", "sync/atomic.LoadUint64", "sync/atomic.CompareAndSwapUint64"], unfollowed := true, recurses := true, apart := false, narrowed := true }
def ImageReadsUptoSaid : Prop := imageReadsUptoRow.holds Try.pinned (OpenSpec.upto imageReadsSpec)

/-- 'penstocklaw13.ImageBack', WHERE WHAT IT READS IS OF BULK AT MOST 1048576: true; the input reads as it did. -/
def imageBackUptoRow : OpenClaim := { program := "ytjcenfgmpbeldaa", sum := "01eabf460f41c3cc41a61f2479523b3cd605a20ffd92b19a0f3252f13d3cd9fe", func := "penstock/penstocklaw13.ImageBack", spec := "imageBack", inPlace := ["sync/atomic.StoreUint64", "sync/atomic.LoadUint64", "sync/atomic.CompareAndSwapUint64"], unfollowed := true, recurses := true, apart := false, narrowed := true }
def ImageBackUptoSaid : Prop := imageBackUptoRow.holds Try.pinned (OpenSpec.upto imageBackSpec)

end Rows
end Go.Proofs.Ytjcenfgmpbeldaa
