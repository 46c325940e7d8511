/-
  No cell of these rows narrows 'for every input' (looked for: loops, veiled, ifaces, maps, wideKeys, modest, calm, conditions, laid).
  DERIVED. THE GIVEN ROWS OF THIS SEAT. 7 by the template 'for every input the law returns true; each argument reads behind the call as it read before'; 0 by the template 'total and deterministic' (their statements: YtlcojbodcbjkaaaTotals.lean).
  GIVEN WITH THE SEED: the statements are not yours to turn. If you find one false, say at which input.
  Laid BY PROGRAM, IN A SANDBOX (cutbox-rows.mjs): the forced cells as the released guide's own fill.sh prints them over the translation 26dd8db5bd57faa3… (all of the seat's roots in one cut). By AI agents, Wed Nov 11 2026. No macro, syntax, notation, axiom, sorry.
-/
import Derived.Test.YtlcojbodcbjkaaaChecked
import GoSem.Claim
import GoSem.ClaimJoined
import GoSem.ClaimMapViews
import Derived.JoinedTies
import Derived.KernelRfl
namespace Go.Proofs.Ytlcojbodcbjkaaa
/- THE CELL 'sum', in the pinned program and in every row, IS THE sha256 OF THE DUMP (.gsa) THAT YtlcojbodcbjkaaaProg.lean LOADS. Nothing in Lean hashes anything: it is a label: what it is worth is what the hold of that sum in a sandbox is worth. -/
noncomputable def Try.pinned : Pinned := { name := "ytlcojbodcbjkaaa", sum := "26dd8db5bd57faa3d83f588eda9c403cf2a7b9236ab1042b2a1e37be07552311", checked := Try.checked }
namespace Rows
def none {H : Type} : Left H := { results := [], args := [] }

/-- 'penstocklaw15.TxnPlays': WHATEVER THE INPUT: true; the input reads as it did. -/
def txnPlaysSpec : ChangeSpec := { name := "txnPlays", fn := fun _ => fun
  | [d] => { results := [.lit (.bool true)], args := [d] }
  | _ => none }
def txnPlaysRow : OpenClaim := { program := "ytlcojbodcbjkaaa", sum := "26dd8db5bd57faa3d83f588eda9c403cf2a7b9236ab1042b2a1e37be07552311", func := "penstock/penstocklaw15.TxnPlays", spec := "txnPlays", recurses := true, apart := false }
def TxnPlaysSaid : Prop := txnPlaysRow.holds Try.pinned (OpenSpec.ofChange txnPlaysSpec)

/-- ITS FALSE NEIGHBOUR: 'it returns false'. Refute it at one input. -/
def txnPlaysWrong : ChangeSpec := { name := "txnPlays", fn := fun _ => fun
  | [d] => { results := [.lit (.bool false)], args := [d] }
  | _ => none }
def TxnPlaysWrongFalsely : Prop := txnPlaysRow.holds Try.pinned (OpenSpec.ofChange txnPlaysWrong)

/-- 'penstocklaw15.TxnRises': WHATEVER THE INPUT: true; the input reads as it did. -/
def txnRisesSpec : ChangeSpec := { name := "txnRises", fn := fun _ => fun
  | [d] => { results := [.lit (.bool true)], args := [d] }
  | _ => none }
def txnRisesRow : OpenClaim := { program := "ytlcojbodcbjkaaa", sum := "26dd8db5bd57faa3d83f588eda9c403cf2a7b9236ab1042b2a1e37be07552311", func := "penstock/penstocklaw15.TxnRises", spec := "txnRises", recurses := true, apart := false }
def TxnRisesSaid : Prop := txnRisesRow.holds Try.pinned (OpenSpec.ofChange txnRisesSpec)

/-- ITS FALSE NEIGHBOUR: 'it returns false'. Refute it at one input. -/
def txnRisesWrong : ChangeSpec := { name := "txnRises", fn := fun _ => fun
  | [d] => { results := [.lit (.bool false)], args := [d] }
  | _ => none }
def TxnRisesWrongFalsely : Prop := txnRisesRow.holds Try.pinned (OpenSpec.ofChange txnRisesWrong)

/-- 'penstocklaw15.TxnEnds': WHATEVER THE INPUT: true; the input reads as it did. -/
def txnEndsSpec : ChangeSpec := { name := "txnEnds", fn := fun _ => fun
  | [d1, d2] => { results := [.lit (.bool true)], args := [d1, d2] }
  | _ => none }
def txnEndsRow : OpenClaim := { program := "ytlcojbodcbjkaaa", sum := "26dd8db5bd57faa3d83f588eda9c403cf2a7b9236ab1042b2a1e37be07552311", func := "penstock/penstocklaw15.TxnEnds", spec := "txnEnds", recurses := true, apart := false }
def TxnEndsSaid : Prop := txnEndsRow.holds Try.pinned (OpenSpec.ofChange txnEndsSpec)

/-- ITS FALSE NEIGHBOUR: 'it returns false'. Refute it at one input. -/
def txnEndsWrong : ChangeSpec := { name := "txnEnds", fn := fun _ => fun
  | [d1, d2] => { results := [.lit (.bool false)], args := [d1, d2] }
  | _ => none }
def TxnEndsWrongFalsely : Prop := txnEndsRow.holds Try.pinned (OpenSpec.ofChange txnEndsWrong)

/-- 'penstocklaw15.TxnNames': WHATEVER THE INPUT: true; the input reads as it did. -/
def txnNamesSpec : ChangeSpec := { name := "txnNames", fn := fun _ => fun
  | [d] => { results := [.lit (.bool true)], args := [d] }
  | _ => none }
def txnNamesRow : OpenClaim := { program := "ytlcojbodcbjkaaa", sum := "26dd8db5bd57faa3d83f588eda9c403cf2a7b9236ab1042b2a1e37be07552311", func := "penstock/penstocklaw15.TxnNames", spec := "txnNames", unfollowed := true, recurses := true, apart := false }
def TxnNamesSaid : Prop := txnNamesRow.holds Try.pinned (OpenSpec.ofChange txnNamesSpec)

/-- ITS FALSE NEIGHBOUR: 'it returns false'. Refute it at one input. -/
def txnNamesWrong : ChangeSpec := { name := "txnNames", fn := fun _ => fun
  | [d] => { results := [.lit (.bool false)], args := [d] }
  | _ => none }
def TxnNamesWrongFalsely : Prop := txnNamesRow.holds Try.pinned (OpenSpec.ofChange txnNamesWrong)

/-- 'penstocklaw15.TxnApart': WHATEVER THE INPUT: true; the input reads as it did. -/
def txnApartSpec : ChangeSpec := { name := "txnApart", fn := fun _ => fun
  | [d1, d2] => { results := [.lit (.bool true)], args := [d1, d2] }
  | _ => none }
def txnApartRow : OpenClaim := { program := "ytlcojbodcbjkaaa", sum := "26dd8db5bd57faa3d83f588eda9c403cf2a7b9236ab1042b2a1e37be07552311", func := "penstock/penstocklaw15.TxnApart", spec := "txnApart", unfollowed := true, recurses := true, apart := false }
def TxnApartSaid : Prop := txnApartRow.holds Try.pinned (OpenSpec.ofChange txnApartSpec)

/-- ITS FALSE NEIGHBOUR: 'it returns false'. Refute it at one input. -/
def txnApartWrong : ChangeSpec := { name := "txnApart", fn := fun _ => fun
  | [d1, d2] => { results := [.lit (.bool false)], args := [d1, d2] }
  | _ => none }
def TxnApartWrongFalsely : Prop := txnApartRow.holds Try.pinned (OpenSpec.ofChange txnApartWrong)

/-- 'penstocklaw15.TxnNone': WHATEVER THE INPUT: true; the input reads as it did. -/
def txnNoneSpec : ChangeSpec := { name := "txnNone", fn := fun _ => fun
  | [d] => { results := [.lit (.bool true)], args := [d] }
  | _ => none }
def txnNoneRow : OpenClaim := { program := "ytlcojbodcbjkaaa", sum := "26dd8db5bd57faa3d83f588eda9c403cf2a7b9236ab1042b2a1e37be07552311", func := "penstock/penstocklaw15.TxnNone", spec := "txnNone", unfollowed := true, recurses := true, apart := false }
def TxnNoneSaid : Prop := txnNoneRow.holds Try.pinned (OpenSpec.ofChange txnNoneSpec)

/-- ITS FALSE NEIGHBOUR: 'it returns false'. Refute it at one input. -/
def txnNoneWrong : ChangeSpec := { name := "txnNone", fn := fun _ => fun
  | [d] => { results := [.lit (.bool false)], args := [d] }
  | _ => none }
def TxnNoneWrongFalsely : Prop := txnNoneRow.holds Try.pinned (OpenSpec.ofChange txnNoneWrong)

/-- 'penstocklaw15.TxnRecords': WHATEVER THE INPUT: true; the input reads as it did. -/
def txnRecordsSpec : ChangeSpec := { name := "txnRecords", fn := fun _ => fun
  | [d1, d2] => { results := [.lit (.bool true)], args := [d1, d2] }
  | _ => none }
def txnRecordsRow : OpenClaim := { program := "ytlcojbodcbjkaaa", sum := "26dd8db5bd57faa3d83f588eda9c403cf2a7b9236ab1042b2a1e37be07552311", func := "penstock/penstocklaw15.TxnRecords", spec := "txnRecords", recurses := true, apart := false }
def TxnRecordsSaid : Prop := txnRecordsRow.holds Try.pinned (OpenSpec.ofChange txnRecordsSpec)

/-- ITS FALSE NEIGHBOUR: 'it returns false'. Refute it at one input. -/
def txnRecordsWrong : ChangeSpec := { name := "txnRecords", fn := fun _ => fun
  | [d1, d2] => { results := [.lit (.bool false)], args := [d1, d2] }
  | _ => none }
def TxnRecordsWrongFalsely : Prop := txnRecordsRow.holds Try.pinned (OpenSpec.ofChange txnRecordsWrong)

/- THE SECOND FORM. 'bulk': how many values and letters a reading holds, each counted each time it is reached (what is shared counts as often as it is met; a slice's spare places count too). A statement '..UptoSaid' is the law's where the arguments, and the package variables that the reading takes, are together of bulk at most 1048576: NARROWER than '..Said'. Prove '..Said' where nothing that the law and all that it calls make is longer than what came in: it says more and counts as full. Else prove '..UptoSaid'. A law counts once. -/
mutual
def uptoBulk {H : Type} : DataW H → Nat
  | .lit (.string bytes) => bytes.length + 1
  | .lit _ => 1
  | .nil => 1
  | .ptr d => uptoBulk d + 1
  | .slice elems spare => uptoBulkAll elems + uptoBulkAll spare + 1
  | .agg parts => uptoBulkAll parts + 1
  | .iface _ d => uptoBulk d + 1
  | .map entries => uptoBulkEntries entries + 1
  | .held _ => 1
def uptoBulkAll {H : Type} : List (DataW H) → Nat
  | [] => 0
  | d :: r => uptoBulk d + uptoBulkAll r
def uptoBulkEntries {H : Type} : List (Lit × DataW H) → Nat
  | [] => 0
  | x :: r => uptoBulkEntry x + uptoBulkEntries r
def uptoBulkEntry {H : Type} : Lit × DataW H → Nat
  | (.string bytes, d) => bytes.length + uptoBulk d + 1
  | (_, d) => uptoBulk d + 1
 end
def uptoSmall : (H : Type) → List (DataW H) → Bool := fun _ ds => decide (uptoBulkAll ds ≤ 1048576)
def OpenSpec.upto (s : _root_.Go.ChangeSpec) : _root_.Go.OpenSpec := { _root_.Go.OpenSpec.ofChange s with cond := some uptoSmall }

/-- 'penstocklaw15.TxnPlays', WHERE WHAT IT READS IS OF BULK AT MOST 1048576: true; the input reads as it did. -/
def txnPlaysUptoRow : OpenClaim := { program := "ytlcojbodcbjkaaa", sum := "26dd8db5bd57faa3d83f588eda9c403cf2a7b9236ab1042b2a1e37be07552311", func := "penstock/penstocklaw15.TxnPlays", spec := "txnPlays", recurses := true, apart := false, narrowed := true }
def TxnPlaysUptoSaid : Prop := txnPlaysUptoRow.holds Try.pinned (OpenSpec.upto txnPlaysSpec)

/-- 'penstocklaw15.TxnRises', WHERE WHAT IT READS IS OF BULK AT MOST 1048576: true; the input reads as it did. -/
def txnRisesUptoRow : OpenClaim := { program := "ytlcojbodcbjkaaa", sum := "26dd8db5bd57faa3d83f588eda9c403cf2a7b9236ab1042b2a1e37be07552311", func := "penstock/penstocklaw15.TxnRises", spec := "txnRises", recurses := true, apart := false, narrowed := true }
def TxnRisesUptoSaid : Prop := txnRisesUptoRow.holds Try.pinned (OpenSpec.upto txnRisesSpec)

/-- 'penstocklaw15.TxnEnds', WHERE WHAT IT READS IS OF BULK AT MOST 1048576: true; the input reads as it did. -/
def txnEndsUptoRow : OpenClaim := { program := "ytlcojbodcbjkaaa", sum := "26dd8db5bd57faa3d83f588eda9c403cf2a7b9236ab1042b2a1e37be07552311", func := "penstock/penstocklaw15.TxnEnds", spec := "txnEnds", recurses := true, apart := false, narrowed := true }
def TxnEndsUptoSaid : Prop := txnEndsUptoRow.holds Try.pinned (OpenSpec.upto txnEndsSpec)

/-- 'penstocklaw15.TxnNames', WHERE WHAT IT READS IS OF BULK AT MOST 1048576: true; the input reads as it did. -/
def txnNamesUptoRow : OpenClaim := { program := "ytlcojbodcbjkaaa", sum := "26dd8db5bd57faa3d83f588eda9c403cf2a7b9236ab1042b2a1e37be07552311", func := "penstock/penstocklaw15.TxnNames", spec := "txnNames", unfollowed := true, recurses := true, apart := false, narrowed := true }
def TxnNamesUptoSaid : Prop := txnNamesUptoRow.holds Try.pinned (OpenSpec.upto txnNamesSpec)

/-- 'penstocklaw15.TxnApart', WHERE WHAT IT READS IS OF BULK AT MOST 1048576: true; the input reads as it did. -/
def txnApartUptoRow : OpenClaim := { program := "ytlcojbodcbjkaaa", sum := "26dd8db5bd57faa3d83f588eda9c403cf2a7b9236ab1042b2a1e37be07552311", func := "penstock/penstocklaw15.TxnApart", spec := "txnApart", unfollowed := true, recurses := true, apart := false, narrowed := true }
def TxnApartUptoSaid : Prop := txnApartUptoRow.holds Try.pinned (OpenSpec.upto txnApartSpec)

/-- 'penstocklaw15.TxnNone', WHERE WHAT IT READS IS OF BULK AT MOST 1048576: true; the input reads as it did. -/
def txnNoneUptoRow : OpenClaim := { program := "ytlcojbodcbjkaaa", sum := "26dd8db5bd57faa3d83f588eda9c403cf2a7b9236ab1042b2a1e37be07552311", func := "penstock/penstocklaw15.TxnNone", spec := "txnNone", unfollowed := true, recurses := true, apart := false, narrowed := true }
def TxnNoneUptoSaid : Prop := txnNoneUptoRow.holds Try.pinned (OpenSpec.upto txnNoneSpec)

/-- 'penstocklaw15.TxnRecords', WHERE WHAT IT READS IS OF BULK AT MOST 1048576: true; the input reads as it did. -/
def txnRecordsUptoRow : OpenClaim := { program := "ytlcojbodcbjkaaa", sum := "26dd8db5bd57faa3d83f588eda9c403cf2a7b9236ab1042b2a1e37be07552311", func := "penstock/penstocklaw15.TxnRecords", spec := "txnRecords", recurses := true, apart := false, narrowed := true }
def TxnRecordsUptoSaid : Prop := txnRecordsUptoRow.holds Try.pinned (OpenSpec.upto txnRecordsSpec)

end Rows
end Go.Proofs.Ytlcojbodcbjkaaa
