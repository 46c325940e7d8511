/-
  No cell of these rows narrows 'for every input' (looked for: loops, veiled, ifaces, maps, wideKeys, modest, calm, conditions, laid).
  DERIVED. THE GIVEN ROWS OF THIS SEAT. 6 by the template 'for every input the law returns true; each argument reads behind the call as it read before'; 0 by the template 'total and deterministic' (their statements: YtcakijeoeankfaaTotals.lean).
  GIVEN WITH THE SEED: the statements are not yours to turn. If you find one false, say at which input.
  Laid BY PROGRAM, IN A SANDBOX (cutbox-rows.mjs): the forced cells as the released guide's own fill.sh prints them over the translation 23bdfbed7c075b6f… (all of the seat's roots in one cut). By AI agents, Wed Nov 11 2026. No macro, syntax, notation, axiom, sorry.
-/
import Derived.Test.YtcakijeoeankfaaChecked
import GoSem.Claim
import GoSem.ClaimJoined
import GoSem.ClaimMapViews
import Derived.JoinedTies
import Derived.KernelRfl
namespace Go.Proofs.Ytcakijeoeankfaa
/- THE CELL 'sum', in the pinned program and in every row, IS THE sha256 OF THE DUMP (.gsa) THAT YtcakijeoeankfaaProg.lean LOADS. Nothing in Lean hashes anything: it is a label: what it is worth is what the hold of that sum in a sandbox is worth. -/
noncomputable def Try.pinned : Pinned := { name := "ytcakijeoeankfaa", sum := "23bdfbed7c075b6f6e6700a4f0a0c3643ad865b9382234117c3b8ad56713f828", checked := Try.checked }
namespace Rows
def none {H : Type} : Left H := { results := [], args := [] }

/-- 'penstocklaw16.GroupOwners': WHATEVER THE INPUT: true; the input reads as it did. -/
def groupOwnersSpec : ChangeSpec := { name := "groupOwners", fn := fun _ => fun
  | [d1, d2] => { results := [.lit (.bool true)], args := [d1, d2] }
  | _ => none }
def groupOwnersRow : OpenClaim := { program := "ytcakijeoeankfaa", sum := "23bdfbed7c075b6f6e6700a4f0a0c3643ad865b9382234117c3b8ad56713f828", func := "penstock/penstocklaw16.GroupOwners", spec := "groupOwners", unfollowed := true, recurses := true, apart := false }
def GroupOwnersSaid : Prop := groupOwnersRow.holds Try.pinned (OpenSpec.ofChange groupOwnersSpec)

/-- ITS FALSE NEIGHBOUR: 'it returns false'. Refute it at one input. -/
def groupOwnersWrong : ChangeSpec := { name := "groupOwners", fn := fun _ => fun
  | [d1, d2] => { results := [.lit (.bool false)], args := [d1, d2] }
  | _ => none }
def GroupOwnersWrongFalsely : Prop := groupOwnersRow.holds Try.pinned (OpenSpec.ofChange groupOwnersWrong)

/-- 'penstocklaw16.GroupRecords': WHATEVER THE INPUT: true; the input reads as it did. -/
def groupRecordsSpec : ChangeSpec := { name := "groupRecords", fn := fun _ => fun
  | [d1, d2] => { results := [.lit (.bool true)], args := [d1, d2] }
  | _ => none }
def groupRecordsRow : OpenClaim := { program := "ytcakijeoeankfaa", sum := "23bdfbed7c075b6f6e6700a4f0a0c3643ad865b9382234117c3b8ad56713f828", func := "penstock/penstocklaw16.GroupRecords", spec := "groupRecords", unfollowed := true, recurses := true, apart := false }
def GroupRecordsSaid : Prop := groupRecordsRow.holds Try.pinned (OpenSpec.ofChange groupRecordsSpec)

/-- ITS FALSE NEIGHBOUR: 'it returns false'. Refute it at one input. -/
def groupRecordsWrong : ChangeSpec := { name := "groupRecords", fn := fun _ => fun
  | [d1, d2] => { results := [.lit (.bool false)], args := [d1, d2] }
  | _ => none }
def GroupRecordsWrongFalsely : Prop := groupRecordsRow.holds Try.pinned (OpenSpec.ofChange groupRecordsWrong)

/-- 'penstocklaw16.GroupWaits': WHATEVER THE INPUT: true; the input reads as it did. -/
def groupWaitsSpec : ChangeSpec := { name := "groupWaits", fn := fun _ => fun
  | [d1, d2, d3] => { results := [.lit (.bool true)], args := [d1, d2, d3] }
  | _ => none }
def groupWaitsRow : OpenClaim := { program := "ytcakijeoeankfaa", sum := "23bdfbed7c075b6f6e6700a4f0a0c3643ad865b9382234117c3b8ad56713f828", func := "penstock/penstocklaw16.GroupWaits", spec := "groupWaits", unfollowed := true, recurses := true, apart := false }
def GroupWaitsSaid : Prop := groupWaitsRow.holds Try.pinned (OpenSpec.ofChange groupWaitsSpec)

/-- ITS FALSE NEIGHBOUR: 'it returns false'. Refute it at one input. -/
def groupWaitsWrong : ChangeSpec := { name := "groupWaits", fn := fun _ => fun
  | [d1, d2, d3] => { results := [.lit (.bool false)], args := [d1, d2, d3] }
  | _ => none }
def GroupWaitsWrongFalsely : Prop := groupWaitsRow.holds Try.pinned (OpenSpec.ofChange groupWaitsWrong)

/-- 'penstocklaw16.GroupApart': WHATEVER THE INPUT: true; the input reads as it did. -/
def groupApartSpec : ChangeSpec := { name := "groupApart", fn := fun _ => fun
  | [d1, d2] => { results := [.lit (.bool true)], args := [d1, d2] }
  | _ => none }
def groupApartRow : OpenClaim := { program := "ytcakijeoeankfaa", sum := "23bdfbed7c075b6f6e6700a4f0a0c3643ad865b9382234117c3b8ad56713f828", func := "penstock/penstocklaw16.GroupApart", spec := "groupApart", unfollowed := true, recurses := true, apart := false }
def GroupApartSaid : Prop := groupApartRow.holds Try.pinned (OpenSpec.ofChange groupApartSpec)

/-- ITS FALSE NEIGHBOUR: 'it returns false'. Refute it at one input. -/
def groupApartWrong : ChangeSpec := { name := "groupApart", fn := fun _ => fun
  | [d1, d2] => { results := [.lit (.bool false)], args := [d1, d2] }
  | _ => none }
def GroupApartWrongFalsely : Prop := groupApartRow.holds Try.pinned (OpenSpec.ofChange groupApartWrong)

/-- 'penstocklaw16.GroupGoes': WHATEVER THE INPUT: true; the input reads as it did. -/
def groupGoesSpec : ChangeSpec := { name := "groupGoes", fn := fun _ => fun
  | [d] => { results := [.lit (.bool true)], args := [d] }
  | _ => none }
def groupGoesRow : OpenClaim := { program := "ytcakijeoeankfaa", sum := "23bdfbed7c075b6f6e6700a4f0a0c3643ad865b9382234117c3b8ad56713f828", func := "penstock/penstocklaw16.GroupGoes", spec := "groupGoes", unfollowed := true, recurses := true, apart := false }
def GroupGoesSaid : Prop := groupGoesRow.holds Try.pinned (OpenSpec.ofChange groupGoesSpec)

/-- ITS FALSE NEIGHBOUR: 'it returns false'. Refute it at one input. -/
def groupGoesWrong : ChangeSpec := { name := "groupGoes", fn := fun _ => fun
  | [d] => { results := [.lit (.bool false)], args := [d] }
  | _ => none }
def GroupGoesWrongFalsely : Prop := groupGoesRow.holds Try.pinned (OpenSpec.ofChange groupGoesWrong)

/-- 'penstocklaw16.GroupNone': WHATEVER THE INPUT: true; the input reads as it did. -/
def groupNoneSpec : ChangeSpec := { name := "groupNone", fn := fun _ => fun
  | [d] => { results := [.lit (.bool true)], args := [d] }
  | _ => none }
def groupNoneRow : OpenClaim := { program := "ytcakijeoeankfaa", sum := "23bdfbed7c075b6f6e6700a4f0a0c3643ad865b9382234117c3b8ad56713f828", func := "penstock/penstocklaw16.GroupNone", spec := "groupNone", unfollowed := true, recurses := true, apart := false }
def GroupNoneSaid : Prop := groupNoneRow.holds Try.pinned (OpenSpec.ofChange groupNoneSpec)

/-- ITS FALSE NEIGHBOUR: 'it returns false'. Refute it at one input. -/
def groupNoneWrong : ChangeSpec := { name := "groupNone", fn := fun _ => fun
  | [d] => { results := [.lit (.bool false)], args := [d] }
  | _ => none }
def GroupNoneWrongFalsely : Prop := groupNoneRow.holds Try.pinned (OpenSpec.ofChange groupNoneWrong)

/- THE SECOND FORM. 'bulk': how many values and letters a reading holds, each counted each time it is reached (what is shared counts as often as it is met; a slice's spare places count too). A statement '..UptoSaid' is the law's where the arguments, and the package variables that the reading takes, are together of bulk at most 1048576: NARROWER than '..Said'. Prove '..Said' where nothing that the law and all that it calls make is longer than what came in: it says more and counts as full. Else prove '..UptoSaid'. A law counts once. -/
mutual
def uptoBulk {H : Type} : DataW H → Nat
  | .lit (.string bytes) => bytes.length + 1
  | .lit _ => 1
  | .nil => 1
  | .ptr d => uptoBulk d + 1
  | .slice elems spare => uptoBulkAll elems + uptoBulkAll spare + 1
  | .agg parts => uptoBulkAll parts + 1
  | .iface _ d => uptoBulk d + 1
  | .map entries => uptoBulkEntries entries + 1
  | .held _ => 1
def uptoBulkAll {H : Type} : List (DataW H) → Nat
  | [] => 0
  | d :: r => uptoBulk d + uptoBulkAll r
def uptoBulkEntries {H : Type} : List (Lit × DataW H) → Nat
  | [] => 0
  | x :: r => uptoBulkEntry x + uptoBulkEntries r
def uptoBulkEntry {H : Type} : Lit × DataW H → Nat
  | (.string bytes, d) => bytes.length + uptoBulk d + 1
  | (_, d) => uptoBulk d + 1
 end
def uptoSmall : (H : Type) → List (DataW H) → Bool := fun _ ds => decide (uptoBulkAll ds ≤ 1048576)
def OpenSpec.upto (s : _root_.Go.ChangeSpec) : _root_.Go.OpenSpec := { _root_.Go.OpenSpec.ofChange s with cond := some uptoSmall }

/-- 'penstocklaw16.GroupOwners', WHERE WHAT IT READS IS OF BULK AT MOST 1048576: true; the input reads as it did. -/
def groupOwnersUptoRow : OpenClaim := { program := "ytcakijeoeankfaa", sum := "23bdfbed7c075b6f6e6700a4f0a0c3643ad865b9382234117c3b8ad56713f828", func := "penstock/penstocklaw16.GroupOwners", spec := "groupOwners", unfollowed := true, recurses := true, apart := false, narrowed := true }
def GroupOwnersUptoSaid : Prop := groupOwnersUptoRow.holds Try.pinned (OpenSpec.upto groupOwnersSpec)

/-- 'penstocklaw16.GroupRecords', WHERE WHAT IT READS IS OF BULK AT MOST 1048576: true; the input reads as it did. -/
def groupRecordsUptoRow : OpenClaim := { program := "ytcakijeoeankfaa", sum := "23bdfbed7c075b6f6e6700a4f0a0c3643ad865b9382234117c3b8ad56713f828", func := "penstock/penstocklaw16.GroupRecords", spec := "groupRecords", unfollowed := true, recurses := true, apart := false, narrowed := true }
def GroupRecordsUptoSaid : Prop := groupRecordsUptoRow.holds Try.pinned (OpenSpec.upto groupRecordsSpec)

/-- 'penstocklaw16.GroupWaits', WHERE WHAT IT READS IS OF BULK AT MOST 1048576: true; the input reads as it did. -/
def groupWaitsUptoRow : OpenClaim := { program := "ytcakijeoeankfaa", sum := "23bdfbed7c075b6f6e6700a4f0a0c3643ad865b9382234117c3b8ad56713f828", func := "penstock/penstocklaw16.GroupWaits", spec := "groupWaits", unfollowed := true, recurses := true, apart := false, narrowed := true }
def GroupWaitsUptoSaid : Prop := groupWaitsUptoRow.holds Try.pinned (OpenSpec.upto groupWaitsSpec)

/-- 'penstocklaw16.GroupApart', WHERE WHAT IT READS IS OF BULK AT MOST 1048576: true; the input reads as it did. -/
def groupApartUptoRow : OpenClaim := { program := "ytcakijeoeankfaa", sum := "23bdfbed7c075b6f6e6700a4f0a0c3643ad865b9382234117c3b8ad56713f828", func := "penstock/penstocklaw16.GroupApart", spec := "groupApart", unfollowed := true, recurses := true, apart := false, narrowed := true }
def GroupApartUptoSaid : Prop := groupApartUptoRow.holds Try.pinned (OpenSpec.upto groupApartSpec)

/-- 'penstocklaw16.GroupGoes', WHERE WHAT IT READS IS OF BULK AT MOST 1048576: true; the input reads as it did. -/
def groupGoesUptoRow : OpenClaim := { program := "ytcakijeoeankfaa", sum := "23bdfbed7c075b6f6e6700a4f0a0c3643ad865b9382234117c3b8ad56713f828", func := "penstock/penstocklaw16.GroupGoes", spec := "groupGoes", unfollowed := true, recurses := true, apart := false, narrowed := true }
def GroupGoesUptoSaid : Prop := groupGoesUptoRow.holds Try.pinned (OpenSpec.upto groupGoesSpec)

/-- 'penstocklaw16.GroupNone', WHERE WHAT IT READS IS OF BULK AT MOST 1048576: true; the input reads as it did. -/
def groupNoneUptoRow : OpenClaim := { program := "ytcakijeoeankfaa", sum := "23bdfbed7c075b6f6e6700a4f0a0c3643ad865b9382234117c3b8ad56713f828", func := "penstock/penstocklaw16.GroupNone", spec := "groupNone", unfollowed := true, recurses := true, apart := false, narrowed := true }
def GroupNoneUptoSaid : Prop := groupNoneUptoRow.holds Try.pinned (OpenSpec.upto groupNoneSpec)

end Rows
end Go.Proofs.Ytcakijeoeankfaa
