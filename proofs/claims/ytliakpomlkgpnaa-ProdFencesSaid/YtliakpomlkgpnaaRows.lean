/-
  No cell of these rows narrows 'for every input' (looked for: loops, veiled, ifaces, maps, wideKeys, modest, calm, conditions, laid).
  DERIVED. THE GIVEN ROWS OF THIS SEAT. 5 by the template 'for every input the law returns true; each argument reads behind the call as it read before'; 0 by the template 'total and deterministic' (their statements: YtliakpomlkgpnaaTotals.lean).
  GIVEN WITH THE SEED: the statements are not yours to turn. If you find one false, say at which input.
  Laid BY PROGRAM, IN A SANDBOX (cutbox-rows.mjs): the forced cells as the released guide's own fill.sh prints them over the translation 3348d336d2571e90… (all of the seat's roots in one cut). By AI agents, Wed Nov 11 2026. No macro, syntax, notation, axiom, sorry.
-/
import Derived.Test.YtliakpomlkgpnaaChecked
import GoSem.Claim
import GoSem.ClaimJoined
import GoSem.ClaimMapViews
import Derived.JoinedTies
import Derived.KernelRfl
namespace Go.Proofs.Ytliakpomlkgpnaa
/- THE CELL 'sum', in the pinned program and in every row, IS THE sha256 OF THE DUMP (.gsa) THAT YtliakpomlkgpnaaProg.lean LOADS. Nothing in Lean hashes anything: it is a label: what it is worth is what the hold of that sum in a sandbox is worth. -/
noncomputable def Try.pinned : Pinned := { name := "ytliakpomlkgpnaa", sum := "3348d336d2571e90eae93c5ca62724ead0ba90e7fe3efb8a4bd1fa97c66d09cb", checked := Try.checked }
namespace Rows
def none {H : Type} : Left H := { results := [], args := [] }

/-- 'penstocklaw09.ProdOnce': WHATEVER THE INPUT: true; the input reads as it did. -/
def prodOnceSpec : ChangeSpec := { name := "prodOnce", fn := fun _ => fun
  | [d] => { results := [.lit (.bool true)], args := [d] }
  | _ => none }
def prodOnceRow : OpenClaim := { program := "ytliakpomlkgpnaa", sum := "3348d336d2571e90eae93c5ca62724ead0ba90e7fe3efb8a4bd1fa97c66d09cb", func := "penstock/penstocklaw09.ProdOnce", spec := "prodOnce", apart := false }
def ProdOnceSaid : Prop := prodOnceRow.holds Try.pinned (OpenSpec.ofChange prodOnceSpec)

/-- ITS FALSE NEIGHBOUR: 'it returns false'. Refute it at one input. -/
def prodOnceWrong : ChangeSpec := { name := "prodOnce", fn := fun _ => fun
  | [d] => { results := [.lit (.bool false)], args := [d] }
  | _ => none }
def ProdOnceWrongFalsely : Prop := prodOnceRow.holds Try.pinned (OpenSpec.ofChange prodOnceWrong)

/-- 'penstocklaw09.ProdAgain': WHATEVER THE INPUT: true; the input reads as it did. -/
def prodAgainSpec : ChangeSpec := { name := "prodAgain", fn := fun _ => fun
  | [d] => { results := [.lit (.bool true)], args := [d] }
  | _ => none }
def prodAgainRow : OpenClaim := { program := "ytliakpomlkgpnaa", sum := "3348d336d2571e90eae93c5ca62724ead0ba90e7fe3efb8a4bd1fa97c66d09cb", func := "penstock/penstocklaw09.ProdAgain", spec := "prodAgain", apart := false }
def ProdAgainSaid : Prop := prodAgainRow.holds Try.pinned (OpenSpec.ofChange prodAgainSpec)

/-- ITS FALSE NEIGHBOUR: 'it returns false'. Refute it at one input. -/
def prodAgainWrong : ChangeSpec := { name := "prodAgain", fn := fun _ => fun
  | [d] => { results := [.lit (.bool false)], args := [d] }
  | _ => none }
def ProdAgainWrongFalsely : Prop := prodAgainRow.holds Try.pinned (OpenSpec.ofChange prodAgainWrong)

/-- 'penstocklaw09.ProdFences': WHATEVER THE INPUT: true; the input reads as it did. -/
def prodFencesSpec : ChangeSpec := { name := "prodFences", fn := fun _ => fun
  | [d1, d2] => { results := [.lit (.bool true)], args := [d1, d2] }
  | _ => none }
def prodFencesRow : OpenClaim := { program := "ytliakpomlkgpnaa", sum := "3348d336d2571e90eae93c5ca62724ead0ba90e7fe3efb8a4bd1fa97c66d09cb", func := "penstock/penstocklaw09.ProdFences", spec := "prodFences", apart := false }
def ProdFencesSaid : Prop := prodFencesRow.holds Try.pinned (OpenSpec.ofChange prodFencesSpec)

/-- ITS FALSE NEIGHBOUR: 'it returns false'. Refute it at one input. -/
def prodFencesWrong : ChangeSpec := { name := "prodFences", fn := fun _ => fun
  | [d1, d2] => { results := [.lit (.bool false)], args := [d1, d2] }
  | _ => none }
def ProdFencesWrongFalsely : Prop := prodFencesRow.holds Try.pinned (OpenSpec.ofChange prodFencesWrong)

/-- 'penstocklaw09.ProdOpens': WHATEVER THE INPUT: true; the input reads as it did. -/
def prodOpensSpec : ChangeSpec := { name := "prodOpens", fn := fun _ => fun
  | [d] => { results := [.lit (.bool true)], args := [d] }
  | _ => none }
def prodOpensRow : OpenClaim := { program := "ytliakpomlkgpnaa", sum := "3348d336d2571e90eae93c5ca62724ead0ba90e7fe3efb8a4bd1fa97c66d09cb", func := "penstock/penstocklaw09.ProdOpens", spec := "prodOpens", apart := false }
def ProdOpensSaid : Prop := prodOpensRow.holds Try.pinned (OpenSpec.ofChange prodOpensSpec)

/-- ITS FALSE NEIGHBOUR: 'it returns false'. Refute it at one input. -/
def prodOpensWrong : ChangeSpec := { name := "prodOpens", fn := fun _ => fun
  | [d] => { results := [.lit (.bool false)], args := [d] }
  | _ => none }
def ProdOpensWrongFalsely : Prop := prodOpensRow.holds Try.pinned (OpenSpec.ofChange prodOpensWrong)

/-- 'penstocklaw09.ProdNone': WHATEVER THE INPUT: true; the input reads as it did. -/
def prodNoneSpec : ChangeSpec := { name := "prodNone", fn := fun _ => fun
  | [d1, d2] => { results := [.lit (.bool true)], args := [d1, d2] }
  | _ => none }
def prodNoneRow : OpenClaim := { program := "ytliakpomlkgpnaa", sum := "3348d336d2571e90eae93c5ca62724ead0ba90e7fe3efb8a4bd1fa97c66d09cb", func := "penstock/penstocklaw09.ProdNone", spec := "prodNone", unfollowed := true, recurses := true, apart := false }
def ProdNoneSaid : Prop := prodNoneRow.holds Try.pinned (OpenSpec.ofChange prodNoneSpec)

/-- ITS FALSE NEIGHBOUR: 'it returns false'. Refute it at one input. -/
def prodNoneWrong : ChangeSpec := { name := "prodNone", fn := fun _ => fun
  | [d1, d2] => { results := [.lit (.bool false)], args := [d1, d2] }
  | _ => none }
def ProdNoneWrongFalsely : Prop := prodNoneRow.holds Try.pinned (OpenSpec.ofChange prodNoneWrong)

/- THE SECOND FORM. 'bulk': how many values and letters a reading holds, each counted each time it is reached (what is shared counts as often as it is met; a slice's spare places count too). A statement '..UptoSaid' is the law's where the arguments, and the package variables that the reading takes, are together of bulk at most 1048576: NARROWER than '..Said'. Prove '..Said' where nothing that the law and all that it calls make is longer than what came in: it says more and counts as full. Else prove '..UptoSaid'. A law counts once. -/
mutual
def uptoBulk {H : Type} : DataW H → Nat
  | .lit (.string bytes) => bytes.length + 1
  | .lit _ => 1
  | .nil => 1
  | .ptr d => uptoBulk d + 1
  | .slice elems spare => uptoBulkAll elems + uptoBulkAll spare + 1
  | .agg parts => uptoBulkAll parts + 1
  | .iface _ d => uptoBulk d + 1
  | .map entries => uptoBulkEntries entries + 1
  | .held _ => 1
def uptoBulkAll {H : Type} : List (DataW H) → Nat
  | [] => 0
  | d :: r => uptoBulk d + uptoBulkAll r
def uptoBulkEntries {H : Type} : List (Lit × DataW H) → Nat
  | [] => 0
  | x :: r => uptoBulkEntry x + uptoBulkEntries r
def uptoBulkEntry {H : Type} : Lit × DataW H → Nat
  | (.string bytes, d) => bytes.length + uptoBulk d + 1
  | (_, d) => uptoBulk d + 1
 end
def uptoSmall : (H : Type) → List (DataW H) → Bool := fun _ ds => decide (uptoBulkAll ds ≤ 1048576)
def OpenSpec.upto (s : _root_.Go.ChangeSpec) : _root_.Go.OpenSpec := { _root_.Go.OpenSpec.ofChange s with cond := some uptoSmall }

/-- 'penstocklaw09.ProdOnce', WHERE WHAT IT READS IS OF BULK AT MOST 1048576: true; the input reads as it did. -/
def prodOnceUptoRow : OpenClaim := { program := "ytliakpomlkgpnaa", sum := "3348d336d2571e90eae93c5ca62724ead0ba90e7fe3efb8a4bd1fa97c66d09cb", func := "penstock/penstocklaw09.ProdOnce", spec := "prodOnce", apart := false, narrowed := true }
def ProdOnceUptoSaid : Prop := prodOnceUptoRow.holds Try.pinned (OpenSpec.upto prodOnceSpec)

/-- 'penstocklaw09.ProdAgain', WHERE WHAT IT READS IS OF BULK AT MOST 1048576: true; the input reads as it did. -/
def prodAgainUptoRow : OpenClaim := { program := "ytliakpomlkgpnaa", sum := "3348d336d2571e90eae93c5ca62724ead0ba90e7fe3efb8a4bd1fa97c66d09cb", func := "penstock/penstocklaw09.ProdAgain", spec := "prodAgain", apart := false, narrowed := true }
def ProdAgainUptoSaid : Prop := prodAgainUptoRow.holds Try.pinned (OpenSpec.upto prodAgainSpec)

/-- 'penstocklaw09.ProdFences', WHERE WHAT IT READS IS OF BULK AT MOST 1048576: true; the input reads as it did. -/
def prodFencesUptoRow : OpenClaim := { program := "ytliakpomlkgpnaa", sum := "3348d336d2571e90eae93c5ca62724ead0ba90e7fe3efb8a4bd1fa97c66d09cb", func := "penstock/penstocklaw09.ProdFences", spec := "prodFences", apart := false, narrowed := true }
def ProdFencesUptoSaid : Prop := prodFencesUptoRow.holds Try.pinned (OpenSpec.upto prodFencesSpec)

/-- 'penstocklaw09.ProdOpens', WHERE WHAT IT READS IS OF BULK AT MOST 1048576: true; the input reads as it did. -/
def prodOpensUptoRow : OpenClaim := { program := "ytliakpomlkgpnaa", sum := "3348d336d2571e90eae93c5ca62724ead0ba90e7fe3efb8a4bd1fa97c66d09cb", func := "penstock/penstocklaw09.ProdOpens", spec := "prodOpens", apart := false, narrowed := true }
def ProdOpensUptoSaid : Prop := prodOpensUptoRow.holds Try.pinned (OpenSpec.upto prodOpensSpec)

/-- 'penstocklaw09.ProdNone', WHERE WHAT IT READS IS OF BULK AT MOST 1048576: true; the input reads as it did. -/
def prodNoneUptoRow : OpenClaim := { program := "ytliakpomlkgpnaa", sum := "3348d336d2571e90eae93c5ca62724ead0ba90e7fe3efb8a4bd1fa97c66d09cb", func := "penstock/penstocklaw09.ProdNone", spec := "prodNone", unfollowed := true, recurses := true, apart := false, narrowed := true }
def ProdNoneUptoSaid : Prop := prodNoneUptoRow.holds Try.pinned (OpenSpec.upto prodNoneSpec)

end Rows
end Go.Proofs.Ytliakpomlkgpnaa
