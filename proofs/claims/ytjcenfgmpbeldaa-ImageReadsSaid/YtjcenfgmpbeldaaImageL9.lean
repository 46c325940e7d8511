/-
  ImageL9: lemmas on what Go functions of this seat come to (for whatever arguments, as each says). No condition but those that stand in each lemma.
-/
import Derived.Test.YtjcenfgmpbeldaaImageV3
namespace Go.Proofs.Ytjcenfgmpbeldaa
open Go Go.Ev
set_option maxRecDepth 100000
set_option linter.unusedVariables false
/-! 9: penstock/penstocklaw13.ImageReads (text: []uint8) -/
def g9_ann : List (List Nat × List Nat) := []

noncomputable def g9 (u0 : Option Addr × Nat × Nat) (w0 : World) : Option (Value × World) :=
(callF Try.prog 31 #[.slice u0.1 u0.2.1 u0.2.2] w0).bind fun r1 =>
(asTup 2 r1.1).bind fun l2 =>
(asP (l2.getD 0 undef)).bind fun p3 =>
(asI .i64 (l2.getD 1 undef)).bind fun n4 =>
(callF Try.prog 12 #[] r1.2).bind fun r5 =>
(asB r5.1).bind fun b6 =>
if (!b6) = true then
(some (.bool false, r5.2))
else
((callB Try.prog .append #[43, 43] 43 #[false, false] #[.slice (some (⟨r5.2.heap.size, 0, none⟩)) 0 0, .slice u0.1 u0.2.1 u0.2.2] (World.alloc r5.2 (.cells #[] 5))).bind fun r7 =>
(asSl r7.1).bind fun q8 =>
(callF Try.prog 32 #[.slice q8.1 q8.2.1 q8.2.2] r7.2).bind fun r9 =>
(asTup 2 r9.1).bind fun l10 =>
(asP (l10.getD 0 undef)).bind fun p11 =>
(asI .i64 (l10.getD 1 undef)).bind fun n12 =>
if ((n12 : Int) != n4) = true then
(some (.bool false, r9.2))
else
(if (!((p11.isNone) == (p3.isNone))) = true then
(some (.bool false, r9.2))
else
((callF Try.prog 28 #[.slice q8.1 q8.2.1 q8.2.2, .slice u0.1 u0.2.1 u0.2.2] r9.2).bind fun r13 =>
(asB r13.1).bind fun b14 =>
if (!b14) = true then
(some (.bool false, r13.2))
else
(if (p11.isNone) = true then
(some (.bool true, r13.2))
else
((callF Try.prog 22 #[.pointer p11, .pointer p3] r13.2).bind fun r15 =>
(asB r15.1).bind fun b16 =>
some (.bool b16, r15.2))))))

theorem g9_eq (u0 : Option Addr × Nat × Nat) (w0 : World) : evFn Try.prog 9 g9_ann #[.slice u0.1 u0.2.1 u0.2.2] w0 = g9 u0 w0 := by kernel_rfl

theorem g9_call {u0 : Option Addr × Nat × Nat} {w0 : World} {r : Value × World} (h : g9 u0 w0 = some r) : callF Try.prog 9 #[.slice u0.1 u0.2.1 u0.2.2] w0 = some r :=
  callF_of_evFn (ann := g9_ann) Try.call9 (by kernel_rfl) ((g9_eq u0 w0).trans h)

end Go.Proofs.Ytjcenfgmpbeldaa
