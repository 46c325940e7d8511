/-
  WalL6: lemmas on what Go functions of this seat come to (for whatever arguments, as each says). No condition but those that stand in each lemma.
-/
import Derived.Test.YtnflklkjjjlpaaaWalF0
namespace Go.Proofs.Ytnflklkjjjlpaaa
open Go Go.Ev
set_option maxRecDepth 100000
set_option linter.unusedVariables false
/-! 6: penstock/penstocklaw06.WalNone (name: string, p: []uint8) -/
def g6_ann : List (List Nat × List Nat) := []

noncomputable def g6 (u0 : ByteArray) (u1 : Option Addr × Nat × Nat) (w0 : World) : Option (Value × World) :=
(callF Try.prog 10 #[.pointer none, .string u0] w0).bind fun r1 =>
(asTup 3 r1.1).bind fun l2 =>
(asP (l2.getD 0 undef)).bind fun p3 =>
(asSl (l2.getD 1 undef)).bind fun q4 =>
(asI .i64 (l2.getD 2 undef)).bind fun n5 =>
(callF Try.prog 9 #[] r1.2).bind fun r6 =>
(asP r6.1).bind fun p7 =>
(callF Try.prog 10 #[.pointer p7, .string (⟨#[]⟩ : ByteArray)] r6.2).bind fun r8 =>
(asTup 3 r8.1).bind fun l9 =>
(asP (l9.getD 0 undef)).bind fun p10 =>
(asSl (l9.getD 1 undef)).bind fun q11 =>
(asI .i64 (l9.getD 2 undef)).bind fun n12 =>
(callF Try.prog 11 #[] r8.2).bind fun r13 =>
(asB r13.1).bind fun b14 =>
if b14 = true then
(if (p3.isNone) = true then
(if (((q4.2.1 : Int) : Int) == 0) = true then
(if ((n5 : Int) == 5) = true then
(if (p10.isNone) = true then
(if (((q11.2.1 : Int) : Int) == 0) = true then
(if ((n12 : Int) == 1) = true then
((callF Try.prog 14 #[.pointer none, .slice u1.1 u1.2.1 u1.2.2] r13.2).bind fun r17 =>
(asI .i64 r17.1).bind fun n18 =>
if ((n18 : Int) == 5) = true then
((callF Try.prog 23 #[.pointer none] r17.2).bind fun r19 =>
(asI .i64 r19.1).bind fun n20 =>
if ((n20 : Int) == 5) = true then
((callF Try.prog 24 #[.pointer none, .slice (some (⟨r19.2.heap.size, 0, none⟩)) 1 1] (World.alloc r19.2 (.cells #[.slice u1.1 u1.2.1 u1.2.2] 31))).bind fun r21 =>
(asI .i64 r21.1).bind fun n22 =>
if ((n22 : Int) == 5) = true then
((callF Try.prog 18 #[.pointer none] r21.2).bind fun r23 =>
(asI .i64 r23.1).bind fun n24 =>
some (.bool ((n24 : Int) == 0), r23.2))
else
(some (.bool false, r21.2)))
else
(some (.bool false, r19.2)))
else
(some (.bool false, r17.2)))
else
(some (.bool false, r13.2)))
else
(some (.bool false, r13.2)))
else
(some (.bool false, r13.2)))
else
(some (.bool false, r13.2)))
else
(some (.bool false, r13.2)))
else
(some (.bool false, r13.2)))
else
(some (.bool false, r13.2))

theorem g6_eq (u0 : ByteArray) (u1 : Option Addr × Nat × Nat) (w0 : World) : evFn Try.prog 6 g6_ann #[.string u0, .slice u1.1 u1.2.1 u1.2.2] w0 = g6 u0 u1 w0 := by kernel_rfl

theorem g6_call {u0 : ByteArray} {u1 : Option Addr × Nat × Nat} {w0 : World} {r : Value × World} (h : g6 u0 u1 w0 = some r) : callF Try.prog 6 #[.string u0, .slice u1.1 u1.2.1 u1.2.2] w0 = some r :=
  callF_of_evFn (ann := g6_ann) Try.call6 (by kernel_rfl) ((g6_eq u0 u1 w0).trans h)

end Go.Proofs.Ytnflklkjjjlpaaa
