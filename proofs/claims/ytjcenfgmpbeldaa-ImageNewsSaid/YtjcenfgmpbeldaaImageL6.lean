/-
  ImageL6: lemmas on what Go functions of this seat come to (for whatever arguments, as each says). No condition but those that stand in each lemma.
-/
import Derived.Test.YtjcenfgmpbeldaaImageV2
namespace Go.Proofs.Ytjcenfgmpbeldaa
open Go Go.Ev
set_option maxRecDepth 100000
set_option linter.unusedVariables false
/-! 6: penstock/penstocklaw13.ImageNews (nodes: int, parts: int, copies: int) -/
def g6_ann : List (List Nat × List Nat) := []

noncomputable def g6 (u0 : Int) (u1 : Int) (u2 : Int) (w0 : World) : Option (Value × World) :=
(callF Try.prog 11 #[.int .i64 u0, .int .i64 u1, .int .i64 u2] w0).bind fun r1 =>
(asTup 2 r1.1).bind fun l2 =>
(asP (l2.getD 0 undef)).bind fun p3 =>
(asI .i64 (l2.getD 1 undef)).bind fun n4 =>
(callF Try.prog 21 #[.int .i64 u0, .int .i64 u1, .int .i64 u2] r1.2).bind fun r5 =>
(asTup 2 r5.1).bind fun l6 =>
(asP (l6.getD 0 undef)).bind fun p7 =>
(asI .i64 (l6.getD 1 undef)).bind fun n8 =>
(callF Try.prog 12 #[] r5.2).bind fun r9 =>
(asB r9.1).bind fun b10 =>
if (!b10) = true then
(some (.bool false, r9.2))
else
(if ((n4 : Int) != n8) = true then
(some (.bool false, r9.2))
else
(if (!((p3.isNone) == (p7.isNone))) = true then
(some (.bool false, r9.2))
else
(if (p3.isNone) = true then
(some (.bool true, r9.2))
else
((callF Try.prog 22 #[.pointer p3, .pointer p7] r9.2).bind fun r11 =>
(asB r11.1).bind fun b12 =>
some (.bool b12, r11.2)))))

theorem g6_eq (u0 : Int) (u1 : Int) (u2 : Int) (w0 : World) : evFn Try.prog 6 g6_ann #[.int .i64 u0, .int .i64 u1, .int .i64 u2] w0 = g6 u0 u1 u2 w0 := by kernel_rfl

theorem g6_call {u0 : Int} {u1 : Int} {u2 : Int} {w0 : World} {r : Value × World} (h : g6 u0 u1 u2 w0 = some r) : callF Try.prog 6 #[.int .i64 u0, .int .i64 u1, .int .i64 u2] w0 = some r :=
  callF_of_evFn (ann := g6_ann) Try.call6 (by kernel_rfl) ((g6_eq u0 u1 u2 w0).trans h)

end Go.Proofs.Ytjcenfgmpbeldaa
