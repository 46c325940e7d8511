/-
  ProdL5: lemmas on what Go functions of this seat come to (for whatever arguments, as each says). No condition but those that stand in each lemma.
-/
import Derived.Test.YtliakpomlkgpnaaProdF0
namespace Go.Proofs.Ytliakpomlkgpnaa
open Go Go.Ev
set_option maxRecDepth 100000
set_option linter.unusedVariables false
/-! 5: penstock/penstocklaw09.ProdFences (l: []api.Batch, b: api.Batch) -/
def g5_ann : List (List Nat × List Nat) := []

noncomputable def g5 (u0 : Option Addr × Nat × Nat) (u1c0 : Int) (u1c1 : Int) (u1c2 : Int) (u1c3 : Int) (u1c4 : Int) (u1c5 : Bool) (u1c6 : Bool) (u1c7 : Bool) (u1c8 : Option Addr × Nat × Nat) (w0 : World) : Option (Value × World) :=
(callF Try.prog 8 #[] (World.alloc w0 (.cells #[.int .i64 u1c0, .int .i64 u1c1, .int .u64 u1c2, .int .i64 u1c3, .int .i64 u1c4, .bool u1c5, .bool u1c6, .bool u1c7, .slice u1c8.1 u1c8.2.1 u1c8.2.2] 30))).bind fun r1 =>
(asB r1.1).bind fun b2 =>
if (!b2) = true then
(some (.bool false, r1.2))
else
((callF Try.prog 9 #[.slice u0.1 u0.2.1 u0.2.2] r1.2).bind fun r3 =>
(asTup 2 r3.1).bind fun l4 =>
(asP (l4.getD 0 undef)).bind fun p5 =>
(asSl (l4.getD 1 undef)).bind fun q6 =>
(ldN r3.2 (⟨w0.heap.size, 0, none⟩) 0 9).bind fun l7 =>
(asI .i64 (l7.getD 0 undef)).bind fun n8 =>
(asI .i64 (l7.getD 1 undef)).bind fun n9 =>
(asI .u64 (l7.getD 2 undef)).bind fun n10 =>
(asI .i64 (l7.getD 3 undef)).bind fun n11 =>
(asI .i64 (l7.getD 4 undef)).bind fun n12 =>
(asB (l7.getD 5 undef)).bind fun b13 =>
(asB (l7.getD 6 undef)).bind fun b14 =>
(asB (l7.getD 7 undef)).bind fun b15 =>
(asSl (l7.getD 8 undef)).bind fun q16 =>
(callF Try.prog 12 #[.agg #[.int .i64 n8, .int .i64 n9, .int .u64 n10, .int .i64 n11, .int .i64 n12, .bool b13, .bool b14, .bool b15, .slice q16.1 q16.2.1 q16.2.2]] r3.2).bind fun r17 =>
(asI .i64 r17.1).bind fun n18 =>
if ((n18 : Int) != 0) = true then
(some (.bool true, r17.2))
else
((World.cell? r17.2 (Addr.add (⟨w0.heap.size, 0, none⟩) 2)).bind fun v19 =>
(asI .u64 v19).bind fun n20 =>
(callF Try.prog 10 #[.pointer p5, .int .u64 n20] r17.2).bind fun r21 =>
(asTup 4 r21.1).bind fun l22 =>
(asI .i64 (l22.getD 0 undef)).bind fun n23 =>
(asI .i64 (l22.getD 1 undef)).bind fun n24 =>
(asI .i64 (l22.getD 2 undef)).bind fun n25 =>
(asB (l22.getD 3 undef)).bind fun b26 =>
(ldN r21.2 (⟨w0.heap.size, 0, none⟩) 0 9).bind fun l27 =>
(asI .i64 (l27.getD 0 undef)).bind fun n28 =>
(asI .i64 (l27.getD 1 undef)).bind fun n29 =>
(asI .u64 (l27.getD 2 undef)).bind fun n30 =>
(asI .i64 (l27.getD 3 undef)).bind fun n31 =>
(asI .i64 (l27.getD 4 undef)).bind fun n32 =>
(asB (l27.getD 5 undef)).bind fun b33 =>
(asB (l27.getD 6 undef)).bind fun b34 =>
(asB (l27.getD 7 undef)).bind fun b35 =>
(asSl (l27.getD 8 undef)).bind fun q36 =>
(callF Try.prog 11 #[.pointer p5, .agg #[.int .i64 n28, .int .i64 n29, .int .u64 n30, .int .i64 n31, .int .i64 n32, .bool b33, .bool b34, .bool b35, .slice q36.1 q36.2.1 q36.2.2]] r21.2).bind fun r37 =>
(asTup 3 r37.1).bind fun l38 =>
(asI .i64 (l38.getD 0 undef)).bind fun n39 =>
(asB (l38.getD 1 undef)).bind fun b40 =>
(asI .i64 (l38.getD 2 undef)).bind fun n41 =>
(World.cell? r37.2 (Addr.add (⟨w0.heap.size, 0, none⟩) 2)).bind fun v42 =>
(asI .u64 v42).bind fun n43 =>
if ((n43 : Int) == 0) = true then
(if ((n41 : Int) == 0) = true then
(if (!b40) = true then
(some (.bool ((n39 : Int) == 0), r37.2))
else
(some (.bool false, r37.2)))
else
(some (.bool false, r37.2)))
else
(if b26 = true then
((World.cell? r37.2 (Addr.add (⟨w0.heap.size, 0, none⟩) 3)).bind fun v44 =>
(asI .i64 v44).bind fun n45 =>
if (!(((n41 : Int) == 10) == (decide ((n45 : Int) < n23)))) = true then
(some (.bool false, r37.2))
else
(if ((n41 : Int) == 0) = true then
(some (.bool true, r37.2))
else
(if (!b40) = true then
(some (.bool ((n39 : Int) == 0), r37.2))
else
(some (.bool false, r37.2)))))
else
(if (!(((n41 : Int) == 10) == false)) = true then
(some (.bool false, r37.2))
else
(if ((n41 : Int) == 0) = true then
(some (.bool true, r37.2))
else
(if (!b40) = true then
(some (.bool ((n39 : Int) == 0), r37.2))
else
(some (.bool false, r37.2))))))))

theorem g5_eq (u0 : Option Addr × Nat × Nat) (u1c0 : Int) (u1c1 : Int) (u1c2 : Int) (u1c3 : Int) (u1c4 : Int) (u1c5 : Bool) (u1c6 : Bool) (u1c7 : Bool) (u1c8 : Option Addr × Nat × Nat) (w0 : World) : evFn Try.prog 5 g5_ann #[.slice u0.1 u0.2.1 u0.2.2, .agg #[.int .i64 u1c0, .int .i64 u1c1, .int .u64 u1c2, .int .i64 u1c3, .int .i64 u1c4, .bool u1c5, .bool u1c6, .bool u1c7, .slice u1c8.1 u1c8.2.1 u1c8.2.2]] w0 = g5 u0 u1c0 u1c1 u1c2 u1c3 u1c4 u1c5 u1c6 u1c7 u1c8 w0 := by kernel_rfl

theorem g5_call {u0 : Option Addr × Nat × Nat} {u1c0 : Int} {u1c1 : Int} {u1c2 : Int} {u1c3 : Int} {u1c4 : Int} {u1c5 : Bool} {u1c6 : Bool} {u1c7 : Bool} {u1c8 : Option Addr × Nat × Nat} {w0 : World} {r : Value × World} (h : g5 u0 u1c0 u1c1 u1c2 u1c3 u1c4 u1c5 u1c6 u1c7 u1c8 w0 = some r) : callF Try.prog 5 #[.slice u0.1 u0.2.1 u0.2.2, .agg #[.int .i64 u1c0, .int .i64 u1c1, .int .u64 u1c2, .int .i64 u1c3, .int .i64 u1c4, .bool u1c5, .bool u1c6, .bool u1c7, .slice u1c8.1 u1c8.2.1 u1c8.2.2]] w0 = some r :=
  callF_of_evFn (ann := g5_ann) Try.call5 (by kernel_rfl) ((g5_eq u0 u1c0 u1c1 u1c2 u1c3 u1c4 u1c5 u1c6 u1c7 u1c8 w0).trans h)

end Go.Proofs.Ytliakpomlkgpnaa
