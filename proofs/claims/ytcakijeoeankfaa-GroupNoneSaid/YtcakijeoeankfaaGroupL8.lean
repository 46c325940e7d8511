/-
  GroupL8: lemmas on what Go functions of this seat come to (for whatever arguments, as each says). No condition but those that stand in each lemma.
-/
import Derived.Test.YtcakijeoeankfaaGroupF0
namespace Go.Proofs.Ytcakijeoeankfaa
open Go Go.Ev
set_option maxRecDepth 100000
set_option linter.unusedVariables false
/-! 8: penstock/penstocklaw16.GroupNone (o: penstocklaw16.Op) -/
def g8_ann : List (List Nat × List Nat) := []

noncomputable def g8 (u0c0 : Int) (u0c1 : Int) (u0c2 : Int) (u0c3 : Int) (u0c4 : Int) (u0c5 : Int) (u0c6 : Bool) (u0c7 : Int) (u0c8 : Int) (u0c9 : Int) (u0c10 : Int) (u0c11 : Int) (u0c12 : Int) (u0c13 : Bool) (u0c14 : Bool) (u0c15 : Bool) (u0c16 : Option Addr × Nat × Nat) (w0 : World) : Option (Value × World) :=
(ldN (World.alloc w0 (.cells #[.int .i64 u0c0, .int .i64 u0c1, .int .i64 u0c2, .int .i64 u0c3, .int .i64 u0c4, .int .i64 u0c5, .bool u0c6, .int .u64 u0c7, .int .i64 u0c8, .int .i64 u0c9, .int .u64 u0c10, .int .i64 u0c11, .int .i64 u0c12, .bool u0c13, .bool u0c14, .bool u0c15, .slice u0c16.1 u0c16.2.1 u0c16.2.2] 62)) (Addr.add (⟨w0.heap.size, 0, none⟩) 8) 0 9).bind fun l1 =>
(asI .i64 (l1.getD 0 undef)).bind fun n2 =>
(asI .i64 (l1.getD 1 undef)).bind fun n3 =>
(asI .u64 (l1.getD 2 undef)).bind fun n4 =>
(asI .i64 (l1.getD 3 undef)).bind fun n5 =>
(asI .i64 (l1.getD 4 undef)).bind fun n6 =>
(asB (l1.getD 5 undef)).bind fun b7 =>
(asB (l1.getD 6 undef)).bind fun b8 =>
(asB (l1.getD 7 undef)).bind fun b9 =>
(asSl (l1.getD 8 undef)).bind fun q10 =>
(callF Try.prog 20 #[.pointer none, .agg #[.int .i64 n2, .int .i64 n3, .int .u64 n4, .int .i64 n5, .int .i64 n6, .bool b7, .bool b8, .bool b9, .slice q10.1 q10.2.1 q10.2.2]] (World.alloc w0 (.cells #[.int .i64 u0c0, .int .i64 u0c1, .int .i64 u0c2, .int .i64 u0c3, .int .i64 u0c4, .int .i64 u0c5, .bool u0c6, .int .u64 u0c7, .int .i64 u0c8, .int .i64 u0c9, .int .u64 u0c10, .int .i64 u0c11, .int .i64 u0c12, .bool u0c13, .bool u0c14, .bool u0c15, .slice u0c16.1 u0c16.2.1 u0c16.2.2] 62))).bind fun r11 =>
(asTup 0 r11.1).bind fun _ =>
(World.cell? r11.2 (Addr.add (⟨w0.heap.size, 0, none⟩) 1)).bind fun v12 =>
(asI .i64 v12).bind fun n13 =>
(callF Try.prog 23 #[.pointer none, .int .i64 n13] r11.2).bind fun r14 =>
(asTup 2 r14.1).bind fun l15 =>
(asI .i64 (l15.getD 0 undef)).bind fun n16 =>
(asSl (l15.getD 1 undef)).bind fun q17 =>
(World.cell? r14.2 (Addr.add (⟨w0.heap.size, 0, none⟩) 1)).bind fun v18 =>
(asI .i64 v18).bind fun n19 =>
(World.cell? r14.2 (Addr.add (⟨w0.heap.size, 0, none⟩) 4)).bind fun v20 =>
(asI .i64 v20).bind fun n21 =>
(callF Try.prog 22 #[.pointer none, .int .i64 n19, .int .i64 n21] r14.2).bind fun r22 =>
(asTup 2 r22.1).bind fun l23 =>
(asI .i64 (l23.getD 0 undef)).bind fun n24 =>
(asI .i64 (l23.getD 1 undef)).bind fun n25 =>
(World.cell? r22.2 (Addr.add (⟨w0.heap.size, 0, none⟩) 1)).bind fun v26 =>
(asI .i64 v26).bind fun n27 =>
(World.cell? r22.2 (Addr.add (⟨w0.heap.size, 0, none⟩) 2)).bind fun v28 =>
(asI .i64 v28).bind fun n29 =>
(World.cell? r22.2 (Addr.add (⟨w0.heap.size, 0, none⟩) 6)).bind fun v30 =>
(asB v30).bind fun b31 =>
(callF Try.prog 25 #[.pointer none, .int .i64 n27, .int .i64 n29, .bool b31] r22.2).bind fun r32 =>
(asTup 3 r32.1).bind fun l33 =>
(Ev.asAgg 6 (l33.getD 0 undef)).bind fun l34 =>
(asI .i64 (l34.getD 0 undef)).bind fun n35 =>
(asI .i64 (l34.getD 1 undef)).bind fun n36 =>
(asI .i64 (l34.getD 2 undef)).bind fun n37 =>
(asSl (l34.getD 3 undef)).bind fun q38 =>
(asI .i64 (l34.getD 4 undef)).bind fun n39 =>
(asI .i64 (l34.getD 5 undef)).bind fun n40 =>
(asB (l33.getD 1 undef)).bind fun b41 =>
(asI .i64 (l33.getD 2 undef)).bind fun n42 =>
(stL (World.alloc r32.2 (.cells #[.int .i64 0, .int .i64 0, .int .i64 0, .slice none 0 0, .int .i64 0, .int .i64 0] 27)) (⟨r32.2.heap.size, 0, none⟩) [.int .i64 n35, .int .i64 n36, .int .i64 n37, .slice q38.1 q38.2.1 q38.2.2, .int .i64 n39, .int .i64 n40] 0).bind fun w43 =>
(World.cell? w43 (Addr.add (⟨w0.heap.size, 0, none⟩) 1)).bind fun v44 =>
(asI .i64 v44).bind fun n45 =>
(World.cell? w43 (Addr.add (⟨w0.heap.size, 0, none⟩) 2)).bind fun v46 =>
(asI .i64 v46).bind fun n47 =>
(World.cell? w43 (Addr.add (⟨w0.heap.size, 0, none⟩) 3)).bind fun v48 =>
(asI .i64 v48).bind fun n49 =>
(World.cell? w43 (Addr.add (⟨w0.heap.size, 0, none⟩) 4)).bind fun v50 =>
(asI .i64 v50).bind fun n51 =>
(World.cell? w43 (Addr.add (⟨w0.heap.size, 0, none⟩) 5)).bind fun v52 =>
(asI .i64 v52).bind fun n53 =>
(callF Try.prog 26 #[.pointer none, .int .i64 n45, .int .i64 n47, .int .i64 n49, .int .i64 n51, .int .i64 n53] w43).bind fun r54 =>
(asTup 2 r54.1).bind fun l55 =>
(Ev.asAgg 6 (l55.getD 0 undef)).bind fun l56 =>
(asI .i64 (l56.getD 0 undef)).bind fun n57 =>
(asI .i64 (l56.getD 1 undef)).bind fun n58 =>
(asI .i64 (l56.getD 2 undef)).bind fun n59 =>
(asSl (l56.getD 3 undef)).bind fun q60 =>
(asI .i64 (l56.getD 4 undef)).bind fun n61 =>
(asI .i64 (l56.getD 5 undef)).bind fun n62 =>
(asI .i64 (l55.getD 1 undef)).bind fun n63 =>
(stL (World.alloc r54.2 (.cells #[.int .i64 0, .int .i64 0, .int .i64 0, .slice none 0 0, .int .i64 0, .int .i64 0] 27)) (⟨r54.2.heap.size, 0, none⟩) [.int .i64 n57, .int .i64 n58, .int .i64 n59, .slice q60.1 q60.2.1 q60.2.2, .int .i64 n61, .int .i64 n62] 0).bind fun w64 =>
(callF Try.prog 9 #[] w64).bind fun r65 =>
(asB r65.1).bind fun b66 =>
if b66 = true then
(if ((n16 : Int) == 0) = true then
(if (((q17.2.1 : Int) : Int) == 0) = true then
(if ((n24 : Int) == 0) = true then
(if ((n25 : Int) == 5) = true then
((World.cell? r65.2 (⟨r32.2.heap.size, 0, none⟩)).bind fun v68 =>
(asI .i64 v68).bind fun n69 =>
if ((n69 : Int) == 0) = true then
(if (!b41) = true then
(if ((n42 : Int) == 5) = true then
((World.cell? r65.2 (⟨r54.2.heap.size, 0, none⟩)).bind fun v70 =>
(asI .i64 v70).bind fun n71 =>
if ((n71 : Int) == 0) = true then
(if ((n63 : Int) == 5) = true then
((callF Try.prog 27 #[.pointer none] r65.2).bind fun r72 =>
(asSl r72.1).bind fun q73 =>
some (.bool (((q73.2.1 : Int) : Int) == 0), r72.2))
else
(some (.bool false, r65.2)))
else
(some (.bool false, r65.2)))
else
(some (.bool false, r65.2)))
else
(some (.bool false, r65.2)))
else
(some (.bool false, r65.2)))
else
(some (.bool false, r65.2)))
else
(some (.bool false, r65.2)))
else
(some (.bool false, r65.2)))
else
(some (.bool false, r65.2)))
else
(some (.bool false, r65.2))

theorem g8_eq (u0c0 : Int) (u0c1 : Int) (u0c2 : Int) (u0c3 : Int) (u0c4 : Int) (u0c5 : Int) (u0c6 : Bool) (u0c7 : Int) (u0c8 : Int) (u0c9 : Int) (u0c10 : Int) (u0c11 : Int) (u0c12 : Int) (u0c13 : Bool) (u0c14 : Bool) (u0c15 : Bool) (u0c16 : Option Addr × Nat × Nat) (w0 : World) : evFn Try.prog 8 g8_ann #[.agg #[.int .i64 u0c0, .int .i64 u0c1, .int .i64 u0c2, .int .i64 u0c3, .int .i64 u0c4, .int .i64 u0c5, .bool u0c6, .int .u64 u0c7, .int .i64 u0c8, .int .i64 u0c9, .int .u64 u0c10, .int .i64 u0c11, .int .i64 u0c12, .bool u0c13, .bool u0c14, .bool u0c15, .slice u0c16.1 u0c16.2.1 u0c16.2.2]] w0 = g8 u0c0 u0c1 u0c2 u0c3 u0c4 u0c5 u0c6 u0c7 u0c8 u0c9 u0c10 u0c11 u0c12 u0c13 u0c14 u0c15 u0c16 w0 := by kernel_rfl

theorem g8_call {u0c0 : Int} {u0c1 : Int} {u0c2 : Int} {u0c3 : Int} {u0c4 : Int} {u0c5 : Int} {u0c6 : Bool} {u0c7 : Int} {u0c8 : Int} {u0c9 : Int} {u0c10 : Int} {u0c11 : Int} {u0c12 : Int} {u0c13 : Bool} {u0c14 : Bool} {u0c15 : Bool} {u0c16 : Option Addr × Nat × Nat} {w0 : World} {r : Value × World} (h : g8 u0c0 u0c1 u0c2 u0c3 u0c4 u0c5 u0c6 u0c7 u0c8 u0c9 u0c10 u0c11 u0c12 u0c13 u0c14 u0c15 u0c16 w0 = some r) : callF Try.prog 8 #[.agg #[.int .i64 u0c0, .int .i64 u0c1, .int .i64 u0c2, .int .i64 u0c3, .int .i64 u0c4, .int .i64 u0c5, .bool u0c6, .int .u64 u0c7, .int .i64 u0c8, .int .i64 u0c9, .int .u64 u0c10, .int .i64 u0c11, .int .i64 u0c12, .bool u0c13, .bool u0c14, .bool u0c15, .slice u0c16.1 u0c16.2.1 u0c16.2.2]] w0 = some r :=
  callF_of_evFn (ann := g8_ann) Try.call8 (by kernel_rfl) ((g8_eq u0c0 u0c1 u0c2 u0c3 u0c4 u0c5 u0c6 u0c7 u0c8 u0c9 u0c10 u0c11 u0c12 u0c13 u0c14 u0c15 u0c16 w0).trans h)

end Go.Proofs.Ytcakijeoeankfaa
