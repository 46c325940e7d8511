/-
  TxnL8: lemmas on what Go functions of this seat come to (for whatever arguments, as each says). No condition but those that stand in each lemma.
-/
import Derived.Test.YtlcojbodcbjkaaaTxnF0
namespace Go.Proofs.Ytlcojbodcbjkaaa
open Go Go.Ev
set_option maxRecDepth 100000
set_option linter.unusedVariables false
/-! 8: penstock/penstocklaw15.TxnNone (o: penstocklaw15.Op) -/
def g8_ann : List (List Nat × List Nat) := []

noncomputable def g8 (u0c0 : Int) (u0c1 : Int) (u0c2 : Int) (u0c3 : Int) (u0c4 : Int) (u0c5 : Int) (u0c6 : Bool) (u0c7 : Bool) (u0c8 : Int) (u0c9 : Int) (u0c10 : Int) (u0c11 : Int) (u0c12 : Int) (u0c13 : Option Addr × Nat × Nat) (u0c14 : Bool) (w0 : World) : Option (Value × World) :=
(ldN (World.alloc w0 (.cells #[.int .i64 u0c0, .int .i64 u0c1, .int .i64 u0c2, .int .i64 u0c3, .int .i64 u0c4, .int .u64 u0c5, .bool u0c6, .bool u0c7, .int .i64 u0c8, .int .i64 u0c9, .int .i64 u0c10, .int .u64 u0c11, .int .i64 u0c12, .slice u0c13.1 u0c13.2.1 u0c13.2.2, .bool u0c14] 32)) (Addr.add (⟨w0.heap.size, 0, none⟩) 8) 0 7).bind fun l1 =>
(asI .i64 (l1.getD 0 undef)).bind fun n2 =>
(asI .i64 (l1.getD 1 undef)).bind fun n3 =>
(asI .i64 (l1.getD 2 undef)).bind fun n4 =>
(asI .u64 (l1.getD 3 undef)).bind fun n5 =>
(asI .i64 (l1.getD 4 undef)).bind fun n6 =>
(asSl (l1.getD 5 undef)).bind fun q7 =>
(asB (l1.getD 6 undef)).bind fun b8 =>
(callF Try.prog 13 #[.pointer none, .agg #[.int .i64 n2, .int .i64 n3, .int .i64 n4, .int .u64 n5, .int .i64 n6, .slice q7.1 q7.2.1 q7.2.2, .bool b8]] (World.alloc w0 (.cells #[.int .i64 u0c0, .int .i64 u0c1, .int .i64 u0c2, .int .i64 u0c3, .int .i64 u0c4, .int .u64 u0c5, .bool u0c6, .bool u0c7, .int .i64 u0c8, .int .i64 u0c9, .int .i64 u0c10, .int .u64 u0c11, .int .i64 u0c12, .slice u0c13.1 u0c13.2.1 u0c13.2.2, .bool u0c14] 32))).bind fun r9 =>
(asTup 0 r9.1).bind fun _ =>
(World.cell? r9.2 (Addr.add (⟨w0.heap.size, 0, none⟩) 1)).bind fun v10 =>
(asI .i64 v10).bind fun n11 =>
(World.cell? r9.2 (Addr.add (⟨w0.heap.size, 0, none⟩) 2)).bind fun v12 =>
(asI .i64 v12).bind fun n13 =>
(World.cell? r9.2 (Addr.add (⟨w0.heap.size, 0, none⟩) 5)).bind fun v14 =>
(asI .u64 v14).bind fun n15 =>
(callF Try.prog 14 #[.pointer none, .int .i64 n11, .int .i64 n13, .int .u64 n15] r9.2).bind fun r16 =>
(asTup 3 r16.1).bind fun l17 =>
(Ev.asAgg 7 (l17.getD 0 undef)).bind fun l18 =>
(asI .i64 (l18.getD 0 undef)).bind fun n19 =>
(asI .i64 (l18.getD 1 undef)).bind fun n20 =>
(asI .i64 (l18.getD 2 undef)).bind fun n21 =>
(asI .u64 (l18.getD 3 undef)).bind fun n22 =>
(asI .i64 (l18.getD 4 undef)).bind fun n23 =>
(asSl (l18.getD 5 undef)).bind fun q24 =>
(asB (l18.getD 6 undef)).bind fun b25 =>
(asB (l17.getD 1 undef)).bind fun b26 =>
(asI .i64 (l17.getD 2 undef)).bind fun n27 =>
(stL (World.alloc r16.2 (.cells #[.int .i64 0, .int .i64 0, .int .i64 0, .int .u64 0, .int .i64 0, .slice none 0 0, .bool false] 30)) (⟨r16.2.heap.size, 0, none⟩) [.int .i64 n19, .int .i64 n20, .int .i64 n21, .int .u64 n22, .int .i64 n23, .slice q24.1 q24.2.1 q24.2.2, .bool b25] 0).bind fun w28 =>
(World.cell? w28 (Addr.add (⟨w0.heap.size, 0, none⟩) 1)).bind fun v29 =>
(asI .i64 v29).bind fun n30 =>
(World.cell? w28 (Addr.add (⟨w0.heap.size, 0, none⟩) 5)).bind fun v31 =>
(asI .u64 v31).bind fun n32 =>
(World.cell? w28 (Addr.add (⟨w0.heap.size, 0, none⟩) 3)).bind fun v33 =>
(asI .i64 v33).bind fun n34 =>
(World.cell? w28 (Addr.add (⟨w0.heap.size, 0, none⟩) 4)).bind fun v35 =>
(asI .i64 v35).bind fun n36 =>
(callF Try.prog 16 #[.pointer none, .int .i64 n30, .int .u64 n32, .int .i64 n34, .int .i64 n36] w28).bind fun r37 =>
(asTup 3 r37.1).bind fun l38 =>
(Ev.asAgg 7 (l38.getD 0 undef)).bind fun l39 =>
(asI .i64 (l39.getD 0 undef)).bind fun n40 =>
(asI .i64 (l39.getD 1 undef)).bind fun n41 =>
(asI .i64 (l39.getD 2 undef)).bind fun n42 =>
(asI .u64 (l39.getD 3 undef)).bind fun n43 =>
(asI .i64 (l39.getD 4 undef)).bind fun n44 =>
(asSl (l39.getD 5 undef)).bind fun q45 =>
(asB (l39.getD 6 undef)).bind fun b46 =>
(asB (l38.getD 1 undef)).bind fun b47 =>
(asI .i64 (l38.getD 2 undef)).bind fun n48 =>
(stL (World.alloc r37.2 (.cells #[.int .i64 0, .int .i64 0, .int .i64 0, .int .u64 0, .int .i64 0, .slice none 0 0, .bool false] 30)) (⟨r37.2.heap.size, 0, none⟩) [.int .i64 n40, .int .i64 n41, .int .i64 n42, .int .u64 n43, .int .i64 n44, .slice q45.1 q45.2.1 q45.2.2, .bool b46] 0).bind fun w49 =>
(World.cell? w49 (Addr.add (⟨w0.heap.size, 0, none⟩) 1)).bind fun v50 =>
(asI .i64 v50).bind fun n51 =>
(World.cell? w49 (Addr.add (⟨w0.heap.size, 0, none⟩) 5)).bind fun v52 =>
(asI .u64 v52).bind fun n53 =>
(World.cell? w49 (Addr.add (⟨w0.heap.size, 0, none⟩) 3)).bind fun v54 =>
(asI .i64 v54).bind fun n55 =>
(World.cell? w49 (Addr.add (⟨w0.heap.size, 0, none⟩) 6)).bind fun v56 =>
(asB v56).bind fun b57 =>
(callF Try.prog 18 #[.pointer none, .int .i64 n51, .int .u64 n53, .int .i64 n55, .bool b57] w49).bind fun r58 =>
(asTup 3 r58.1).bind fun l59 =>
(Ev.asAgg 7 (l59.getD 0 undef)).bind fun l60 =>
(asI .i64 (l60.getD 0 undef)).bind fun n61 =>
(asI .i64 (l60.getD 1 undef)).bind fun n62 =>
(asI .i64 (l60.getD 2 undef)).bind fun n63 =>
(asI .u64 (l60.getD 3 undef)).bind fun n64 =>
(asI .i64 (l60.getD 4 undef)).bind fun n65 =>
(asSl (l60.getD 5 undef)).bind fun q66 =>
(asB (l60.getD 6 undef)).bind fun b67 =>
(asB (l59.getD 1 undef)).bind fun b68 =>
(asI .i64 (l59.getD 2 undef)).bind fun n69 =>
(stL (World.alloc r58.2 (.cells #[.int .i64 0, .int .i64 0, .int .i64 0, .int .u64 0, .int .i64 0, .slice none 0 0, .bool false] 30)) (⟨r58.2.heap.size, 0, none⟩) [.int .i64 n61, .int .i64 n62, .int .i64 n63, .int .u64 n64, .int .i64 n65, .slice q66.1 q66.2.1 q66.2.2, .bool b67] 0).bind fun w70 =>
(World.cell? w70 (Addr.add (⟨w0.heap.size, 0, none⟩) 1)).bind fun v71 =>
(asI .i64 v71).bind fun n72 =>
(callF Try.prog 21 #[.pointer none, .int .i64 n72] w70).bind fun r73 =>
(Ev.asAgg 8 r73.1).bind fun l74 =>
(asI .i64 (l74.getD 0 undef)).bind fun n75 =>
(asI .i64 (l74.getD 1 undef)).bind fun n76 =>
(asI .u64 (l74.getD 2 undef)).bind fun n77 =>
(asI .i64 (l74.getD 3 undef)).bind fun n78 =>
(asSl (l74.getD 4 undef)).bind fun q79 =>
(asI .i64 (l74.getD 5 undef)).bind fun n80 =>
(asI .u64 (l74.getD 6 undef)).bind fun n81 =>
(asB (l74.getD 7 undef)).bind fun b82 =>
(stL (World.alloc r73.2 (.cells #[.int .i64 0, .int .i64 0, .int .u64 0, .int .i64 0, .slice none 0 0, .int .i64 0, .int .u64 0, .bool false] 46)) (⟨r73.2.heap.size, 0, none⟩) [.int .i64 n75, .int .i64 n76, .int .u64 n77, .int .i64 n78, .slice q79.1 q79.2.1 q79.2.2, .int .i64 n80, .int .u64 n81, .bool b82] 0).bind fun w83 =>
(callF Try.prog 11 #[] w83).bind fun r84 =>
(asB r84.1).bind fun b85 =>
if b85 = true then
((World.cell? r84.2 (⟨r16.2.heap.size, 0, none⟩)).bind fun v86 =>
(asI .i64 v86).bind fun n87 =>
(World.cell? r84.2 (⟨r37.2.heap.size, 0, none⟩)).bind fun v88 =>
(asI .i64 v88).bind fun n89 =>
(World.cell? r84.2 (⟨r58.2.heap.size, 0, none⟩)).bind fun v90 =>
(asI .i64 v90).bind fun n91 =>
if (((IntKind.i64.wrap ((IntKind.i64.wrap (n87 + n89)) + n91)) : Int) == 0) = true then
(if (!b26) = true then
(if (!b47) = true then
(if (!b68) = true then
(if ((n27 : Int) == 5) = true then
(if ((n48 : Int) == 5) = true then
(if ((n69 : Int) == 5) = true then
((callF Try.prog 25 #[.pointer none] r84.2).bind fun r92 =>
(asSl r92.1).bind fun q93 =>
if (((q93.2.1 : Int) : Int) == 0) = true then
((World.cell? r92.2 (⟨r73.2.heap.size, 0, none⟩)).bind fun v95 =>
(asI .i64 v95).bind fun n96 =>
if ((n96 : Int) == 0) = true then
((World.cell? r92.2 (Addr.add (⟨r73.2.heap.size, 0, none⟩) 3)).bind fun v97 =>
(asI .i64 v97).bind fun n98 =>
if ((n98 : Int) == 0) = true then
((World.cell? r92.2 (Addr.add (⟨r73.2.heap.size, 0, none⟩) 4)).bind fun v99 =>
(asSl v99).bind fun q100 =>
some (.bool (((q100.2.1 : Int) : Int) == 0), r92.2))
else
(some (.bool false, r92.2)))
else
(some (.bool false, r92.2)))
else
(some (.bool false, r92.2)))
else
(some (.bool false, r84.2)))
else
(some (.bool false, r84.2)))
else
(some (.bool false, r84.2)))
else
(some (.bool false, r84.2)))
else
(some (.bool false, r84.2)))
else
(some (.bool false, r84.2)))
else
(some (.bool false, r84.2)))
else
(some (.bool false, r84.2))

theorem g8_eq (u0c0 : Int) (u0c1 : Int) (u0c2 : Int) (u0c3 : Int) (u0c4 : Int) (u0c5 : Int) (u0c6 : Bool) (u0c7 : Bool) (u0c8 : Int) (u0c9 : Int) (u0c10 : Int) (u0c11 : Int) (u0c12 : Int) (u0c13 : Option Addr × Nat × Nat) (u0c14 : Bool) (w0 : World) : evFn Try.prog 8 g8_ann #[.agg #[.int .i64 u0c0, .int .i64 u0c1, .int .i64 u0c2, .int .i64 u0c3, .int .i64 u0c4, .int .u64 u0c5, .bool u0c6, .bool u0c7, .int .i64 u0c8, .int .i64 u0c9, .int .i64 u0c10, .int .u64 u0c11, .int .i64 u0c12, .slice u0c13.1 u0c13.2.1 u0c13.2.2, .bool u0c14]] w0 = g8 u0c0 u0c1 u0c2 u0c3 u0c4 u0c5 u0c6 u0c7 u0c8 u0c9 u0c10 u0c11 u0c12 u0c13 u0c14 w0 := by kernel_rfl

theorem g8_call {u0c0 : Int} {u0c1 : Int} {u0c2 : Int} {u0c3 : Int} {u0c4 : Int} {u0c5 : Int} {u0c6 : Bool} {u0c7 : Bool} {u0c8 : Int} {u0c9 : Int} {u0c10 : Int} {u0c11 : Int} {u0c12 : Int} {u0c13 : Option Addr × Nat × Nat} {u0c14 : Bool} {w0 : World} {r : Value × World} (h : g8 u0c0 u0c1 u0c2 u0c3 u0c4 u0c5 u0c6 u0c7 u0c8 u0c9 u0c10 u0c11 u0c12 u0c13 u0c14 w0 = some r) : callF Try.prog 8 #[.agg #[.int .i64 u0c0, .int .i64 u0c1, .int .i64 u0c2, .int .i64 u0c3, .int .i64 u0c4, .int .u64 u0c5, .bool u0c6, .bool u0c7, .int .i64 u0c8, .int .i64 u0c9, .int .i64 u0c10, .int .u64 u0c11, .int .i64 u0c12, .slice u0c13.1 u0c13.2.1 u0c13.2.2, .bool u0c14]] w0 = some r :=
  callF_of_evFn (ann := g8_ann) Try.call8 (by kernel_rfl) ((g8_eq u0c0 u0c1 u0c2 u0c3 u0c4 u0c5 u0c6 u0c7 u0c8 u0c9 u0c10 u0c11 u0c12 u0c13 u0c14 w0).trans h)

end Go.Proofs.Ytlcojbodcbjkaaa
