/-
  TxnL9: lemmas on what Go functions of this seat come to (for whatever arguments, as each says). No condition but those that stand in each lemma.
-/
import Derived.Test.YtlcojbodcbjkaaaTxnF0
import Derived.Test.YtlcojbodcbjkaaaTxnV
namespace Go.Proofs.Ytlcojbodcbjkaaa
open Go Go.Ev
set_option maxRecDepth 100000
set_option linter.unusedVariables false
/-! 9: penstock/penstocklaw15.TxnRecords (r: api.TxRec, text: []uint8) -/
def g9_ann : List (List Nat × List Nat) := []

noncomputable def g9_j77 (u1 : Option Addr × Nat × Nat) (n23 : Int) (r13 : Value × World) (w108 : World) : Option (Value × World) :=
(callB Try.prog .append #[58, 58] 58 #[false, false] #[.slice (some (⟨w108.heap.size, 0, none⟩)) 0 0, .slice u1.1 u1.2.1 u1.2.2] (World.alloc w108 (.cells #[] 5))).bind fun r109 =>
(asSl r109.1).bind fun q110 =>
(callF Try.prog 31 #[.slice q110.1 q110.2.1 q110.2.2] r109.2).bind fun r111 =>
(asTup 2 r111.1).bind fun l112 =>
(Ev.asAgg 7 (l112.getD 0 undef)).bind fun l113 =>
(asI .i64 (l113.getD 0 undef)).bind fun n114 =>
(asI .i64 (l113.getD 1 undef)).bind fun n115 =>
(asI .i64 (l113.getD 2 undef)).bind fun n116 =>
(asI .u64 (l113.getD 3 undef)).bind fun n117 =>
(asI .i64 (l113.getD 4 undef)).bind fun n118 =>
(asSl (l113.getD 5 undef)).bind fun q119 =>
(asB (l113.getD 6 undef)).bind fun b120 =>
(asI .i64 (l112.getD 1 undef)).bind fun n121 =>
(stL (World.alloc r111.2 (.cells #[.int .i64 0, .int .i64 0, .int .i64 0, .int .u64 0, .int .i64 0, .slice none 0 0, .bool false] 30)) (⟨r111.2.heap.size, 0, none⟩) [.int .i64 n114, .int .i64 n115, .int .i64 n116, .int .u64 n117, .int .i64 n118, .slice q119.1 q119.2.1 q119.2.2, .bool b120] 0).bind fun w122 =>
if ((n121 : Int) == n23) = true then
((ldN w122 (⟨r111.2.heap.size, 0, none⟩) 0 7).bind fun l123 =>
(asI .i64 (l123.getD 0 undef)).bind fun n124 =>
(asI .i64 (l123.getD 1 undef)).bind fun n125 =>
(asI .i64 (l123.getD 2 undef)).bind fun n126 =>
(asI .u64 (l123.getD 3 undef)).bind fun n127 =>
(asI .i64 (l123.getD 4 undef)).bind fun n128 =>
(asSl (l123.getD 5 undef)).bind fun q129 =>
(asB (l123.getD 6 undef)).bind fun b130 =>
(ldN w122 (⟨r13.2.heap.size, 0, none⟩) 0 7).bind fun l131 =>
(asI .i64 (l131.getD 0 undef)).bind fun n132 =>
(asI .i64 (l131.getD 1 undef)).bind fun n133 =>
(asI .i64 (l131.getD 2 undef)).bind fun n134 =>
(asI .u64 (l131.getD 3 undef)).bind fun n135 =>
(asI .i64 (l131.getD 4 undef)).bind fun n136 =>
(asSl (l131.getD 5 undef)).bind fun q137 =>
(asB (l131.getD 6 undef)).bind fun b138 =>
(callF Try.prog 20 #[.agg #[.int .i64 n124, .int .i64 n125, .int .i64 n126, .int .u64 n127, .int .i64 n128, .slice q129.1 q129.2.1 q129.2.2, .bool b130], .agg #[.int .i64 n132, .int .i64 n133, .int .i64 n134, .int .u64 n135, .int .i64 n136, .slice q137.1 q137.2.1 q137.2.2, .bool b138]] w122).bind fun r139 =>
(asB r139.1).bind fun b140 =>
if b140 = true then
((callF Try.prog 30 #[.slice q110.1 q110.2.1 q110.2.2, .slice u1.1 u1.2.1 u1.2.2] r139.2).bind fun r141 =>
(asB r141.1).bind fun b142 =>
some (.bool b142, r141.2))
else
(some (.bool false, r139.2)))
else
(some (.bool false, w122))

noncomputable def g9 (u0c0 : Int) (u0c1 : Int) (u0c2 : Int) (u0c3 : Int) (u0c4 : Int) (u0c5 : Option Addr × Nat × Nat) (u0c6 : Bool) (u1 : Option Addr × Nat × Nat) (w0 : World) : Option (Value × World) :=
(ldN (World.alloc w0 (.cells #[.int .i64 u0c0, .int .i64 u0c1, .int .i64 u0c2, .int .u64 u0c3, .int .i64 u0c4, .slice u0c5.1 u0c5.2.1 u0c5.2.2, .bool u0c6] 30)) (⟨w0.heap.size, 0, none⟩) 0 7).bind fun l1 =>
(asI .i64 (l1.getD 0 undef)).bind fun n2 =>
(asI .i64 (l1.getD 1 undef)).bind fun n3 =>
(asI .i64 (l1.getD 2 undef)).bind fun n4 =>
(asI .u64 (l1.getD 3 undef)).bind fun n5 =>
(asI .i64 (l1.getD 4 undef)).bind fun n6 =>
(asSl (l1.getD 5 undef)).bind fun q7 =>
(asB (l1.getD 6 undef)).bind fun b8 =>
(callF Try.prog 27 #[.agg #[.int .i64 n2, .int .i64 n3, .int .i64 n4, .int .u64 n5, .int .i64 n6, .slice q7.1 q7.2.1 q7.2.2, .bool b8]] (World.alloc w0 (.cells #[.int .i64 u0c0, .int .i64 u0c1, .int .i64 u0c2, .int .u64 u0c3, .int .i64 u0c4, .slice u0c5.1 u0c5.2.1 u0c5.2.2, .bool u0c6] 30))).bind fun r9 =>
(asTup 2 r9.1).bind fun l10 =>
(asSl (l10.getD 0 undef)).bind fun q11 =>
(asI .i64 (l10.getD 1 undef)).bind fun n12 =>
(callF Try.prog 28 #[.slice u1.1 u1.2.1 u1.2.2] r9.2).bind fun r13 =>
(asTup 2 r13.1).bind fun l14 =>
(Ev.asAgg 7 (l14.getD 0 undef)).bind fun l15 =>
(asI .i64 (l15.getD 0 undef)).bind fun n16 =>
(asI .i64 (l15.getD 1 undef)).bind fun n17 =>
(asI .i64 (l15.getD 2 undef)).bind fun n18 =>
(asI .u64 (l15.getD 3 undef)).bind fun n19 =>
(asI .i64 (l15.getD 4 undef)).bind fun n20 =>
(asSl (l15.getD 5 undef)).bind fun q21 =>
(asB (l15.getD 6 undef)).bind fun b22 =>
(asI .i64 (l14.getD 1 undef)).bind fun n23 =>
(stL (World.alloc r13.2 (.cells #[.int .i64 0, .int .i64 0, .int .i64 0, .int .u64 0, .int .i64 0, .slice none 0 0, .bool false] 30)) (⟨r13.2.heap.size, 0, none⟩) [.int .i64 n16, .int .i64 n17, .int .i64 n18, .int .u64 n19, .int .i64 n20, .slice q21.1 q21.2.1 q21.2.2, .bool b22] 0).bind fun w24 =>
(callF Try.prog 11 #[] w24).bind fun r25 =>
(asB r25.1).bind fun b26 =>
if (!b26) = true then
(some (.bool false, r25.2))
else
((ldN r25.2 (⟨w0.heap.size, 0, none⟩) 0 7).bind fun l27 =>
(asI .i64 (l27.getD 0 undef)).bind fun n28 =>
(asI .i64 (l27.getD 1 undef)).bind fun n29 =>
(asI .i64 (l27.getD 2 undef)).bind fun n30 =>
(asI .u64 (l27.getD 3 undef)).bind fun n31 =>
(asI .i64 (l27.getD 4 undef)).bind fun n32 =>
(asSl (l27.getD 5 undef)).bind fun q33 =>
(asB (l27.getD 6 undef)).bind fun b34 =>
(callF Try.prog 12 #[.agg #[.int .i64 n28, .int .i64 n29, .int .i64 n30, .int .u64 n31, .int .i64 n32, .slice q33.1 q33.2.1 q33.2.2, .bool b34]] r25.2).bind fun r35 =>
(Ev.asAgg 7 r35.1).bind fun l36 =>
(asI .i64 (l36.getD 0 undef)).bind fun n37 =>
(asI .i64 (l36.getD 1 undef)).bind fun n38 =>
(asI .i64 (l36.getD 2 undef)).bind fun n39 =>
(asI .u64 (l36.getD 3 undef)).bind fun n40 =>
(asI .i64 (l36.getD 4 undef)).bind fun n41 =>
(asSl (l36.getD 5 undef)).bind fun q42 =>
(asB (l36.getD 6 undef)).bind fun b43 =>
(stL (World.alloc r35.2 (.cells #[.int .i64 0, .int .i64 0, .int .i64 0, .int .u64 0, .int .i64 0, .slice none 0 0, .bool false] 30)) (⟨r35.2.heap.size, 0, none⟩) [.int .i64 n37, .int .i64 n38, .int .i64 n39, .int .u64 n40, .int .i64 n41, .slice q42.1 q42.2.1 q42.2.2, .bool b43] 0).bind fun w44 =>
(ldN w44 (⟨r35.2.heap.size, 0, none⟩) 0 7).bind fun l45 =>
(asI .i64 (l45.getD 0 undef)).bind fun n46 =>
(asI .i64 (l45.getD 1 undef)).bind fun n47 =>
(asI .i64 (l45.getD 2 undef)).bind fun n48 =>
(asI .u64 (l45.getD 3 undef)).bind fun n49 =>
(asI .i64 (l45.getD 4 undef)).bind fun n50 =>
(asSl (l45.getD 5 undef)).bind fun q51 =>
(asB (l45.getD 6 undef)).bind fun b52 =>
(callF Try.prog 29 #[.agg #[.int .i64 n46, .int .i64 n47, .int .i64 n48, .int .u64 n49, .int .i64 n50, .slice q51.1 q51.2.1 q51.2.2, .bool b52]] w44).bind fun r53 =>
(asTup 2 r53.1).bind fun l54 =>
(asSl (l54.getD 0 undef)).bind fun q55 =>
(asI .i64 (l54.getD 1 undef)).bind fun n56 =>
if ((n56 : Int) != n12) = true then
(some (.bool false, r53.2))
else
((callF Try.prog 30 #[.slice q55.1 q55.2.1 q55.2.2, .slice q11.1 q11.2.1 q11.2.2] r53.2).bind fun r57 =>
(asB r57.1).bind fun b58 =>
if (!b58) = true then
(some (.bool false, r57.2))
else
((ldN r57.2 (⟨r35.2.heap.size, 0, none⟩) 0 7).bind fun l59 =>
(asI .i64 (l59.getD 0 undef)).bind fun n60 =>
(asI .i64 (l59.getD 1 undef)).bind fun n61 =>
(asI .i64 (l59.getD 2 undef)).bind fun n62 =>
(asI .u64 (l59.getD 3 undef)).bind fun n63 =>
(asI .i64 (l59.getD 4 undef)).bind fun n64 =>
(asSl (l59.getD 5 undef)).bind fun q65 =>
(asB (l59.getD 6 undef)).bind fun b66 =>
(ldN r57.2 (⟨w0.heap.size, 0, none⟩) 0 7).bind fun l67 =>
(asI .i64 (l67.getD 0 undef)).bind fun n68 =>
(asI .i64 (l67.getD 1 undef)).bind fun n69 =>
(asI .i64 (l67.getD 2 undef)).bind fun n70 =>
(asI .u64 (l67.getD 3 undef)).bind fun n71 =>
(asI .i64 (l67.getD 4 undef)).bind fun n72 =>
(asSl (l67.getD 5 undef)).bind fun q73 =>
(asB (l67.getD 6 undef)).bind fun b74 =>
(callF Try.prog 20 #[.agg #[.int .i64 n60, .int .i64 n61, .int .i64 n62, .int .u64 n63, .int .i64 n64, .slice q65.1 q65.2.1 q65.2.2, .bool b66], .agg #[.int .i64 n68, .int .i64 n69, .int .i64 n70, .int .u64 n71, .int .i64 n72, .slice q73.1 q73.2.1 q73.2.2, .bool b74]] r57.2).bind fun r75 =>
(asB r75.1).bind fun b76 =>
if (!b76) = true then
(some (.bool false, r75.2))
else
(if ((n56 : Int) == 0) = true then
((callF Try.prog 31 #[.slice q55.1 q55.2.1 q55.2.2] r75.2).bind fun r78 =>
(asTup 2 r78.1).bind fun l79 =>
(Ev.asAgg 7 (l79.getD 0 undef)).bind fun l80 =>
(asI .i64 (l80.getD 0 undef)).bind fun n81 =>
(asI .i64 (l80.getD 1 undef)).bind fun n82 =>
(asI .i64 (l80.getD 2 undef)).bind fun n83 =>
(asI .u64 (l80.getD 3 undef)).bind fun n84 =>
(asI .i64 (l80.getD 4 undef)).bind fun n85 =>
(asSl (l80.getD 5 undef)).bind fun q86 =>
(asB (l80.getD 6 undef)).bind fun b87 =>
(asI .i64 (l79.getD 1 undef)).bind fun n88 =>
(stL (World.alloc r78.2 (.cells #[.int .i64 0, .int .i64 0, .int .i64 0, .int .u64 0, .int .i64 0, .slice none 0 0, .bool false] 30)) (⟨r78.2.heap.size, 0, none⟩) [.int .i64 n81, .int .i64 n82, .int .i64 n83, .int .u64 n84, .int .i64 n85, .slice q86.1 q86.2.1 q86.2.2, .bool b87] 0).bind fun w89 =>
if ((n88 : Int) != 0) = true then
(some (.bool false, w89))
else
((ldN w89 (⟨r78.2.heap.size, 0, none⟩) 0 7).bind fun l90 =>
(asI .i64 (l90.getD 0 undef)).bind fun n91 =>
(asI .i64 (l90.getD 1 undef)).bind fun n92 =>
(asI .i64 (l90.getD 2 undef)).bind fun n93 =>
(asI .u64 (l90.getD 3 undef)).bind fun n94 =>
(asI .i64 (l90.getD 4 undef)).bind fun n95 =>
(asSl (l90.getD 5 undef)).bind fun q96 =>
(asB (l90.getD 6 undef)).bind fun b97 =>
(ldN w89 (⟨w0.heap.size, 0, none⟩) 0 7).bind fun l98 =>
(asI .i64 (l98.getD 0 undef)).bind fun n99 =>
(asI .i64 (l98.getD 1 undef)).bind fun n100 =>
(asI .i64 (l98.getD 2 undef)).bind fun n101 =>
(asI .u64 (l98.getD 3 undef)).bind fun n102 =>
(asI .i64 (l98.getD 4 undef)).bind fun n103 =>
(asSl (l98.getD 5 undef)).bind fun q104 =>
(asB (l98.getD 6 undef)).bind fun b105 =>
(callF Try.prog 20 #[.agg #[.int .i64 n91, .int .i64 n92, .int .i64 n93, .int .u64 n94, .int .i64 n95, .slice q96.1 q96.2.1 q96.2.2, .bool b97], .agg #[.int .i64 n99, .int .i64 n100, .int .i64 n101, .int .u64 n102, .int .i64 n103, .slice q104.1 q104.2.1 q104.2.2, .bool b105]] w89).bind fun r106 =>
(asB r106.1).bind fun b107 =>
if (!b107) = true then
(some (.bool false, r106.2))
else
(g9_j77 u1 n23 r13 r106.2)))
else
(g9_j77 u1 n23 r13 r75.2)))))

theorem g9_eq (u0c0 : Int) (u0c1 : Int) (u0c2 : Int) (u0c3 : Int) (u0c4 : Int) (u0c5 : Option Addr × Nat × Nat) (u0c6 : Bool) (u1 : Option Addr × Nat × Nat) (w0 : World) : evFn Try.prog 9 g9_ann #[.agg #[.int .i64 u0c0, .int .i64 u0c1, .int .i64 u0c2, .int .u64 u0c3, .int .i64 u0c4, .slice u0c5.1 u0c5.2.1 u0c5.2.2, .bool u0c6], .slice u1.1 u1.2.1 u1.2.2] w0 = g9 u0c0 u0c1 u0c2 u0c3 u0c4 u0c5 u0c6 u1 w0 := by kernel_rfl

theorem g9_call {u0c0 : Int} {u0c1 : Int} {u0c2 : Int} {u0c3 : Int} {u0c4 : Int} {u0c5 : Option Addr × Nat × Nat} {u0c6 : Bool} {u1 : Option Addr × Nat × Nat} {w0 : World} {r : Value × World} (h : g9 u0c0 u0c1 u0c2 u0c3 u0c4 u0c5 u0c6 u1 w0 = some r) : callF Try.prog 9 #[.agg #[.int .i64 u0c0, .int .i64 u0c1, .int .i64 u0c2, .int .u64 u0c3, .int .i64 u0c4, .slice u0c5.1 u0c5.2.1 u0c5.2.2, .bool u0c6], .slice u1.1 u1.2.1 u1.2.2] w0 = some r :=
  callF_of_evFn (ann := g9_ann) Try.call9 (by kernel_rfl) ((g9_eq u0c0 u0c1 u0c2 u0c3 u0c4 u0c5 u0c6 u1 w0).trans h)

end Go.Proofs.Ytlcojbodcbjkaaa
