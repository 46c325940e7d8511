/-
  TxnV3: lemmas on what Go functions of this seat come to (for whatever arguments, as each says). No condition but those that stand in each lemma.
-/
import Derived.Test.YtlcojbodcbjkaaaTxnF0
namespace Go.Proofs.Ytlcojbodcbjkaaa
open Go Go.Ev
set_option maxRecDepth 100000
set_option linter.unusedVariables false
/-! 12: penstock/penstocklaw15.own (r: api.TxRec) -/
def g12_ann : List (List Nat × List Nat) := []

noncomputable def g12 (u0c0 : Int) (u0c1 : Int) (u0c2 : Int) (u0c3 : Int) (u0c4 : Int) (u0c5 : Option Addr × Nat × Nat) (u0c6 : Bool) (w0 : World) : Option (Value × World) :=
(World.cell? (World.alloc (World.alloc (World.alloc w0 (.cells #[.int .i64 u0c0, .int .i64 u0c1, .int .i64 u0c2, .int .u64 u0c3, .int .i64 u0c4, .slice u0c5.1 u0c5.2.1 u0c5.2.2, .bool u0c6] 30)) (.cells #[.int .i64 0, .int .i64 0, .int .i64 0, .int .u64 0, .int .i64 0, .slice none 0 0, .bool false] 30)) (.cells #[] 3)) (Addr.add (⟨w0.heap.size, 0, none⟩) 5)).bind fun v1 =>
(asSl v1).bind fun q2 =>
(callB Try.prog .append #[28, 28] 28 #[false, false] #[.slice (some (⟨(World.alloc (World.alloc w0 (.cells #[.int .i64 u0c0, .int .i64 u0c1, .int .i64 u0c2, .int .u64 u0c3, .int .i64 u0c4, .slice u0c5.1 u0c5.2.1 u0c5.2.2, .bool u0c6] 30)) (.cells #[.int .i64 0, .int .i64 0, .int .i64 0, .int .u64 0, .int .i64 0, .slice none 0 0, .bool false] 30)).heap.size, 0, none⟩)) 0 0, .slice q2.1 q2.2.1 q2.2.2] (World.alloc (World.alloc (World.alloc w0 (.cells #[.int .i64 u0c0, .int .i64 u0c1, .int .i64 u0c2, .int .u64 u0c3, .int .i64 u0c4, .slice u0c5.1 u0c5.2.1 u0c5.2.2, .bool u0c6] 30)) (.cells #[.int .i64 0, .int .i64 0, .int .i64 0, .int .u64 0, .int .i64 0, .slice none 0 0, .bool false] 30)) (.cells #[] 3))).bind fun r3 =>
(asSl r3.1).bind fun q4 =>
(st1 r3.2 (Addr.add (⟨w0.heap.size, 0, none⟩) 5) (.slice q4.1 q4.2.1 q4.2.2)).bind fun w5 =>
(ldN w5 (⟨w0.heap.size, 0, none⟩) 0 7).bind fun l6 =>
(asI .i64 (l6.getD 0 undef)).bind fun n7 =>
(asI .i64 (l6.getD 1 undef)).bind fun n8 =>
(asI .i64 (l6.getD 2 undef)).bind fun n9 =>
(asI .u64 (l6.getD 3 undef)).bind fun n10 =>
(asI .i64 (l6.getD 4 undef)).bind fun n11 =>
(asSl (l6.getD 5 undef)).bind fun q12 =>
(asB (l6.getD 6 undef)).bind fun b13 =>
(stL w5 (⟨(World.alloc w0 (.cells #[.int .i64 u0c0, .int .i64 u0c1, .int .i64 u0c2, .int .u64 u0c3, .int .i64 u0c4, .slice u0c5.1 u0c5.2.1 u0c5.2.2, .bool u0c6] 30)).heap.size, 0, none⟩) [.int .i64 n7, .int .i64 n8, .int .i64 n9, .int .u64 n10, .int .i64 n11, .slice q12.1 q12.2.1 q12.2.2, .bool b13] 0).bind fun w14 =>
(ldN w14 (⟨(World.alloc w0 (.cells #[.int .i64 u0c0, .int .i64 u0c1, .int .i64 u0c2, .int .u64 u0c3, .int .i64 u0c4, .slice u0c5.1 u0c5.2.1 u0c5.2.2, .bool u0c6] 30)).heap.size, 0, none⟩) 0 7).bind fun l15 =>
(asI .i64 (l15.getD 0 undef)).bind fun n16 =>
(asI .i64 (l15.getD 1 undef)).bind fun n17 =>
(asI .i64 (l15.getD 2 undef)).bind fun n18 =>
(asI .u64 (l15.getD 3 undef)).bind fun n19 =>
(asI .i64 (l15.getD 4 undef)).bind fun n20 =>
(asSl (l15.getD 5 undef)).bind fun q21 =>
(asB (l15.getD 6 undef)).bind fun b22 =>
some (.agg #[.int .i64 n16, .int .i64 n17, .int .i64 n18, .int .u64 n19, .int .i64 n20, .slice q21.1 q21.2.1 q21.2.2, .bool b22], w14)

theorem g12_eq (u0c0 : Int) (u0c1 : Int) (u0c2 : Int) (u0c3 : Int) (u0c4 : Int) (u0c5 : Option Addr × Nat × Nat) (u0c6 : Bool) (w0 : World) : evFn Try.prog 12 g12_ann #[.agg #[.int .i64 u0c0, .int .i64 u0c1, .int .i64 u0c2, .int .u64 u0c3, .int .i64 u0c4, .slice u0c5.1 u0c5.2.1 u0c5.2.2, .bool u0c6]] w0 = g12 u0c0 u0c1 u0c2 u0c3 u0c4 u0c5 u0c6 w0 := by kernel_rfl

theorem g12_call {u0c0 : Int} {u0c1 : Int} {u0c2 : Int} {u0c3 : Int} {u0c4 : Int} {u0c5 : Option Addr × Nat × Nat} {u0c6 : Bool} {w0 : World} {r : Value × World} (h : g12 u0c0 u0c1 u0c2 u0c3 u0c4 u0c5 u0c6 w0 = some r) : callF Try.prog 12 #[.agg #[.int .i64 u0c0, .int .i64 u0c1, .int .i64 u0c2, .int .u64 u0c3, .int .i64 u0c4, .slice u0c5.1 u0c5.2.1 u0c5.2.2, .bool u0c6]] w0 = some r :=
  callF_of_evFn (ann := g12_ann) Try.call12 (by kernel_rfl) ((g12_eq u0c0 u0c1 u0c2 u0c3 u0c4 u0c5 u0c6 w0).trans h)

/-! 15: penstock/penstockref15.Init (l: []api.TxRec, n: int, inc: int, pid: uint64) -/
def g15_ann : List (List Nat × List Nat) := []

noncomputable def g15 (u0 : Option Addr × Nat × Nat) (u1 : Int) (u2 : Int) (u3 : Int) (w0 : World) : Option (Value × World) :=
if (decide ((u1 : Int) < 0)) = true then
((stL (World.alloc w0 (.cells #[.int .i64 0, .int .i64 0, .int .i64 0, .int .u64 0, .int .i64 0, .slice none 0 0, .bool false] 30)) (⟨w0.heap.size, 0, none⟩) [.int .i64 0, .int .i64 0, .int .i64 0, .int .u64 0, .int .i64 0, .slice none 0 0, .bool false] 0).bind fun w1 =>
(ldN w1 (⟨w0.heap.size, 0, none⟩) 0 7).bind fun l2 =>
(asI .i64 (l2.getD 0 undef)).bind fun n3 =>
(asI .i64 (l2.getD 1 undef)).bind fun n4 =>
(asI .i64 (l2.getD 2 undef)).bind fun n5 =>
(asI .u64 (l2.getD 3 undef)).bind fun n6 =>
(asI .i64 (l2.getD 4 undef)).bind fun n7 =>
(asSl (l2.getD 5 undef)).bind fun q8 =>
(asB (l2.getD 6 undef)).bind fun b9 =>
some (.tuple #[.agg #[.int .i64 n3, .int .i64 n4, .int .i64 n5, .int .u64 n6, .int .i64 n7, .slice q8.1 q8.2.1 q8.2.2, .bool b9], .bool false, .int .i64 1], w1))
else
(if (decide ((u1 : Int) > 7)) = true then
((stL (World.alloc w0 (.cells #[.int .i64 0, .int .i64 0, .int .i64 0, .int .u64 0, .int .i64 0, .slice none 0 0, .bool false] 30)) (⟨w0.heap.size, 0, none⟩) [.int .i64 0, .int .i64 0, .int .i64 0, .int .u64 0, .int .i64 0, .slice none 0 0, .bool false] 0).bind fun w10 =>
(ldN w10 (⟨w0.heap.size, 0, none⟩) 0 7).bind fun l11 =>
(asI .i64 (l11.getD 0 undef)).bind fun n12 =>
(asI .i64 (l11.getD 1 undef)).bind fun n13 =>
(asI .i64 (l11.getD 2 undef)).bind fun n14 =>
(asI .u64 (l11.getD 3 undef)).bind fun n15 =>
(asI .i64 (l11.getD 4 undef)).bind fun n16 =>
(asSl (l11.getD 5 undef)).bind fun q17 =>
(asB (l11.getD 6 undef)).bind fun b18 =>
some (.tuple #[.agg #[.int .i64 n12, .int .i64 n13, .int .i64 n14, .int .u64 n15, .int .i64 n16, .slice q17.1 q17.2.1 q17.2.2, .bool b18], .bool false, .int .i64 1], w10))
else
((callF Try.prog 23 #[.slice u0.1 u0.2.1 u0.2.2, .int .i64 u1] (World.alloc w0 (.cells #[.int .i64 0, .int .i64 0, .int .i64 0, .int .u64 0, .int .i64 0, .slice none 0 0, .bool false] 30))).bind fun r19 =>
(Ev.asAgg 8 r19.1).bind fun l20 =>
(asI .i64 (l20.getD 0 undef)).bind fun n21 =>
(asI .i64 (l20.getD 1 undef)).bind fun n22 =>
(asI .u64 (l20.getD 2 undef)).bind fun n23 =>
(asI .i64 (l20.getD 3 undef)).bind fun n24 =>
(asSl (l20.getD 4 undef)).bind fun q25 =>
(asI .i64 (l20.getD 5 undef)).bind fun n26 =>
(asI .u64 (l20.getD 6 undef)).bind fun n27 =>
(asB (l20.getD 7 undef)).bind fun b28 =>
(stL (World.alloc r19.2 (.cells #[.int .i64 0, .int .i64 0, .int .u64 0, .int .i64 0, .slice none 0 0, .int .i64 0, .int .u64 0, .bool false] 46)) (⟨r19.2.heap.size, 0, none⟩) [.int .i64 n21, .int .i64 n22, .int .u64 n23, .int .i64 n24, .slice q25.1 q25.2.1 q25.2.2, .int .i64 n26, .int .u64 n27, .bool b28] 0).bind fun w29 =>
(World.cell? w29 (⟨r19.2.heap.size, 0, none⟩)).bind fun v30 =>
(asI .i64 v30).bind fun n31 =>
if ((n31 : Int) == 0) = true then
(if ((u3 : Int) == 0) = true then
((stL w29 (⟨w0.heap.size, 0, none⟩) [.int .i64 0, .int .i64 0, .int .i64 0, .int .u64 0, .int .i64 0, .slice none 0 0, .bool false] 0).bind fun w32 =>
(ldN w32 (⟨w0.heap.size, 0, none⟩) 0 7).bind fun l33 =>
(asI .i64 (l33.getD 0 undef)).bind fun n34 =>
(asI .i64 (l33.getD 1 undef)).bind fun n35 =>
(asI .i64 (l33.getD 2 undef)).bind fun n36 =>
(asI .u64 (l33.getD 3 undef)).bind fun n37 =>
(asI .i64 (l33.getD 4 undef)).bind fun n38 =>
(asSl (l33.getD 5 undef)).bind fun q39 =>
(asB (l33.getD 6 undef)).bind fun b40 =>
some (.tuple #[.agg #[.int .i64 n34, .int .i64 n35, .int .i64 n36, .int .u64 n37, .int .i64 n38, .slice q39.1 q39.2.1 q39.2.2, .bool b40], .bool false, .int .i64 16], w32))
else
((stL w29 (⟨w0.heap.size, 0, none⟩) [.int .i64 1, .int .i64 u1, .int .i64 u2, .int .u64 u3, .int .i64 0, .slice none 0 0, .bool false] 0).bind fun w41 =>
(ldN w41 (⟨w0.heap.size, 0, none⟩) 0 7).bind fun l42 =>
(asI .i64 (l42.getD 0 undef)).bind fun n43 =>
(asI .i64 (l42.getD 1 undef)).bind fun n44 =>
(asI .i64 (l42.getD 2 undef)).bind fun n45 =>
(asI .u64 (l42.getD 3 undef)).bind fun n46 =>
(asI .i64 (l42.getD 4 undef)).bind fun n47 =>
(asSl (l42.getD 5 undef)).bind fun q48 =>
(asB (l42.getD 6 undef)).bind fun b49 =>
some (.tuple #[.agg #[.int .i64 n43, .int .i64 n44, .int .i64 n45, .int .u64 n46, .int .i64 n47, .slice q48.1 q48.2.1 q48.2.2, .bool b49], .bool true, .int .i64 0], w41)))
else
((World.cell? w29 (Addr.add (⟨r19.2.heap.size, 0, none⟩) 1)).bind fun v50 =>
(asI .i64 v50).bind fun n51 =>
if (decide ((u2 : Int) < n51)) = true then
((stL w29 (⟨w0.heap.size, 0, none⟩) [.int .i64 0, .int .i64 0, .int .i64 0, .int .u64 0, .int .i64 0, .slice none 0 0, .bool false] 0).bind fun w52 =>
(ldN w52 (⟨w0.heap.size, 0, none⟩) 0 7).bind fun l53 =>
(asI .i64 (l53.getD 0 undef)).bind fun n54 =>
(asI .i64 (l53.getD 1 undef)).bind fun n55 =>
(asI .i64 (l53.getD 2 undef)).bind fun n56 =>
(asI .u64 (l53.getD 3 undef)).bind fun n57 =>
(asI .i64 (l53.getD 4 undef)).bind fun n58 =>
(asSl (l53.getD 5 undef)).bind fun q59 =>
(asB (l53.getD 6 undef)).bind fun b60 =>
some (.tuple #[.agg #[.int .i64 n54, .int .i64 n55, .int .i64 n56, .int .u64 n57, .int .i64 n58, .slice q59.1 q59.2.1 q59.2.2, .bool b60], .bool false, .int .i64 10], w52))
else
((World.cell? w29 (⟨r19.2.heap.size, 0, none⟩)).bind fun v61 =>
(asI .i64 v61).bind fun n62 =>
if ((n62 : Int) == 3) = true then
((stL w29 (⟨w0.heap.size, 0, none⟩) [.int .i64 0, .int .i64 0, .int .i64 0, .int .u64 0, .int .i64 0, .slice none 0 0, .bool false] 0).bind fun w63 =>
(ldN w63 (⟨w0.heap.size, 0, none⟩) 0 7).bind fun l64 =>
(asI .i64 (l64.getD 0 undef)).bind fun n65 =>
(asI .i64 (l64.getD 1 undef)).bind fun n66 =>
(asI .i64 (l64.getD 2 undef)).bind fun n67 =>
(asI .u64 (l64.getD 3 undef)).bind fun n68 =>
(asI .i64 (l64.getD 4 undef)).bind fun n69 =>
(asSl (l64.getD 5 undef)).bind fun q70 =>
(asB (l64.getD 6 undef)).bind fun b71 =>
some (.tuple #[.agg #[.int .i64 n65, .int .i64 n66, .int .i64 n67, .int .u64 n68, .int .i64 n69, .slice q70.1 q70.2.1 q70.2.2, .bool b71], .bool false, .int .i64 16], w63))
else
((World.cell? w29 (Addr.add (⟨r19.2.heap.size, 0, none⟩) 1)).bind fun v72 =>
(asI .i64 v72).bind fun n73 =>
if ((u2 : Int) == n73) = true then
((stL w29 (⟨w0.heap.size, 0, none⟩) [.int .i64 0, .int .i64 0, .int .i64 0, .int .u64 0, .int .i64 0, .slice none 0 0, .bool false] 0).bind fun w74 =>
(ldN w74 (⟨w0.heap.size, 0, none⟩) 0 7).bind fun l75 =>
(asI .i64 (l75.getD 0 undef)).bind fun n76 =>
(asI .i64 (l75.getD 1 undef)).bind fun n77 =>
(asI .i64 (l75.getD 2 undef)).bind fun n78 =>
(asI .u64 (l75.getD 3 undef)).bind fun n79 =>
(asI .i64 (l75.getD 4 undef)).bind fun n80 =>
(asSl (l75.getD 5 undef)).bind fun q81 =>
(asB (l75.getD 6 undef)).bind fun b82 =>
some (.tuple #[.agg #[.int .i64 n76, .int .i64 n77, .int .i64 n78, .int .u64 n79, .int .i64 n80, .slice q81.1 q81.2.1 q81.2.2, .bool b82], .bool false, .int .i64 0], w74))
else
((World.cell? w29 (⟨r19.2.heap.size, 0, none⟩)).bind fun v83 =>
(asI .i64 v83).bind fun n84 =>
if ((n84 : Int) == 2) = true then
((stL w29 (⟨w0.heap.size, 0, none⟩) [.int .i64 3, .int .i64 u1, .int .i64 0, .int .u64 0, .int .i64 0, .slice none 0 0, .bool false] 0).bind fun w85 =>
(ldN w85 (⟨w0.heap.size, 0, none⟩) 0 7).bind fun l86 =>
(asI .i64 (l86.getD 0 undef)).bind fun n87 =>
(asI .i64 (l86.getD 1 undef)).bind fun n88 =>
(asI .i64 (l86.getD 2 undef)).bind fun n89 =>
(asI .u64 (l86.getD 3 undef)).bind fun n90 =>
(asI .i64 (l86.getD 4 undef)).bind fun n91 =>
(asSl (l86.getD 5 undef)).bind fun q92 =>
(asB (l86.getD 6 undef)).bind fun b93 =>
some (.tuple #[.agg #[.int .i64 n87, .int .i64 n88, .int .i64 n89, .int .u64 n90, .int .i64 n91, .slice q92.1 q92.2.1 q92.2.2, .bool b93], .bool true, .int .i64 16], w85))
else
((World.cell? w29 (Addr.add (⟨r19.2.heap.size, 0, none⟩) 3)).bind fun v94 =>
(asI .i64 v94).bind fun n95 =>
if (decide (((IntKind.i64.wrap (n95 + 2)) : Int) < 999)) = true then
((World.cell? w29 (Addr.add (⟨r19.2.heap.size, 0, none⟩) 2)).bind fun v96 =>
(asI .u64 v96).bind fun n97 =>
(World.cell? w29 (Addr.add (⟨r19.2.heap.size, 0, none⟩) 3)).bind fun v98 =>
(asI .i64 v98).bind fun n99 =>
(stL w29 (⟨w0.heap.size, 0, none⟩) [.int .i64 1, .int .i64 u1, .int .i64 u2, .int .u64 n97, .int .i64 (IntKind.i64.wrap (n99 + 2)), .slice none 0 0, .bool false] 0).bind fun w100 =>
(ldN w100 (⟨w0.heap.size, 0, none⟩) 0 7).bind fun l101 =>
(asI .i64 (l101.getD 0 undef)).bind fun n102 =>
(asI .i64 (l101.getD 1 undef)).bind fun n103 =>
(asI .i64 (l101.getD 2 undef)).bind fun n104 =>
(asI .u64 (l101.getD 3 undef)).bind fun n105 =>
(asI .i64 (l101.getD 4 undef)).bind fun n106 =>
(asSl (l101.getD 5 undef)).bind fun q107 =>
(asB (l101.getD 6 undef)).bind fun b108 =>
some (.tuple #[.agg #[.int .i64 n102, .int .i64 n103, .int .i64 n104, .int .u64 n105, .int .i64 n106, .slice q107.1 q107.2.1 q107.2.2, .bool b108], .bool true, .int .i64 0], w100))
else
(if ((u3 : Int) == 0) = true then
((stL w29 (⟨w0.heap.size, 0, none⟩) [.int .i64 0, .int .i64 0, .int .i64 0, .int .u64 0, .int .i64 0, .slice none 0 0, .bool false] 0).bind fun w109 =>
(ldN w109 (⟨w0.heap.size, 0, none⟩) 0 7).bind fun l110 =>
(asI .i64 (l110.getD 0 undef)).bind fun n111 =>
(asI .i64 (l110.getD 1 undef)).bind fun n112 =>
(asI .i64 (l110.getD 2 undef)).bind fun n113 =>
(asI .u64 (l110.getD 3 undef)).bind fun n114 =>
(asI .i64 (l110.getD 4 undef)).bind fun n115 =>
(asSl (l110.getD 5 undef)).bind fun q116 =>
(asB (l110.getD 6 undef)).bind fun b117 =>
some (.tuple #[.agg #[.int .i64 n111, .int .i64 n112, .int .i64 n113, .int .u64 n114, .int .i64 n115, .slice q116.1 q116.2.1 q116.2.2, .bool b117], .bool false, .int .i64 16], w109))
else
((stL w29 (⟨w0.heap.size, 0, none⟩) [.int .i64 1, .int .i64 u1, .int .i64 u2, .int .u64 u3, .int .i64 0, .slice none 0 0, .bool false] 0).bind fun w118 =>
(ldN w118 (⟨w0.heap.size, 0, none⟩) 0 7).bind fun l119 =>
(asI .i64 (l119.getD 0 undef)).bind fun n120 =>
(asI .i64 (l119.getD 1 undef)).bind fun n121 =>
(asI .i64 (l119.getD 2 undef)).bind fun n122 =>
(asI .u64 (l119.getD 3 undef)).bind fun n123 =>
(asI .i64 (l119.getD 4 undef)).bind fun n124 =>
(asSl (l119.getD 5 undef)).bind fun q125 =>
(asB (l119.getD 6 undef)).bind fun b126 =>
some (.tuple #[.agg #[.int .i64 n120, .int .i64 n121, .int .i64 n122, .int .u64 n123, .int .i64 n124, .slice q125.1 q125.2.1 q125.2.2, .bool b126], .bool true, .int .i64 0], w118))))))))))

theorem g15_eq (u0 : Option Addr × Nat × Nat) (u1 : Int) (u2 : Int) (u3 : Int) (w0 : World) : evFn Try.prog 15 g15_ann #[.slice u0.1 u0.2.1 u0.2.2, .int .i64 u1, .int .i64 u2, .int .u64 u3] w0 = g15 u0 u1 u2 u3 w0 := by kernel_rfl

theorem g15_call {u0 : Option Addr × Nat × Nat} {u1 : Int} {u2 : Int} {u3 : Int} {w0 : World} {r : Value × World} (h : g15 u0 u1 u2 u3 w0 = some r) : callF Try.prog 15 #[.slice u0.1 u0.2.1 u0.2.2, .int .i64 u1, .int .i64 u2, .int .u64 u3] w0 = some r :=
  callF_of_evFn (ann := g15_ann) Try.call15 (by kernel_rfl) ((g15_eq u0 u1 u2 u3 w0).trans h)

/-! 17: penstock/penstockref15.Add (l: []api.TxRec, n: int, pid: uint64, epoch: int, part: int) -/
def g17_ann : List (List Nat × List Nat) := [([0, 1, 0, 1, 1, 1, 1], [1, 4, 10, 13, 11, 12, 14])]

def g17_l85_cs (u1 : Int) (u4 : Int) (w0 : World) (r37 : Value × World) : List (Nat × Value) := ([(1, .int .i64 u1), (4, .int .i64 u4), (10, .pointer (some (⟨w0.heap.size, 0, none⟩))), (13, .pointer (some (⟨r37.2.heap.size, 0, none⟩)))] : List (Nat × Value))

/-- the round of a loop (penstock/penstockref15.Add) -/
noncomputable def g17_l85_b (r37 : Value × World) (u4 : Int) (w0 : World) (u1 : Int) (s86 : Bool × Int × Int) (w87 : World) : Option (Exit × (Bool × Int × Int) × World) :=
(World.cell? w87 (Addr.add (⟨r37.2.heap.size, 0, none⟩) 4)).bind fun v88 =>
(asSl v88).bind fun q89 =>
if (decide ((s86.2.2 : Int) < (q89.2.1 : Int))) = true then
((World.cell? w87 (Addr.add (⟨r37.2.heap.size, 0, none⟩) 4)).bind fun v91 =>
(asSl v91).bind fun q92 =>
(idxA q92.1 q92.2.1 1 s86.2.2).bind fun a93 =>
(World.cell? w87 a93).bind fun v94 =>
(asI .i64 v94).bind fun n95 =>
if ((n95 : Int) == u4) = true then
((stL w87 (⟨w0.heap.size, 0, none⟩) [.int .i64 0, .int .i64 0, .int .i64 0, .int .u64 0, .int .i64 0, .slice none 0 0, .bool false] 0).bind fun w96 =>
some (.ret, (false, 0, s86.2.2), w96))
else
(some (.normal, (s86.1, s86.2.1, (IntKind.i64.wrap (s86.2.2 + 1))), w87)))
else
(some ((.exit 1), (s86.1, s86.2.1, s86.2.2), w87))

noncomputable def g17_K97  : Exit → Env → World → Option (Value × World) :=
  retK Try.prog Try.f17.results.toList

noncomputable def g17_K98  : Exit → Env → World → Option (Value × World) :=
  seqK (ev Try.prog 74 17 g17_ann (cAt [1, 1, 1, 1, 1] (bodyOf Try.f17)) [1, 1, 1, 1, 1] g17_K97) g17_K97

noncomputable def g17_K99  : Exit → Env → World → Option (Value × World) :=
  blkK 1 g17_K98

/-- the loop, from a state on -/
noncomputable def g17_l85 (u1 : Int) (u4 : Int) (w0 : World) (r37 : Value × World) (s : Bool × Int × Int) (w : World) : Option (Value × World) :=
  loopM Try.prog 74 17 g17_ann (cAt [1, 1, 1, 1, 0, 1, 0, 0] (bodyOf Try.f17)) [0, 1, 0, 1, 1, 1, 1] g17_K99 ((g17_l85_cs u1 u4 w0 r37) ++ sputs [(11, .b), (12, .i .i64), (14, .i .i64)] s) w

/-- behind the loop, left by x1 -/
noncomputable def g17_l85_x1 (u4 : Int) (w0 : World) (u1 : Int) (t100 : Bool × Int × Int) (w101 : World) : Option (Value × World) :=
(stL (World.alloc w101 (.cells #[.int .i64 u4] 3)) (⟨w0.heap.size, 0, none⟩) [.int .i64 2, .int .i64 u1, .int .i64 0, .int .u64 0, .int .i64 0, .slice (some (⟨w101.heap.size, 0, none⟩)) 1 1, .bool false] 0).bind fun w102 =>
(ldN w102 (⟨w0.heap.size, 0, none⟩) 0 7).bind fun l103 =>
(asI .i64 (l103.getD 0 undef)).bind fun n104 =>
(asI .i64 (l103.getD 1 undef)).bind fun n105 =>
(asI .i64 (l103.getD 2 undef)).bind fun n106 =>
(asI .u64 (l103.getD 3 undef)).bind fun n107 =>
(asI .i64 (l103.getD 4 undef)).bind fun n108 =>
(asSl (l103.getD 5 undef)).bind fun q109 =>
(asB (l103.getD 6 undef)).bind fun b110 =>
some (.tuple #[.agg #[.int .i64 n104, .int .i64 n105, .int .i64 n106, .int .u64 n107, .int .i64 n108, .slice q109.1 q109.2.1 q109.2.2, .bool b110], .bool true, .int .i64 0], w102)

/-- behind the loop, left by ret -/
noncomputable def g17_l85_ret (w0 : World) (t111 : Bool × Int × Int) (w112 : World) : Option (Value × World) :=
(ldN w112 (⟨w0.heap.size, 0, none⟩) 0 7).bind fun l113 =>
(asI .i64 (l113.getD 0 undef)).bind fun n114 =>
(asI .i64 (l113.getD 1 undef)).bind fun n115 =>
(asI .i64 (l113.getD 2 undef)).bind fun n116 =>
(asI .u64 (l113.getD 3 undef)).bind fun n117 =>
(asI .i64 (l113.getD 4 undef)).bind fun n118 =>
(asSl (l113.getD 5 undef)).bind fun q119 =>
(asB (l113.getD 6 undef)).bind fun b120 =>
some (.tuple #[.agg #[.int .i64 n114, .int .i64 n115, .int .i64 n116, .int .u64 n117, .int .i64 n118, .slice q119.1 q119.2.1 q119.2.2, .bool b120], .bool t111.1, .int .i64 t111.2.1], w112)

noncomputable def g17_j48 (w47 : World) (w0 : World) (r37 : Value × World) (u3 : Int) (u1 : Int) (u4 : Int) (x55 : Bool) : Option (Value × World) :=
if x55 = true then
((stL w47 (⟨w0.heap.size, 0, none⟩) [.int .i64 0, .int .i64 0, .int .i64 0, .int .u64 0, .int .i64 0, .slice none 0 0, .bool false] 0).bind fun w56 =>
(ldN w56 (⟨w0.heap.size, 0, none⟩) 0 7).bind fun l57 =>
(asI .i64 (l57.getD 0 undef)).bind fun n58 =>
(asI .i64 (l57.getD 1 undef)).bind fun n59 =>
(asI .i64 (l57.getD 2 undef)).bind fun n60 =>
(asI .u64 (l57.getD 3 undef)).bind fun n61 =>
(asI .i64 (l57.getD 4 undef)).bind fun n62 =>
(asSl (l57.getD 5 undef)).bind fun q63 =>
(asB (l57.getD 6 undef)).bind fun b64 =>
some (.tuple #[.agg #[.int .i64 n58, .int .i64 n59, .int .i64 n60, .int .u64 n61, .int .i64 n62, .slice q63.1 q63.2.1 q63.2.2, .bool b64], .bool false, .int .i64 10], w56))
else
((World.cell? w47 (⟨r37.2.heap.size, 0, none⟩)).bind fun v65 =>
(asI .i64 v65).bind fun n66 =>
if ((n66 : Int) == 3) = true then
((stL w47 (⟨w0.heap.size, 0, none⟩) [.int .i64 0, .int .i64 0, .int .i64 0, .int .u64 0, .int .i64 0, .slice none 0 0, .bool false] 0).bind fun w67 =>
(ldN w67 (⟨w0.heap.size, 0, none⟩) 0 7).bind fun l68 =>
(asI .i64 (l68.getD 0 undef)).bind fun n69 =>
(asI .i64 (l68.getD 1 undef)).bind fun n70 =>
(asI .i64 (l68.getD 2 undef)).bind fun n71 =>
(asI .u64 (l68.getD 3 undef)).bind fun n72 =>
(asI .i64 (l68.getD 4 undef)).bind fun n73 =>
(asSl (l68.getD 5 undef)).bind fun q74 =>
(asB (l68.getD 6 undef)).bind fun b75 =>
some (.tuple #[.agg #[.int .i64 n69, .int .i64 n70, .int .i64 n71, .int .u64 n72, .int .i64 n73, .slice q74.1 q74.2.1 q74.2.2, .bool b75], .bool false, .int .i64 16], w67))
else
(if (decide ((u3 : Int) > 998)) = true then
((stL w47 (⟨w0.heap.size, 0, none⟩) [.int .i64 0, .int .i64 0, .int .i64 0, .int .u64 0, .int .i64 0, .slice none 0 0, .bool false] 0).bind fun w76 =>
(ldN w76 (⟨w0.heap.size, 0, none⟩) 0 7).bind fun l77 =>
(asI .i64 (l77.getD 0 undef)).bind fun n78 =>
(asI .i64 (l77.getD 1 undef)).bind fun n79 =>
(asI .i64 (l77.getD 2 undef)).bind fun n80 =>
(asI .u64 (l77.getD 3 undef)).bind fun n81 =>
(asI .i64 (l77.getD 4 undef)).bind fun n82 =>
(asSl (l77.getD 5 undef)).bind fun q83 =>
(asB (l77.getD 6 undef)).bind fun b84 =>
some (.tuple #[.agg #[.int .i64 n78, .int .i64 n79, .int .i64 n80, .int .u64 n81, .int .i64 n82, .slice q83.1 q83.2.1 q83.2.2, .bool b84], .bool false, .int .i64 17], w76))
else
(g17_l85 u1 u4 w0 r37 (false, 0, 0) w47)))

noncomputable def g17 (u0 : Option Addr × Nat × Nat) (u1 : Int) (u2 : Int) (u3 : Int) (u4 : Int) (w0 : World) : Option (Value × World) :=
if (decide ((u1 : Int) < 0)) = true then
((stL (World.alloc w0 (.cells #[.int .i64 0, .int .i64 0, .int .i64 0, .int .u64 0, .int .i64 0, .slice none 0 0, .bool false] 30)) (⟨w0.heap.size, 0, none⟩) [.int .i64 0, .int .i64 0, .int .i64 0, .int .u64 0, .int .i64 0, .slice none 0 0, .bool false] 0).bind fun w1 =>
(ldN w1 (⟨w0.heap.size, 0, none⟩) 0 7).bind fun l2 =>
(asI .i64 (l2.getD 0 undef)).bind fun n3 =>
(asI .i64 (l2.getD 1 undef)).bind fun n4 =>
(asI .i64 (l2.getD 2 undef)).bind fun n5 =>
(asI .u64 (l2.getD 3 undef)).bind fun n6 =>
(asI .i64 (l2.getD 4 undef)).bind fun n7 =>
(asSl (l2.getD 5 undef)).bind fun q8 =>
(asB (l2.getD 6 undef)).bind fun b9 =>
some (.tuple #[.agg #[.int .i64 n3, .int .i64 n4, .int .i64 n5, .int .u64 n6, .int .i64 n7, .slice q8.1 q8.2.1 q8.2.2, .bool b9], .bool false, .int .i64 1], w1))
else
(if (decide ((u1 : Int) > 7)) = true then
((stL (World.alloc w0 (.cells #[.int .i64 0, .int .i64 0, .int .i64 0, .int .u64 0, .int .i64 0, .slice none 0 0, .bool false] 30)) (⟨w0.heap.size, 0, none⟩) [.int .i64 0, .int .i64 0, .int .i64 0, .int .u64 0, .int .i64 0, .slice none 0 0, .bool false] 0).bind fun w10 =>
(ldN w10 (⟨w0.heap.size, 0, none⟩) 0 7).bind fun l11 =>
(asI .i64 (l11.getD 0 undef)).bind fun n12 =>
(asI .i64 (l11.getD 1 undef)).bind fun n13 =>
(asI .i64 (l11.getD 2 undef)).bind fun n14 =>
(asI .u64 (l11.getD 3 undef)).bind fun n15 =>
(asI .i64 (l11.getD 4 undef)).bind fun n16 =>
(asSl (l11.getD 5 undef)).bind fun q17 =>
(asB (l11.getD 6 undef)).bind fun b18 =>
some (.tuple #[.agg #[.int .i64 n12, .int .i64 n13, .int .i64 n14, .int .u64 n15, .int .i64 n16, .slice q17.1 q17.2.1 q17.2.2, .bool b18], .bool false, .int .i64 1], w10))
else
(if (decide ((u4 : Int) < 0)) = true then
((stL (World.alloc w0 (.cells #[.int .i64 0, .int .i64 0, .int .i64 0, .int .u64 0, .int .i64 0, .slice none 0 0, .bool false] 30)) (⟨w0.heap.size, 0, none⟩) [.int .i64 0, .int .i64 0, .int .i64 0, .int .u64 0, .int .i64 0, .slice none 0 0, .bool false] 0).bind fun w19 =>
(ldN w19 (⟨w0.heap.size, 0, none⟩) 0 7).bind fun l20 =>
(asI .i64 (l20.getD 0 undef)).bind fun n21 =>
(asI .i64 (l20.getD 1 undef)).bind fun n22 =>
(asI .i64 (l20.getD 2 undef)).bind fun n23 =>
(asI .u64 (l20.getD 3 undef)).bind fun n24 =>
(asI .i64 (l20.getD 4 undef)).bind fun n25 =>
(asSl (l20.getD 5 undef)).bind fun q26 =>
(asB (l20.getD 6 undef)).bind fun b27 =>
some (.tuple #[.agg #[.int .i64 n21, .int .i64 n22, .int .i64 n23, .int .u64 n24, .int .i64 n25, .slice q26.1 q26.2.1 q26.2.2, .bool b27], .bool false, .int .i64 1], w19))
else
(if (decide ((u4 : Int) > 5)) = true then
((stL (World.alloc w0 (.cells #[.int .i64 0, .int .i64 0, .int .i64 0, .int .u64 0, .int .i64 0, .slice none 0 0, .bool false] 30)) (⟨w0.heap.size, 0, none⟩) [.int .i64 0, .int .i64 0, .int .i64 0, .int .u64 0, .int .i64 0, .slice none 0 0, .bool false] 0).bind fun w28 =>
(ldN w28 (⟨w0.heap.size, 0, none⟩) 0 7).bind fun l29 =>
(asI .i64 (l29.getD 0 undef)).bind fun n30 =>
(asI .i64 (l29.getD 1 undef)).bind fun n31 =>
(asI .i64 (l29.getD 2 undef)).bind fun n32 =>
(asI .u64 (l29.getD 3 undef)).bind fun n33 =>
(asI .i64 (l29.getD 4 undef)).bind fun n34 =>
(asSl (l29.getD 5 undef)).bind fun q35 =>
(asB (l29.getD 6 undef)).bind fun b36 =>
some (.tuple #[.agg #[.int .i64 n30, .int .i64 n31, .int .i64 n32, .int .u64 n33, .int .i64 n34, .slice q35.1 q35.2.1 q35.2.2, .bool b36], .bool false, .int .i64 1], w28))
else
((callF Try.prog 23 #[.slice u0.1 u0.2.1 u0.2.2, .int .i64 u1] (World.alloc w0 (.cells #[.int .i64 0, .int .i64 0, .int .i64 0, .int .u64 0, .int .i64 0, .slice none 0 0, .bool false] 30))).bind fun r37 =>
(Ev.asAgg 8 r37.1).bind fun l38 =>
(asI .i64 (l38.getD 0 undef)).bind fun n39 =>
(asI .i64 (l38.getD 1 undef)).bind fun n40 =>
(asI .u64 (l38.getD 2 undef)).bind fun n41 =>
(asI .i64 (l38.getD 3 undef)).bind fun n42 =>
(asSl (l38.getD 4 undef)).bind fun q43 =>
(asI .i64 (l38.getD 5 undef)).bind fun n44 =>
(asI .u64 (l38.getD 6 undef)).bind fun n45 =>
(asB (l38.getD 7 undef)).bind fun b46 =>
(stL (World.alloc r37.2 (.cells #[.int .i64 0, .int .i64 0, .int .u64 0, .int .i64 0, .slice none 0 0, .int .i64 0, .int .u64 0, .bool false] 46)) (⟨r37.2.heap.size, 0, none⟩) [.int .i64 n39, .int .i64 n40, .int .u64 n41, .int .i64 n42, .slice q43.1 q43.2.1 q43.2.2, .int .i64 n44, .int .u64 n45, .bool b46] 0).bind fun w47 =>
(World.cell? w47 (⟨r37.2.heap.size, 0, none⟩)).bind fun v49 =>
(asI .i64 v49).bind fun n50 =>
if ((n50 : Int) == 0) = true then
(g17_j48 w47 w0 r37 u3 u1 u4 ((n50 : Int) == 0))
else
((World.cell? w47 (Addr.add (⟨r37.2.heap.size, 0, none⟩) 2)).bind fun v51 =>
(asI .u64 v51).bind fun n52 =>
if ((u2 : Int) != n52) = true then
(g17_j48 w47 w0 r37 u3 u1 u4 ((u2 : Int) != n52))
else
((World.cell? w47 (Addr.add (⟨r37.2.heap.size, 0, none⟩) 3)).bind fun v53 =>
(asI .i64 v53).bind fun n54 =>
g17_j48 w47 w0 r37 u3 u1 u4 ((u3 : Int) != n54)))))))

theorem g17_eq (u0 : Option Addr × Nat × Nat) (u1 : Int) (u2 : Int) (u3 : Int) (u4 : Int) (w0 : World) : evFn Try.prog 17 g17_ann #[.slice u0.1 u0.2.1 u0.2.2, .int .i64 u1, .int .u64 u2, .int .i64 u3, .int .i64 u4] w0 = g17 u0 u1 u2 u3 u4 w0 := by kernel_rfl

theorem g17_call {u0 : Option Addr × Nat × Nat} {u1 : Int} {u2 : Int} {u3 : Int} {u4 : Int} {w0 : World} {r : Value × World} (h : g17 u0 u1 u2 u3 u4 w0 = some r) : callF Try.prog 17 #[.slice u0.1 u0.2.1 u0.2.2, .int .i64 u1, .int .u64 u2, .int .i64 u3, .int .i64 u4] w0 = some r :=
  callF_of_evFn (ann := g17_ann) Try.call17 (by kernel_rfl) ((g17_eq u0 u1 u2 u3 u4 w0).trans h)

theorem g17_l85_x1_of {u1 : Int} {u4 : Int} {w0 : World} {r37 : Value × World} {s t : Bool × Int × Int} {w w' : World} (h : loopS (g17_l85_b r37 u4 w0 u1) s w = some (.exit 1, t, w')) : g17_l85 u1 u4 w0 r37 s w = g17_l85_x1 u4 w0 u1 t w' := by
  have h1 : g17_l85 u1 u4 w0 r37 s w = loopM Try.prog 74 17 g17_ann (cAt [1, 1, 1, 1, 0, 1, 0, 0] (bodyOf Try.f17)) [0, 1, 0, 1, 1, 1, 1] g17_K99 ((g17_l85_cs u1 u4 w0 r37) ++ sputs [(11, .b), (12, .i .i64), (14, .i .i64)] s) w := by kernel_rfl
  have h2 : loopM Try.prog 74 17 g17_ann (cAt [1, 1, 1, 1, 0, 1, 0, 0] (bodyOf Try.f17)) [0, 1, 0, 1, 1, 1, 1] g17_K99 ((g17_l85_cs u1 u4 w0 r37) ++ sputs [(11, .b), (12, .i .i64), (14, .i .i64)] s) w = g17_K99 (.exit 1) (puts 74 ((g17_l85_cs u1 u4 w0 r37) ++ sputs [(11, .b), (12, .i .i64), (14, .i .i64)] t)) w' :=
    loop_rule (P := Try.prog) (N := 74) (f := 17) (ann := g17_ann) (body := (cAt [1, 1, 1, 1, 0, 1, 0, 0] (bodyOf Try.f17))) (pt := [0, 1, 0, 1, 1, 1, 1]) (K := g17_K99) (g17_l85_cs u1 u4 w0 r37) [(11, .b), (12, .i .i64), (14, .i .i64)] (b := g17_l85_b r37 u4 w0 u1) (fun s w => by kernel_rfl) (by kernel_rfl) (by kernel_rfl) (by kernel_rfl) h
  have h3 : g17_K99 (.exit 1) (puts 74 ((g17_l85_cs u1 u4 w0 r37) ++ sputs [(11, .b), (12, .i .i64), (14, .i .i64)] t)) w' = g17_l85_x1 u4 w0 u1 t w' := by kernel_rfl
  exact h1.trans (h2.trans h3)

theorem g17_l85_ret_of {u1 : Int} {u4 : Int} {w0 : World} {r37 : Value × World} {s t : Bool × Int × Int} {w w' : World} (h : loopS (g17_l85_b r37 u4 w0 u1) s w = some (.ret, t, w')) : g17_l85 u1 u4 w0 r37 s w = g17_l85_ret w0 t w' := by
  have h1 : g17_l85 u1 u4 w0 r37 s w = loopM Try.prog 74 17 g17_ann (cAt [1, 1, 1, 1, 0, 1, 0, 0] (bodyOf Try.f17)) [0, 1, 0, 1, 1, 1, 1] g17_K99 ((g17_l85_cs u1 u4 w0 r37) ++ sputs [(11, .b), (12, .i .i64), (14, .i .i64)] s) w := by kernel_rfl
  have h2 : loopM Try.prog 74 17 g17_ann (cAt [1, 1, 1, 1, 0, 1, 0, 0] (bodyOf Try.f17)) [0, 1, 0, 1, 1, 1, 1] g17_K99 ((g17_l85_cs u1 u4 w0 r37) ++ sputs [(11, .b), (12, .i .i64), (14, .i .i64)] s) w = g17_K99 (.ret) (puts 74 ((g17_l85_cs u1 u4 w0 r37) ++ sputs [(11, .b), (12, .i .i64), (14, .i .i64)] t)) w' :=
    loop_rule (P := Try.prog) (N := 74) (f := 17) (ann := g17_ann) (body := (cAt [1, 1, 1, 1, 0, 1, 0, 0] (bodyOf Try.f17))) (pt := [0, 1, 0, 1, 1, 1, 1]) (K := g17_K99) (g17_l85_cs u1 u4 w0 r37) [(11, .b), (12, .i .i64), (14, .i .i64)] (b := g17_l85_b r37 u4 w0 u1) (fun s w => by kernel_rfl) (by kernel_rfl) (by kernel_rfl) (by kernel_rfl) h
  have h3 : g17_K99 (.ret) (puts 74 ((g17_l85_cs u1 u4 w0 r37) ++ sputs [(11, .b), (12, .i .i64), (14, .i .i64)] t)) w' = g17_l85_ret w0 t w' := by kernel_rfl
  exact h1.trans (h2.trans h3)

/-! 19: penstock/penstockref15.End (l: []api.TxRec, n: int, pid: uint64, epoch: int, commit: bool) -/
def g19_ann : List (List Nat × List Nat) := []

noncomputable def g19 (u0 : Option Addr × Nat × Nat) (u1 : Int) (u2 : Int) (u3 : Int) (u4 : Bool) (w0 : World) : Option (Value × World) :=
if (decide ((u1 : Int) < 0)) = true then
((stL (World.alloc w0 (.cells #[.int .i64 0, .int .i64 0, .int .i64 0, .int .u64 0, .int .i64 0, .slice none 0 0, .bool false] 30)) (⟨w0.heap.size, 0, none⟩) [.int .i64 0, .int .i64 0, .int .i64 0, .int .u64 0, .int .i64 0, .slice none 0 0, .bool false] 0).bind fun w1 =>
(ldN w1 (⟨w0.heap.size, 0, none⟩) 0 7).bind fun l2 =>
(asI .i64 (l2.getD 0 undef)).bind fun n3 =>
(asI .i64 (l2.getD 1 undef)).bind fun n4 =>
(asI .i64 (l2.getD 2 undef)).bind fun n5 =>
(asI .u64 (l2.getD 3 undef)).bind fun n6 =>
(asI .i64 (l2.getD 4 undef)).bind fun n7 =>
(asSl (l2.getD 5 undef)).bind fun q8 =>
(asB (l2.getD 6 undef)).bind fun b9 =>
some (.tuple #[.agg #[.int .i64 n3, .int .i64 n4, .int .i64 n5, .int .u64 n6, .int .i64 n7, .slice q8.1 q8.2.1 q8.2.2, .bool b9], .bool false, .int .i64 1], w1))
else
(if (decide ((u1 : Int) > 7)) = true then
((stL (World.alloc w0 (.cells #[.int .i64 0, .int .i64 0, .int .i64 0, .int .u64 0, .int .i64 0, .slice none 0 0, .bool false] 30)) (⟨w0.heap.size, 0, none⟩) [.int .i64 0, .int .i64 0, .int .i64 0, .int .u64 0, .int .i64 0, .slice none 0 0, .bool false] 0).bind fun w10 =>
(ldN w10 (⟨w0.heap.size, 0, none⟩) 0 7).bind fun l11 =>
(asI .i64 (l11.getD 0 undef)).bind fun n12 =>
(asI .i64 (l11.getD 1 undef)).bind fun n13 =>
(asI .i64 (l11.getD 2 undef)).bind fun n14 =>
(asI .u64 (l11.getD 3 undef)).bind fun n15 =>
(asI .i64 (l11.getD 4 undef)).bind fun n16 =>
(asSl (l11.getD 5 undef)).bind fun q17 =>
(asB (l11.getD 6 undef)).bind fun b18 =>
some (.tuple #[.agg #[.int .i64 n12, .int .i64 n13, .int .i64 n14, .int .u64 n15, .int .i64 n16, .slice q17.1 q17.2.1 q17.2.2, .bool b18], .bool false, .int .i64 1], w10))
else
((callF Try.prog 23 #[.slice u0.1 u0.2.1 u0.2.2, .int .i64 u1] (World.alloc w0 (.cells #[.int .i64 0, .int .i64 0, .int .i64 0, .int .u64 0, .int .i64 0, .slice none 0 0, .bool false] 30))).bind fun r19 =>
(Ev.asAgg 8 r19.1).bind fun l20 =>
(asI .i64 (l20.getD 0 undef)).bind fun n21 =>
(asI .i64 (l20.getD 1 undef)).bind fun n22 =>
(asI .u64 (l20.getD 2 undef)).bind fun n23 =>
(asI .i64 (l20.getD 3 undef)).bind fun n24 =>
(asSl (l20.getD 4 undef)).bind fun q25 =>
(asI .i64 (l20.getD 5 undef)).bind fun n26 =>
(asI .u64 (l20.getD 6 undef)).bind fun n27 =>
(asB (l20.getD 7 undef)).bind fun b28 =>
(stL (World.alloc r19.2 (.cells #[.int .i64 0, .int .i64 0, .int .u64 0, .int .i64 0, .slice none 0 0, .int .i64 0, .int .u64 0, .bool false] 46)) (⟨r19.2.heap.size, 0, none⟩) [.int .i64 n21, .int .i64 n22, .int .u64 n23, .int .i64 n24, .slice q25.1 q25.2.1 q25.2.2, .int .i64 n26, .int .u64 n27, .bool b28] 0).bind fun w29 =>
(World.cell? w29 (⟨r19.2.heap.size, 0, none⟩)).bind fun v30 =>
(asI .i64 v30).bind fun n31 =>
if ((n31 : Int) == 0) = true then
((stL w29 (⟨w0.heap.size, 0, none⟩) [.int .i64 0, .int .i64 0, .int .i64 0, .int .u64 0, .int .i64 0, .slice none 0 0, .bool false] 0).bind fun w32 =>
(ldN w32 (⟨w0.heap.size, 0, none⟩) 0 7).bind fun l33 =>
(asI .i64 (l33.getD 0 undef)).bind fun n34 =>
(asI .i64 (l33.getD 1 undef)).bind fun n35 =>
(asI .i64 (l33.getD 2 undef)).bind fun n36 =>
(asI .u64 (l33.getD 3 undef)).bind fun n37 =>
(asI .i64 (l33.getD 4 undef)).bind fun n38 =>
(asSl (l33.getD 5 undef)).bind fun q39 =>
(asB (l33.getD 6 undef)).bind fun b40 =>
some (.tuple #[.agg #[.int .i64 n34, .int .i64 n35, .int .i64 n36, .int .u64 n37, .int .i64 n38, .slice q39.1 q39.2.1 q39.2.2, .bool b40], .bool false, .int .i64 10], w32))
else
((World.cell? w29 (Addr.add (⟨r19.2.heap.size, 0, none⟩) 2)).bind fun v41 =>
(asI .u64 v41).bind fun n42 =>
if ((u2 : Int) != n42) = true then
((stL w29 (⟨w0.heap.size, 0, none⟩) [.int .i64 0, .int .i64 0, .int .i64 0, .int .u64 0, .int .i64 0, .slice none 0 0, .bool false] 0).bind fun w43 =>
(ldN w43 (⟨w0.heap.size, 0, none⟩) 0 7).bind fun l44 =>
(asI .i64 (l44.getD 0 undef)).bind fun n45 =>
(asI .i64 (l44.getD 1 undef)).bind fun n46 =>
(asI .i64 (l44.getD 2 undef)).bind fun n47 =>
(asI .u64 (l44.getD 3 undef)).bind fun n48 =>
(asI .i64 (l44.getD 4 undef)).bind fun n49 =>
(asSl (l44.getD 5 undef)).bind fun q50 =>
(asB (l44.getD 6 undef)).bind fun b51 =>
some (.tuple #[.agg #[.int .i64 n45, .int .i64 n46, .int .i64 n47, .int .u64 n48, .int .i64 n49, .slice q50.1 q50.2.1 q50.2.2, .bool b51], .bool false, .int .i64 10], w43))
else
((World.cell? w29 (Addr.add (⟨r19.2.heap.size, 0, none⟩) 5)).bind fun v52 =>
(asI .i64 v52).bind fun n53 =>
if ((u3 : Int) == n53) = true then
((World.cell? w29 (Addr.add (⟨r19.2.heap.size, 0, none⟩) 6)).bind fun v54 =>
(asI .u64 v54).bind fun n55 =>
if ((u2 : Int) == n55) = true then
((World.cell? w29 (Addr.add (⟨r19.2.heap.size, 0, none⟩) 7)).bind fun v56 =>
(asB v56).bind fun b57 =>
if (!(u4 == b57)) = true then
((stL w29 (⟨w0.heap.size, 0, none⟩) [.int .i64 0, .int .i64 0, .int .i64 0, .int .u64 0, .int .i64 0, .slice none 0 0, .bool false] 0).bind fun w58 =>
(ldN w58 (⟨w0.heap.size, 0, none⟩) 0 7).bind fun l59 =>
(asI .i64 (l59.getD 0 undef)).bind fun n60 =>
(asI .i64 (l59.getD 1 undef)).bind fun n61 =>
(asI .i64 (l59.getD 2 undef)).bind fun n62 =>
(asI .u64 (l59.getD 3 undef)).bind fun n63 =>
(asI .i64 (l59.getD 4 undef)).bind fun n64 =>
(asSl (l59.getD 5 undef)).bind fun q65 =>
(asB (l59.getD 6 undef)).bind fun b66 =>
some (.tuple #[.agg #[.int .i64 n60, .int .i64 n61, .int .i64 n62, .int .u64 n63, .int .i64 n64, .slice q65.1 q65.2.1 q65.2.2, .bool b66], .bool false, .int .i64 14], w58))
else
((World.cell? w29 (⟨r19.2.heap.size, 0, none⟩)).bind fun v67 =>
(asI .i64 v67).bind fun n68 =>
if ((n68 : Int) == 3) = true then
((stL w29 (⟨w0.heap.size, 0, none⟩) [.int .i64 0, .int .i64 0, .int .i64 0, .int .u64 0, .int .i64 0, .slice none 0 0, .bool false] 0).bind fun w69 =>
(ldN w69 (⟨w0.heap.size, 0, none⟩) 0 7).bind fun l70 =>
(asI .i64 (l70.getD 0 undef)).bind fun n71 =>
(asI .i64 (l70.getD 1 undef)).bind fun n72 =>
(asI .i64 (l70.getD 2 undef)).bind fun n73 =>
(asI .u64 (l70.getD 3 undef)).bind fun n74 =>
(asI .i64 (l70.getD 4 undef)).bind fun n75 =>
(asSl (l70.getD 5 undef)).bind fun q76 =>
(asB (l70.getD 6 undef)).bind fun b77 =>
some (.tuple #[.agg #[.int .i64 n71, .int .i64 n72, .int .i64 n73, .int .u64 n74, .int .i64 n75, .slice q76.1 q76.2.1 q76.2.2, .bool b77], .bool false, .int .i64 16], w69))
else
((stL w29 (⟨w0.heap.size, 0, none⟩) [.int .i64 0, .int .i64 0, .int .i64 0, .int .u64 0, .int .i64 0, .slice none 0 0, .bool false] 0).bind fun w78 =>
(ldN w78 (⟨w0.heap.size, 0, none⟩) 0 7).bind fun l79 =>
(asI .i64 (l79.getD 0 undef)).bind fun n80 =>
(asI .i64 (l79.getD 1 undef)).bind fun n81 =>
(asI .i64 (l79.getD 2 undef)).bind fun n82 =>
(asI .u64 (l79.getD 3 undef)).bind fun n83 =>
(asI .i64 (l79.getD 4 undef)).bind fun n84 =>
(asSl (l79.getD 5 undef)).bind fun q85 =>
(asB (l79.getD 6 undef)).bind fun b86 =>
some (.tuple #[.agg #[.int .i64 n80, .int .i64 n81, .int .i64 n82, .int .u64 n83, .int .i64 n84, .slice q85.1 q85.2.1 q85.2.2, .bool b86], .bool false, .int .i64 0], w78))))
else
((World.cell? w29 (Addr.add (⟨r19.2.heap.size, 0, none⟩) 3)).bind fun v87 =>
(asI .i64 v87).bind fun n88 =>
if ((u3 : Int) != n88) = true then
((stL w29 (⟨w0.heap.size, 0, none⟩) [.int .i64 0, .int .i64 0, .int .i64 0, .int .u64 0, .int .i64 0, .slice none 0 0, .bool false] 0).bind fun w89 =>
(ldN w89 (⟨w0.heap.size, 0, none⟩) 0 7).bind fun l90 =>
(asI .i64 (l90.getD 0 undef)).bind fun n91 =>
(asI .i64 (l90.getD 1 undef)).bind fun n92 =>
(asI .i64 (l90.getD 2 undef)).bind fun n93 =>
(asI .u64 (l90.getD 3 undef)).bind fun n94 =>
(asI .i64 (l90.getD 4 undef)).bind fun n95 =>
(asSl (l90.getD 5 undef)).bind fun q96 =>
(asB (l90.getD 6 undef)).bind fun b97 =>
some (.tuple #[.agg #[.int .i64 n91, .int .i64 n92, .int .i64 n93, .int .u64 n94, .int .i64 n95, .slice q96.1 q96.2.1 q96.2.2, .bool b97], .bool false, .int .i64 10], w89))
else
((World.cell? w29 (⟨r19.2.heap.size, 0, none⟩)).bind fun v98 =>
(asI .i64 v98).bind fun n99 =>
if ((n99 : Int) != 2) = true then
((stL w29 (⟨w0.heap.size, 0, none⟩) [.int .i64 0, .int .i64 0, .int .i64 0, .int .u64 0, .int .i64 0, .slice none 0 0, .bool false] 0).bind fun w100 =>
(ldN w100 (⟨w0.heap.size, 0, none⟩) 0 7).bind fun l101 =>
(asI .i64 (l101.getD 0 undef)).bind fun n102 =>
(asI .i64 (l101.getD 1 undef)).bind fun n103 =>
(asI .i64 (l101.getD 2 undef)).bind fun n104 =>
(asI .u64 (l101.getD 3 undef)).bind fun n105 =>
(asI .i64 (l101.getD 4 undef)).bind fun n106 =>
(asSl (l101.getD 5 undef)).bind fun q107 =>
(asB (l101.getD 6 undef)).bind fun b108 =>
some (.tuple #[.agg #[.int .i64 n102, .int .i64 n103, .int .i64 n104, .int .u64 n105, .int .i64 n106, .slice q107.1 q107.2.1 q107.2.2, .bool b108], .bool false, .int .i64 14], w100))
else
((stL w29 (⟨w0.heap.size, 0, none⟩) [.int .i64 3, .int .i64 u1, .int .i64 0, .int .u64 0, .int .i64 0, .slice none 0 0, .bool u4] 0).bind fun w109 =>
(ldN w109 (⟨w0.heap.size, 0, none⟩) 0 7).bind fun l110 =>
(asI .i64 (l110.getD 0 undef)).bind fun n111 =>
(asI .i64 (l110.getD 1 undef)).bind fun n112 =>
(asI .i64 (l110.getD 2 undef)).bind fun n113 =>
(asI .u64 (l110.getD 3 undef)).bind fun n114 =>
(asI .i64 (l110.getD 4 undef)).bind fun n115 =>
(asSl (l110.getD 5 undef)).bind fun q116 =>
(asB (l110.getD 6 undef)).bind fun b117 =>
some (.tuple #[.agg #[.int .i64 n111, .int .i64 n112, .int .i64 n113, .int .u64 n114, .int .i64 n115, .slice q116.1 q116.2.1 q116.2.2, .bool b117], .bool true, .int .i64 0], w109)))))
else
((World.cell? w29 (Addr.add (⟨r19.2.heap.size, 0, none⟩) 3)).bind fun v118 =>
(asI .i64 v118).bind fun n119 =>
if ((u3 : Int) != n119) = true then
((stL w29 (⟨w0.heap.size, 0, none⟩) [.int .i64 0, .int .i64 0, .int .i64 0, .int .u64 0, .int .i64 0, .slice none 0 0, .bool false] 0).bind fun w120 =>
(ldN w120 (⟨w0.heap.size, 0, none⟩) 0 7).bind fun l121 =>
(asI .i64 (l121.getD 0 undef)).bind fun n122 =>
(asI .i64 (l121.getD 1 undef)).bind fun n123 =>
(asI .i64 (l121.getD 2 undef)).bind fun n124 =>
(asI .u64 (l121.getD 3 undef)).bind fun n125 =>
(asI .i64 (l121.getD 4 undef)).bind fun n126 =>
(asSl (l121.getD 5 undef)).bind fun q127 =>
(asB (l121.getD 6 undef)).bind fun b128 =>
some (.tuple #[.agg #[.int .i64 n122, .int .i64 n123, .int .i64 n124, .int .u64 n125, .int .i64 n126, .slice q127.1 q127.2.1 q127.2.2, .bool b128], .bool false, .int .i64 10], w120))
else
((World.cell? w29 (⟨r19.2.heap.size, 0, none⟩)).bind fun v129 =>
(asI .i64 v129).bind fun n130 =>
if ((n130 : Int) != 2) = true then
((stL w29 (⟨w0.heap.size, 0, none⟩) [.int .i64 0, .int .i64 0, .int .i64 0, .int .u64 0, .int .i64 0, .slice none 0 0, .bool false] 0).bind fun w131 =>
(ldN w131 (⟨w0.heap.size, 0, none⟩) 0 7).bind fun l132 =>
(asI .i64 (l132.getD 0 undef)).bind fun n133 =>
(asI .i64 (l132.getD 1 undef)).bind fun n134 =>
(asI .i64 (l132.getD 2 undef)).bind fun n135 =>
(asI .u64 (l132.getD 3 undef)).bind fun n136 =>
(asI .i64 (l132.getD 4 undef)).bind fun n137 =>
(asSl (l132.getD 5 undef)).bind fun q138 =>
(asB (l132.getD 6 undef)).bind fun b139 =>
some (.tuple #[.agg #[.int .i64 n133, .int .i64 n134, .int .i64 n135, .int .u64 n136, .int .i64 n137, .slice q138.1 q138.2.1 q138.2.2, .bool b139], .bool false, .int .i64 14], w131))
else
((stL w29 (⟨w0.heap.size, 0, none⟩) [.int .i64 3, .int .i64 u1, .int .i64 0, .int .u64 0, .int .i64 0, .slice none 0 0, .bool u4] 0).bind fun w140 =>
(ldN w140 (⟨w0.heap.size, 0, none⟩) 0 7).bind fun l141 =>
(asI .i64 (l141.getD 0 undef)).bind fun n142 =>
(asI .i64 (l141.getD 1 undef)).bind fun n143 =>
(asI .i64 (l141.getD 2 undef)).bind fun n144 =>
(asI .u64 (l141.getD 3 undef)).bind fun n145 =>
(asI .i64 (l141.getD 4 undef)).bind fun n146 =>
(asSl (l141.getD 5 undef)).bind fun q147 =>
(asB (l141.getD 6 undef)).bind fun b148 =>
some (.tuple #[.agg #[.int .i64 n142, .int .i64 n143, .int .i64 n144, .int .u64 n145, .int .i64 n146, .slice q147.1 q147.2.1 q147.2.2, .bool b148], .bool true, .int .i64 0], w140))))))))

theorem g19_eq (u0 : Option Addr × Nat × Nat) (u1 : Int) (u2 : Int) (u3 : Int) (u4 : Bool) (w0 : World) : evFn Try.prog 19 g19_ann #[.slice u0.1 u0.2.1 u0.2.2, .int .i64 u1, .int .u64 u2, .int .i64 u3, .bool u4] w0 = g19 u0 u1 u2 u3 u4 w0 := by kernel_rfl

theorem g19_call {u0 : Option Addr × Nat × Nat} {u1 : Int} {u2 : Int} {u3 : Int} {u4 : Bool} {w0 : World} {r : Value × World} (h : g19 u0 u1 u2 u3 u4 w0 = some r) : callF Try.prog 19 #[.slice u0.1 u0.2.1 u0.2.2, .int .i64 u1, .int .u64 u2, .int .i64 u3, .bool u4] w0 = some r :=
  callF_of_evFn (ann := g19_ann) Try.call19 (by kernel_rfl) ((g19_eq u0 u1 u2 u3 u4 w0).trans h)

/-! 20: penstock/penstockref15.SameRec (a: api.TxRec, b: api.TxRec) -/
def g20_ann : List (List Nat × List Nat) := []

noncomputable def g20 (u0c0 : Int) (u0c1 : Int) (u0c2 : Int) (u0c3 : Int) (u0c4 : Int) (u0c5 : Option Addr × Nat × Nat) (u0c6 : Bool) (u1c0 : Int) (u1c1 : Int) (u1c2 : Int) (u1c3 : Int) (u1c4 : Int) (u1c5 : Option Addr × Nat × Nat) (u1c6 : Bool) (w0 : World) : Option (Value × World) :=
(World.cell? (World.alloc (World.alloc w0 (.cells #[.int .i64 u0c0, .int .i64 u0c1, .int .i64 u0c2, .int .u64 u0c3, .int .i64 u0c4, .slice u0c5.1 u0c5.2.1 u0c5.2.2, .bool u0c6] 30)) (.cells #[.int .i64 u1c0, .int .i64 u1c1, .int .i64 u1c2, .int .u64 u1c3, .int .i64 u1c4, .slice u1c5.1 u1c5.2.1 u1c5.2.2, .bool u1c6] 30)) (⟨w0.heap.size, 0, none⟩)).bind fun v1 =>
(asI .i64 v1).bind fun n2 =>
(World.cell? (World.alloc (World.alloc w0 (.cells #[.int .i64 u0c0, .int .i64 u0c1, .int .i64 u0c2, .int .u64 u0c3, .int .i64 u0c4, .slice u0c5.1 u0c5.2.1 u0c5.2.2, .bool u0c6] 30)) (.cells #[.int .i64 u1c0, .int .i64 u1c1, .int .i64 u1c2, .int .u64 u1c3, .int .i64 u1c4, .slice u1c5.1 u1c5.2.1 u1c5.2.2, .bool u1c6] 30)) (⟨(World.alloc w0 (.cells #[.int .i64 u0c0, .int .i64 u0c1, .int .i64 u0c2, .int .u64 u0c3, .int .i64 u0c4, .slice u0c5.1 u0c5.2.1 u0c5.2.2, .bool u0c6] 30)).heap.size, 0, none⟩)).bind fun v3 =>
(asI .i64 v3).bind fun n4 =>
if ((n2 : Int) == n4) = true then
((World.cell? (World.alloc (World.alloc w0 (.cells #[.int .i64 u0c0, .int .i64 u0c1, .int .i64 u0c2, .int .u64 u0c3, .int .i64 u0c4, .slice u0c5.1 u0c5.2.1 u0c5.2.2, .bool u0c6] 30)) (.cells #[.int .i64 u1c0, .int .i64 u1c1, .int .i64 u1c2, .int .u64 u1c3, .int .i64 u1c4, .slice u1c5.1 u1c5.2.1 u1c5.2.2, .bool u1c6] 30)) (Addr.add (⟨w0.heap.size, 0, none⟩) 1)).bind fun v5 =>
(asI .i64 v5).bind fun n6 =>
(World.cell? (World.alloc (World.alloc w0 (.cells #[.int .i64 u0c0, .int .i64 u0c1, .int .i64 u0c2, .int .u64 u0c3, .int .i64 u0c4, .slice u0c5.1 u0c5.2.1 u0c5.2.2, .bool u0c6] 30)) (.cells #[.int .i64 u1c0, .int .i64 u1c1, .int .i64 u1c2, .int .u64 u1c3, .int .i64 u1c4, .slice u1c5.1 u1c5.2.1 u1c5.2.2, .bool u1c6] 30)) (Addr.add (⟨(World.alloc w0 (.cells #[.int .i64 u0c0, .int .i64 u0c1, .int .i64 u0c2, .int .u64 u0c3, .int .i64 u0c4, .slice u0c5.1 u0c5.2.1 u0c5.2.2, .bool u0c6] 30)).heap.size, 0, none⟩) 1)).bind fun v7 =>
(asI .i64 v7).bind fun n8 =>
if ((n6 : Int) == n8) = true then
((World.cell? (World.alloc (World.alloc w0 (.cells #[.int .i64 u0c0, .int .i64 u0c1, .int .i64 u0c2, .int .u64 u0c3, .int .i64 u0c4, .slice u0c5.1 u0c5.2.1 u0c5.2.2, .bool u0c6] 30)) (.cells #[.int .i64 u1c0, .int .i64 u1c1, .int .i64 u1c2, .int .u64 u1c3, .int .i64 u1c4, .slice u1c5.1 u1c5.2.1 u1c5.2.2, .bool u1c6] 30)) (Addr.add (⟨w0.heap.size, 0, none⟩) 2)).bind fun v9 =>
(asI .i64 v9).bind fun n10 =>
(World.cell? (World.alloc (World.alloc w0 (.cells #[.int .i64 u0c0, .int .i64 u0c1, .int .i64 u0c2, .int .u64 u0c3, .int .i64 u0c4, .slice u0c5.1 u0c5.2.1 u0c5.2.2, .bool u0c6] 30)) (.cells #[.int .i64 u1c0, .int .i64 u1c1, .int .i64 u1c2, .int .u64 u1c3, .int .i64 u1c4, .slice u1c5.1 u1c5.2.1 u1c5.2.2, .bool u1c6] 30)) (Addr.add (⟨(World.alloc w0 (.cells #[.int .i64 u0c0, .int .i64 u0c1, .int .i64 u0c2, .int .u64 u0c3, .int .i64 u0c4, .slice u0c5.1 u0c5.2.1 u0c5.2.2, .bool u0c6] 30)).heap.size, 0, none⟩) 2)).bind fun v11 =>
(asI .i64 v11).bind fun n12 =>
if ((n10 : Int) == n12) = true then
((World.cell? (World.alloc (World.alloc w0 (.cells #[.int .i64 u0c0, .int .i64 u0c1, .int .i64 u0c2, .int .u64 u0c3, .int .i64 u0c4, .slice u0c5.1 u0c5.2.1 u0c5.2.2, .bool u0c6] 30)) (.cells #[.int .i64 u1c0, .int .i64 u1c1, .int .i64 u1c2, .int .u64 u1c3, .int .i64 u1c4, .slice u1c5.1 u1c5.2.1 u1c5.2.2, .bool u1c6] 30)) (Addr.add (⟨w0.heap.size, 0, none⟩) 4)).bind fun v13 =>
(asI .i64 v13).bind fun n14 =>
(World.cell? (World.alloc (World.alloc w0 (.cells #[.int .i64 u0c0, .int .i64 u0c1, .int .i64 u0c2, .int .u64 u0c3, .int .i64 u0c4, .slice u0c5.1 u0c5.2.1 u0c5.2.2, .bool u0c6] 30)) (.cells #[.int .i64 u1c0, .int .i64 u1c1, .int .i64 u1c2, .int .u64 u1c3, .int .i64 u1c4, .slice u1c5.1 u1c5.2.1 u1c5.2.2, .bool u1c6] 30)) (Addr.add (⟨(World.alloc w0 (.cells #[.int .i64 u0c0, .int .i64 u0c1, .int .i64 u0c2, .int .u64 u0c3, .int .i64 u0c4, .slice u0c5.1 u0c5.2.1 u0c5.2.2, .bool u0c6] 30)).heap.size, 0, none⟩) 4)).bind fun v15 =>
(asI .i64 v15).bind fun n16 =>
if ((n14 : Int) == n16) = true then
((World.cell? (World.alloc (World.alloc w0 (.cells #[.int .i64 u0c0, .int .i64 u0c1, .int .i64 u0c2, .int .u64 u0c3, .int .i64 u0c4, .slice u0c5.1 u0c5.2.1 u0c5.2.2, .bool u0c6] 30)) (.cells #[.int .i64 u1c0, .int .i64 u1c1, .int .i64 u1c2, .int .u64 u1c3, .int .i64 u1c4, .slice u1c5.1 u1c5.2.1 u1c5.2.2, .bool u1c6] 30)) (Addr.add (⟨w0.heap.size, 0, none⟩) 3)).bind fun v17 =>
(asI .u64 v17).bind fun n18 =>
(World.cell? (World.alloc (World.alloc w0 (.cells #[.int .i64 u0c0, .int .i64 u0c1, .int .i64 u0c2, .int .u64 u0c3, .int .i64 u0c4, .slice u0c5.1 u0c5.2.1 u0c5.2.2, .bool u0c6] 30)) (.cells #[.int .i64 u1c0, .int .i64 u1c1, .int .i64 u1c2, .int .u64 u1c3, .int .i64 u1c4, .slice u1c5.1 u1c5.2.1 u1c5.2.2, .bool u1c6] 30)) (Addr.add (⟨(World.alloc w0 (.cells #[.int .i64 u0c0, .int .i64 u0c1, .int .i64 u0c2, .int .u64 u0c3, .int .i64 u0c4, .slice u0c5.1 u0c5.2.1 u0c5.2.2, .bool u0c6] 30)).heap.size, 0, none⟩) 3)).bind fun v19 =>
(asI .u64 v19).bind fun n20 =>
if ((n18 : Int) == n20) = true then
((World.cell? (World.alloc (World.alloc w0 (.cells #[.int .i64 u0c0, .int .i64 u0c1, .int .i64 u0c2, .int .u64 u0c3, .int .i64 u0c4, .slice u0c5.1 u0c5.2.1 u0c5.2.2, .bool u0c6] 30)) (.cells #[.int .i64 u1c0, .int .i64 u1c1, .int .i64 u1c2, .int .u64 u1c3, .int .i64 u1c4, .slice u1c5.1 u1c5.2.1 u1c5.2.2, .bool u1c6] 30)) (Addr.add (⟨w0.heap.size, 0, none⟩) 6)).bind fun v21 =>
(asB v21).bind fun b22 =>
(World.cell? (World.alloc (World.alloc w0 (.cells #[.int .i64 u0c0, .int .i64 u0c1, .int .i64 u0c2, .int .u64 u0c3, .int .i64 u0c4, .slice u0c5.1 u0c5.2.1 u0c5.2.2, .bool u0c6] 30)) (.cells #[.int .i64 u1c0, .int .i64 u1c1, .int .i64 u1c2, .int .u64 u1c3, .int .i64 u1c4, .slice u1c5.1 u1c5.2.1 u1c5.2.2, .bool u1c6] 30)) (Addr.add (⟨(World.alloc w0 (.cells #[.int .i64 u0c0, .int .i64 u0c1, .int .i64 u0c2, .int .u64 u0c3, .int .i64 u0c4, .slice u0c5.1 u0c5.2.1 u0c5.2.2, .bool u0c6] 30)).heap.size, 0, none⟩) 6)).bind fun v23 =>
(asB v23).bind fun b24 =>
if (b22 == b24) = true then
((World.cell? (World.alloc (World.alloc w0 (.cells #[.int .i64 u0c0, .int .i64 u0c1, .int .i64 u0c2, .int .u64 u0c3, .int .i64 u0c4, .slice u0c5.1 u0c5.2.1 u0c5.2.2, .bool u0c6] 30)) (.cells #[.int .i64 u1c0, .int .i64 u1c1, .int .i64 u1c2, .int .u64 u1c3, .int .i64 u1c4, .slice u1c5.1 u1c5.2.1 u1c5.2.2, .bool u1c6] 30)) (Addr.add (⟨w0.heap.size, 0, none⟩) 5)).bind fun v25 =>
(asSl v25).bind fun q26 =>
(World.cell? (World.alloc (World.alloc w0 (.cells #[.int .i64 u0c0, .int .i64 u0c1, .int .i64 u0c2, .int .u64 u0c3, .int .i64 u0c4, .slice u0c5.1 u0c5.2.1 u0c5.2.2, .bool u0c6] 30)) (.cells #[.int .i64 u1c0, .int .i64 u1c1, .int .i64 u1c2, .int .u64 u1c3, .int .i64 u1c4, .slice u1c5.1 u1c5.2.1 u1c5.2.2, .bool u1c6] 30)) (Addr.add (⟨(World.alloc w0 (.cells #[.int .i64 u0c0, .int .i64 u0c1, .int .i64 u0c2, .int .u64 u0c3, .int .i64 u0c4, .slice u0c5.1 u0c5.2.1 u0c5.2.2, .bool u0c6] 30)).heap.size, 0, none⟩) 5)).bind fun v27 =>
(asSl v27).bind fun q28 =>
(callF Try.prog 35 #[.slice q26.1 q26.2.1 q26.2.2, .slice q28.1 q28.2.1 q28.2.2] (World.alloc (World.alloc w0 (.cells #[.int .i64 u0c0, .int .i64 u0c1, .int .i64 u0c2, .int .u64 u0c3, .int .i64 u0c4, .slice u0c5.1 u0c5.2.1 u0c5.2.2, .bool u0c6] 30)) (.cells #[.int .i64 u1c0, .int .i64 u1c1, .int .i64 u1c2, .int .u64 u1c3, .int .i64 u1c4, .slice u1c5.1 u1c5.2.1 u1c5.2.2, .bool u1c6] 30))).bind fun r29 =>
(asB r29.1).bind fun b30 =>
some (.bool b30, r29.2))
else
(some (.bool false, (World.alloc (World.alloc w0 (.cells #[.int .i64 u0c0, .int .i64 u0c1, .int .i64 u0c2, .int .u64 u0c3, .int .i64 u0c4, .slice u0c5.1 u0c5.2.1 u0c5.2.2, .bool u0c6] 30)) (.cells #[.int .i64 u1c0, .int .i64 u1c1, .int .i64 u1c2, .int .u64 u1c3, .int .i64 u1c4, .slice u1c5.1 u1c5.2.1 u1c5.2.2, .bool u1c6] 30)))))
else
(some (.bool false, (World.alloc (World.alloc w0 (.cells #[.int .i64 u0c0, .int .i64 u0c1, .int .i64 u0c2, .int .u64 u0c3, .int .i64 u0c4, .slice u0c5.1 u0c5.2.1 u0c5.2.2, .bool u0c6] 30)) (.cells #[.int .i64 u1c0, .int .i64 u1c1, .int .i64 u1c2, .int .u64 u1c3, .int .i64 u1c4, .slice u1c5.1 u1c5.2.1 u1c5.2.2, .bool u1c6] 30)))))
else
(some (.bool false, (World.alloc (World.alloc w0 (.cells #[.int .i64 u0c0, .int .i64 u0c1, .int .i64 u0c2, .int .u64 u0c3, .int .i64 u0c4, .slice u0c5.1 u0c5.2.1 u0c5.2.2, .bool u0c6] 30)) (.cells #[.int .i64 u1c0, .int .i64 u1c1, .int .i64 u1c2, .int .u64 u1c3, .int .i64 u1c4, .slice u1c5.1 u1c5.2.1 u1c5.2.2, .bool u1c6] 30)))))
else
(some (.bool false, (World.alloc (World.alloc w0 (.cells #[.int .i64 u0c0, .int .i64 u0c1, .int .i64 u0c2, .int .u64 u0c3, .int .i64 u0c4, .slice u0c5.1 u0c5.2.1 u0c5.2.2, .bool u0c6] 30)) (.cells #[.int .i64 u1c0, .int .i64 u1c1, .int .i64 u1c2, .int .u64 u1c3, .int .i64 u1c4, .slice u1c5.1 u1c5.2.1 u1c5.2.2, .bool u1c6] 30)))))
else
(some (.bool false, (World.alloc (World.alloc w0 (.cells #[.int .i64 u0c0, .int .i64 u0c1, .int .i64 u0c2, .int .u64 u0c3, .int .i64 u0c4, .slice u0c5.1 u0c5.2.1 u0c5.2.2, .bool u0c6] 30)) (.cells #[.int .i64 u1c0, .int .i64 u1c1, .int .i64 u1c2, .int .u64 u1c3, .int .i64 u1c4, .slice u1c5.1 u1c5.2.1 u1c5.2.2, .bool u1c6] 30)))))
else
(some (.bool false, (World.alloc (World.alloc w0 (.cells #[.int .i64 u0c0, .int .i64 u0c1, .int .i64 u0c2, .int .u64 u0c3, .int .i64 u0c4, .slice u0c5.1 u0c5.2.1 u0c5.2.2, .bool u0c6] 30)) (.cells #[.int .i64 u1c0, .int .i64 u1c1, .int .i64 u1c2, .int .u64 u1c3, .int .i64 u1c4, .slice u1c5.1 u1c5.2.1 u1c5.2.2, .bool u1c6] 30))))

theorem g20_eq (u0c0 : Int) (u0c1 : Int) (u0c2 : Int) (u0c3 : Int) (u0c4 : Int) (u0c5 : Option Addr × Nat × Nat) (u0c6 : Bool) (u1c0 : Int) (u1c1 : Int) (u1c2 : Int) (u1c3 : Int) (u1c4 : Int) (u1c5 : Option Addr × Nat × Nat) (u1c6 : Bool) (w0 : World) : evFn Try.prog 20 g20_ann #[.agg #[.int .i64 u0c0, .int .i64 u0c1, .int .i64 u0c2, .int .u64 u0c3, .int .i64 u0c4, .slice u0c5.1 u0c5.2.1 u0c5.2.2, .bool u0c6], .agg #[.int .i64 u1c0, .int .i64 u1c1, .int .i64 u1c2, .int .u64 u1c3, .int .i64 u1c4, .slice u1c5.1 u1c5.2.1 u1c5.2.2, .bool u1c6]] w0 = g20 u0c0 u0c1 u0c2 u0c3 u0c4 u0c5 u0c6 u1c0 u1c1 u1c2 u1c3 u1c4 u1c5 u1c6 w0 := by kernel_rfl

theorem g20_call {u0c0 : Int} {u0c1 : Int} {u0c2 : Int} {u0c3 : Int} {u0c4 : Int} {u0c5 : Option Addr × Nat × Nat} {u0c6 : Bool} {u1c0 : Int} {u1c1 : Int} {u1c2 : Int} {u1c3 : Int} {u1c4 : Int} {u1c5 : Option Addr × Nat × Nat} {u1c6 : Bool} {w0 : World} {r : Value × World} (h : g20 u0c0 u0c1 u0c2 u0c3 u0c4 u0c5 u0c6 u1c0 u1c1 u1c2 u1c3 u1c4 u1c5 u1c6 w0 = some r) : callF Try.prog 20 #[.agg #[.int .i64 u0c0, .int .i64 u0c1, .int .i64 u0c2, .int .u64 u0c3, .int .i64 u0c4, .slice u0c5.1 u0c5.2.1 u0c5.2.2, .bool u0c6], .agg #[.int .i64 u1c0, .int .i64 u1c1, .int .i64 u1c2, .int .u64 u1c3, .int .i64 u1c4, .slice u1c5.1 u1c5.2.1 u1c5.2.2, .bool u1c6]] w0 = some r :=
  callF_of_evFn (ann := g20_ann) Try.call20 (by kernel_rfl) ((g20_eq u0c0 u0c1 u0c2 u0c3 u0c4 u0c5 u0c6 u1c0 u1c1 u1c2 u1c3 u1c4 u1c5 u1c6 w0).trans h)

/-! 22: penstock/penstockref15.SameTx (a: api.Tx, b: api.Tx) -/
def g22_ann : List (List Nat × List Nat) := []

noncomputable def g22 (u0c0 : Int) (u0c1 : Int) (u0c2 : Int) (u0c3 : Int) (u0c4 : Option Addr × Nat × Nat) (u0c5 : Int) (u0c6 : Int) (u0c7 : Bool) (u1c0 : Int) (u1c1 : Int) (u1c2 : Int) (u1c3 : Int) (u1c4 : Option Addr × Nat × Nat) (u1c5 : Int) (u1c6 : Int) (u1c7 : Bool) (w0 : World) : Option (Value × World) :=
(World.cell? (World.alloc (World.alloc w0 (.cells #[.int .i64 u0c0, .int .i64 u0c1, .int .u64 u0c2, .int .i64 u0c3, .slice u0c4.1 u0c4.2.1 u0c4.2.2, .int .i64 u0c5, .int .u64 u0c6, .bool u0c7] 46)) (.cells #[.int .i64 u1c0, .int .i64 u1c1, .int .u64 u1c2, .int .i64 u1c3, .slice u1c4.1 u1c4.2.1 u1c4.2.2, .int .i64 u1c5, .int .u64 u1c6, .bool u1c7] 46)) (⟨w0.heap.size, 0, none⟩)).bind fun v1 =>
(asI .i64 v1).bind fun n2 =>
(World.cell? (World.alloc (World.alloc w0 (.cells #[.int .i64 u0c0, .int .i64 u0c1, .int .u64 u0c2, .int .i64 u0c3, .slice u0c4.1 u0c4.2.1 u0c4.2.2, .int .i64 u0c5, .int .u64 u0c6, .bool u0c7] 46)) (.cells #[.int .i64 u1c0, .int .i64 u1c1, .int .u64 u1c2, .int .i64 u1c3, .slice u1c4.1 u1c4.2.1 u1c4.2.2, .int .i64 u1c5, .int .u64 u1c6, .bool u1c7] 46)) (⟨(World.alloc w0 (.cells #[.int .i64 u0c0, .int .i64 u0c1, .int .u64 u0c2, .int .i64 u0c3, .slice u0c4.1 u0c4.2.1 u0c4.2.2, .int .i64 u0c5, .int .u64 u0c6, .bool u0c7] 46)).heap.size, 0, none⟩)).bind fun v3 =>
(asI .i64 v3).bind fun n4 =>
if ((n2 : Int) == n4) = true then
((World.cell? (World.alloc (World.alloc w0 (.cells #[.int .i64 u0c0, .int .i64 u0c1, .int .u64 u0c2, .int .i64 u0c3, .slice u0c4.1 u0c4.2.1 u0c4.2.2, .int .i64 u0c5, .int .u64 u0c6, .bool u0c7] 46)) (.cells #[.int .i64 u1c0, .int .i64 u1c1, .int .u64 u1c2, .int .i64 u1c3, .slice u1c4.1 u1c4.2.1 u1c4.2.2, .int .i64 u1c5, .int .u64 u1c6, .bool u1c7] 46)) (Addr.add (⟨w0.heap.size, 0, none⟩) 1)).bind fun v5 =>
(asI .i64 v5).bind fun n6 =>
(World.cell? (World.alloc (World.alloc w0 (.cells #[.int .i64 u0c0, .int .i64 u0c1, .int .u64 u0c2, .int .i64 u0c3, .slice u0c4.1 u0c4.2.1 u0c4.2.2, .int .i64 u0c5, .int .u64 u0c6, .bool u0c7] 46)) (.cells #[.int .i64 u1c0, .int .i64 u1c1, .int .u64 u1c2, .int .i64 u1c3, .slice u1c4.1 u1c4.2.1 u1c4.2.2, .int .i64 u1c5, .int .u64 u1c6, .bool u1c7] 46)) (Addr.add (⟨(World.alloc w0 (.cells #[.int .i64 u0c0, .int .i64 u0c1, .int .u64 u0c2, .int .i64 u0c3, .slice u0c4.1 u0c4.2.1 u0c4.2.2, .int .i64 u0c5, .int .u64 u0c6, .bool u0c7] 46)).heap.size, 0, none⟩) 1)).bind fun v7 =>
(asI .i64 v7).bind fun n8 =>
if ((n6 : Int) == n8) = true then
((World.cell? (World.alloc (World.alloc w0 (.cells #[.int .i64 u0c0, .int .i64 u0c1, .int .u64 u0c2, .int .i64 u0c3, .slice u0c4.1 u0c4.2.1 u0c4.2.2, .int .i64 u0c5, .int .u64 u0c6, .bool u0c7] 46)) (.cells #[.int .i64 u1c0, .int .i64 u1c1, .int .u64 u1c2, .int .i64 u1c3, .slice u1c4.1 u1c4.2.1 u1c4.2.2, .int .i64 u1c5, .int .u64 u1c6, .bool u1c7] 46)) (Addr.add (⟨w0.heap.size, 0, none⟩) 2)).bind fun v9 =>
(asI .u64 v9).bind fun n10 =>
(World.cell? (World.alloc (World.alloc w0 (.cells #[.int .i64 u0c0, .int .i64 u0c1, .int .u64 u0c2, .int .i64 u0c3, .slice u0c4.1 u0c4.2.1 u0c4.2.2, .int .i64 u0c5, .int .u64 u0c6, .bool u0c7] 46)) (.cells #[.int .i64 u1c0, .int .i64 u1c1, .int .u64 u1c2, .int .i64 u1c3, .slice u1c4.1 u1c4.2.1 u1c4.2.2, .int .i64 u1c5, .int .u64 u1c6, .bool u1c7] 46)) (Addr.add (⟨(World.alloc w0 (.cells #[.int .i64 u0c0, .int .i64 u0c1, .int .u64 u0c2, .int .i64 u0c3, .slice u0c4.1 u0c4.2.1 u0c4.2.2, .int .i64 u0c5, .int .u64 u0c6, .bool u0c7] 46)).heap.size, 0, none⟩) 2)).bind fun v11 =>
(asI .u64 v11).bind fun n12 =>
if ((n10 : Int) == n12) = true then
((World.cell? (World.alloc (World.alloc w0 (.cells #[.int .i64 u0c0, .int .i64 u0c1, .int .u64 u0c2, .int .i64 u0c3, .slice u0c4.1 u0c4.2.1 u0c4.2.2, .int .i64 u0c5, .int .u64 u0c6, .bool u0c7] 46)) (.cells #[.int .i64 u1c0, .int .i64 u1c1, .int .u64 u1c2, .int .i64 u1c3, .slice u1c4.1 u1c4.2.1 u1c4.2.2, .int .i64 u1c5, .int .u64 u1c6, .bool u1c7] 46)) (Addr.add (⟨w0.heap.size, 0, none⟩) 3)).bind fun v13 =>
(asI .i64 v13).bind fun n14 =>
(World.cell? (World.alloc (World.alloc w0 (.cells #[.int .i64 u0c0, .int .i64 u0c1, .int .u64 u0c2, .int .i64 u0c3, .slice u0c4.1 u0c4.2.1 u0c4.2.2, .int .i64 u0c5, .int .u64 u0c6, .bool u0c7] 46)) (.cells #[.int .i64 u1c0, .int .i64 u1c1, .int .u64 u1c2, .int .i64 u1c3, .slice u1c4.1 u1c4.2.1 u1c4.2.2, .int .i64 u1c5, .int .u64 u1c6, .bool u1c7] 46)) (Addr.add (⟨(World.alloc w0 (.cells #[.int .i64 u0c0, .int .i64 u0c1, .int .u64 u0c2, .int .i64 u0c3, .slice u0c4.1 u0c4.2.1 u0c4.2.2, .int .i64 u0c5, .int .u64 u0c6, .bool u0c7] 46)).heap.size, 0, none⟩) 3)).bind fun v15 =>
(asI .i64 v15).bind fun n16 =>
if ((n14 : Int) == n16) = true then
((World.cell? (World.alloc (World.alloc w0 (.cells #[.int .i64 u0c0, .int .i64 u0c1, .int .u64 u0c2, .int .i64 u0c3, .slice u0c4.1 u0c4.2.1 u0c4.2.2, .int .i64 u0c5, .int .u64 u0c6, .bool u0c7] 46)) (.cells #[.int .i64 u1c0, .int .i64 u1c1, .int .u64 u1c2, .int .i64 u1c3, .slice u1c4.1 u1c4.2.1 u1c4.2.2, .int .i64 u1c5, .int .u64 u1c6, .bool u1c7] 46)) (Addr.add (⟨w0.heap.size, 0, none⟩) 5)).bind fun v17 =>
(asI .i64 v17).bind fun n18 =>
(World.cell? (World.alloc (World.alloc w0 (.cells #[.int .i64 u0c0, .int .i64 u0c1, .int .u64 u0c2, .int .i64 u0c3, .slice u0c4.1 u0c4.2.1 u0c4.2.2, .int .i64 u0c5, .int .u64 u0c6, .bool u0c7] 46)) (.cells #[.int .i64 u1c0, .int .i64 u1c1, .int .u64 u1c2, .int .i64 u1c3, .slice u1c4.1 u1c4.2.1 u1c4.2.2, .int .i64 u1c5, .int .u64 u1c6, .bool u1c7] 46)) (Addr.add (⟨(World.alloc w0 (.cells #[.int .i64 u0c0, .int .i64 u0c1, .int .u64 u0c2, .int .i64 u0c3, .slice u0c4.1 u0c4.2.1 u0c4.2.2, .int .i64 u0c5, .int .u64 u0c6, .bool u0c7] 46)).heap.size, 0, none⟩) 5)).bind fun v19 =>
(asI .i64 v19).bind fun n20 =>
if ((n18 : Int) == n20) = true then
((World.cell? (World.alloc (World.alloc w0 (.cells #[.int .i64 u0c0, .int .i64 u0c1, .int .u64 u0c2, .int .i64 u0c3, .slice u0c4.1 u0c4.2.1 u0c4.2.2, .int .i64 u0c5, .int .u64 u0c6, .bool u0c7] 46)) (.cells #[.int .i64 u1c0, .int .i64 u1c1, .int .u64 u1c2, .int .i64 u1c3, .slice u1c4.1 u1c4.2.1 u1c4.2.2, .int .i64 u1c5, .int .u64 u1c6, .bool u1c7] 46)) (Addr.add (⟨w0.heap.size, 0, none⟩) 6)).bind fun v21 =>
(asI .u64 v21).bind fun n22 =>
(World.cell? (World.alloc (World.alloc w0 (.cells #[.int .i64 u0c0, .int .i64 u0c1, .int .u64 u0c2, .int .i64 u0c3, .slice u0c4.1 u0c4.2.1 u0c4.2.2, .int .i64 u0c5, .int .u64 u0c6, .bool u0c7] 46)) (.cells #[.int .i64 u1c0, .int .i64 u1c1, .int .u64 u1c2, .int .i64 u1c3, .slice u1c4.1 u1c4.2.1 u1c4.2.2, .int .i64 u1c5, .int .u64 u1c6, .bool u1c7] 46)) (Addr.add (⟨(World.alloc w0 (.cells #[.int .i64 u0c0, .int .i64 u0c1, .int .u64 u0c2, .int .i64 u0c3, .slice u0c4.1 u0c4.2.1 u0c4.2.2, .int .i64 u0c5, .int .u64 u0c6, .bool u0c7] 46)).heap.size, 0, none⟩) 6)).bind fun v23 =>
(asI .u64 v23).bind fun n24 =>
if ((n22 : Int) == n24) = true then
((World.cell? (World.alloc (World.alloc w0 (.cells #[.int .i64 u0c0, .int .i64 u0c1, .int .u64 u0c2, .int .i64 u0c3, .slice u0c4.1 u0c4.2.1 u0c4.2.2, .int .i64 u0c5, .int .u64 u0c6, .bool u0c7] 46)) (.cells #[.int .i64 u1c0, .int .i64 u1c1, .int .u64 u1c2, .int .i64 u1c3, .slice u1c4.1 u1c4.2.1 u1c4.2.2, .int .i64 u1c5, .int .u64 u1c6, .bool u1c7] 46)) (Addr.add (⟨w0.heap.size, 0, none⟩) 7)).bind fun v25 =>
(asB v25).bind fun b26 =>
(World.cell? (World.alloc (World.alloc w0 (.cells #[.int .i64 u0c0, .int .i64 u0c1, .int .u64 u0c2, .int .i64 u0c3, .slice u0c4.1 u0c4.2.1 u0c4.2.2, .int .i64 u0c5, .int .u64 u0c6, .bool u0c7] 46)) (.cells #[.int .i64 u1c0, .int .i64 u1c1, .int .u64 u1c2, .int .i64 u1c3, .slice u1c4.1 u1c4.2.1 u1c4.2.2, .int .i64 u1c5, .int .u64 u1c6, .bool u1c7] 46)) (Addr.add (⟨(World.alloc w0 (.cells #[.int .i64 u0c0, .int .i64 u0c1, .int .u64 u0c2, .int .i64 u0c3, .slice u0c4.1 u0c4.2.1 u0c4.2.2, .int .i64 u0c5, .int .u64 u0c6, .bool u0c7] 46)).heap.size, 0, none⟩) 7)).bind fun v27 =>
(asB v27).bind fun b28 =>
if (b26 == b28) = true then
((World.cell? (World.alloc (World.alloc w0 (.cells #[.int .i64 u0c0, .int .i64 u0c1, .int .u64 u0c2, .int .i64 u0c3, .slice u0c4.1 u0c4.2.1 u0c4.2.2, .int .i64 u0c5, .int .u64 u0c6, .bool u0c7] 46)) (.cells #[.int .i64 u1c0, .int .i64 u1c1, .int .u64 u1c2, .int .i64 u1c3, .slice u1c4.1 u1c4.2.1 u1c4.2.2, .int .i64 u1c5, .int .u64 u1c6, .bool u1c7] 46)) (Addr.add (⟨w0.heap.size, 0, none⟩) 4)).bind fun v29 =>
(asSl v29).bind fun q30 =>
(World.cell? (World.alloc (World.alloc w0 (.cells #[.int .i64 u0c0, .int .i64 u0c1, .int .u64 u0c2, .int .i64 u0c3, .slice u0c4.1 u0c4.2.1 u0c4.2.2, .int .i64 u0c5, .int .u64 u0c6, .bool u0c7] 46)) (.cells #[.int .i64 u1c0, .int .i64 u1c1, .int .u64 u1c2, .int .i64 u1c3, .slice u1c4.1 u1c4.2.1 u1c4.2.2, .int .i64 u1c5, .int .u64 u1c6, .bool u1c7] 46)) (Addr.add (⟨(World.alloc w0 (.cells #[.int .i64 u0c0, .int .i64 u0c1, .int .u64 u0c2, .int .i64 u0c3, .slice u0c4.1 u0c4.2.1 u0c4.2.2, .int .i64 u0c5, .int .u64 u0c6, .bool u0c7] 46)).heap.size, 0, none⟩) 4)).bind fun v31 =>
(asSl v31).bind fun q32 =>
(callF Try.prog 35 #[.slice q30.1 q30.2.1 q30.2.2, .slice q32.1 q32.2.1 q32.2.2] (World.alloc (World.alloc w0 (.cells #[.int .i64 u0c0, .int .i64 u0c1, .int .u64 u0c2, .int .i64 u0c3, .slice u0c4.1 u0c4.2.1 u0c4.2.2, .int .i64 u0c5, .int .u64 u0c6, .bool u0c7] 46)) (.cells #[.int .i64 u1c0, .int .i64 u1c1, .int .u64 u1c2, .int .i64 u1c3, .slice u1c4.1 u1c4.2.1 u1c4.2.2, .int .i64 u1c5, .int .u64 u1c6, .bool u1c7] 46))).bind fun r33 =>
(asB r33.1).bind fun b34 =>
some (.bool b34, r33.2))
else
(some (.bool false, (World.alloc (World.alloc w0 (.cells #[.int .i64 u0c0, .int .i64 u0c1, .int .u64 u0c2, .int .i64 u0c3, .slice u0c4.1 u0c4.2.1 u0c4.2.2, .int .i64 u0c5, .int .u64 u0c6, .bool u0c7] 46)) (.cells #[.int .i64 u1c0, .int .i64 u1c1, .int .u64 u1c2, .int .i64 u1c3, .slice u1c4.1 u1c4.2.1 u1c4.2.2, .int .i64 u1c5, .int .u64 u1c6, .bool u1c7] 46)))))
else
(some (.bool false, (World.alloc (World.alloc w0 (.cells #[.int .i64 u0c0, .int .i64 u0c1, .int .u64 u0c2, .int .i64 u0c3, .slice u0c4.1 u0c4.2.1 u0c4.2.2, .int .i64 u0c5, .int .u64 u0c6, .bool u0c7] 46)) (.cells #[.int .i64 u1c0, .int .i64 u1c1, .int .u64 u1c2, .int .i64 u1c3, .slice u1c4.1 u1c4.2.1 u1c4.2.2, .int .i64 u1c5, .int .u64 u1c6, .bool u1c7] 46)))))
else
(some (.bool false, (World.alloc (World.alloc w0 (.cells #[.int .i64 u0c0, .int .i64 u0c1, .int .u64 u0c2, .int .i64 u0c3, .slice u0c4.1 u0c4.2.1 u0c4.2.2, .int .i64 u0c5, .int .u64 u0c6, .bool u0c7] 46)) (.cells #[.int .i64 u1c0, .int .i64 u1c1, .int .u64 u1c2, .int .i64 u1c3, .slice u1c4.1 u1c4.2.1 u1c4.2.2, .int .i64 u1c5, .int .u64 u1c6, .bool u1c7] 46)))))
else
(some (.bool false, (World.alloc (World.alloc w0 (.cells #[.int .i64 u0c0, .int .i64 u0c1, .int .u64 u0c2, .int .i64 u0c3, .slice u0c4.1 u0c4.2.1 u0c4.2.2, .int .i64 u0c5, .int .u64 u0c6, .bool u0c7] 46)) (.cells #[.int .i64 u1c0, .int .i64 u1c1, .int .u64 u1c2, .int .i64 u1c3, .slice u1c4.1 u1c4.2.1 u1c4.2.2, .int .i64 u1c5, .int .u64 u1c6, .bool u1c7] 46)))))
else
(some (.bool false, (World.alloc (World.alloc w0 (.cells #[.int .i64 u0c0, .int .i64 u0c1, .int .u64 u0c2, .int .i64 u0c3, .slice u0c4.1 u0c4.2.1 u0c4.2.2, .int .i64 u0c5, .int .u64 u0c6, .bool u0c7] 46)) (.cells #[.int .i64 u1c0, .int .i64 u1c1, .int .u64 u1c2, .int .i64 u1c3, .slice u1c4.1 u1c4.2.1 u1c4.2.2, .int .i64 u1c5, .int .u64 u1c6, .bool u1c7] 46)))))
else
(some (.bool false, (World.alloc (World.alloc w0 (.cells #[.int .i64 u0c0, .int .i64 u0c1, .int .u64 u0c2, .int .i64 u0c3, .slice u0c4.1 u0c4.2.1 u0c4.2.2, .int .i64 u0c5, .int .u64 u0c6, .bool u0c7] 46)) (.cells #[.int .i64 u1c0, .int .i64 u1c1, .int .u64 u1c2, .int .i64 u1c3, .slice u1c4.1 u1c4.2.1 u1c4.2.2, .int .i64 u1c5, .int .u64 u1c6, .bool u1c7] 46)))))
else
(some (.bool false, (World.alloc (World.alloc w0 (.cells #[.int .i64 u0c0, .int .i64 u0c1, .int .u64 u0c2, .int .i64 u0c3, .slice u0c4.1 u0c4.2.1 u0c4.2.2, .int .i64 u0c5, .int .u64 u0c6, .bool u0c7] 46)) (.cells #[.int .i64 u1c0, .int .i64 u1c1, .int .u64 u1c2, .int .i64 u1c3, .slice u1c4.1 u1c4.2.1 u1c4.2.2, .int .i64 u1c5, .int .u64 u1c6, .bool u1c7] 46))))

theorem g22_eq (u0c0 : Int) (u0c1 : Int) (u0c2 : Int) (u0c3 : Int) (u0c4 : Option Addr × Nat × Nat) (u0c5 : Int) (u0c6 : Int) (u0c7 : Bool) (u1c0 : Int) (u1c1 : Int) (u1c2 : Int) (u1c3 : Int) (u1c4 : Option Addr × Nat × Nat) (u1c5 : Int) (u1c6 : Int) (u1c7 : Bool) (w0 : World) : evFn Try.prog 22 g22_ann #[.agg #[.int .i64 u0c0, .int .i64 u0c1, .int .u64 u0c2, .int .i64 u0c3, .slice u0c4.1 u0c4.2.1 u0c4.2.2, .int .i64 u0c5, .int .u64 u0c6, .bool u0c7], .agg #[.int .i64 u1c0, .int .i64 u1c1, .int .u64 u1c2, .int .i64 u1c3, .slice u1c4.1 u1c4.2.1 u1c4.2.2, .int .i64 u1c5, .int .u64 u1c6, .bool u1c7]] w0 = g22 u0c0 u0c1 u0c2 u0c3 u0c4 u0c5 u0c6 u0c7 u1c0 u1c1 u1c2 u1c3 u1c4 u1c5 u1c6 u1c7 w0 := by kernel_rfl

theorem g22_call {u0c0 : Int} {u0c1 : Int} {u0c2 : Int} {u0c3 : Int} {u0c4 : Option Addr × Nat × Nat} {u0c5 : Int} {u0c6 : Int} {u0c7 : Bool} {u1c0 : Int} {u1c1 : Int} {u1c2 : Int} {u1c3 : Int} {u1c4 : Option Addr × Nat × Nat} {u1c5 : Int} {u1c6 : Int} {u1c7 : Bool} {w0 : World} {r : Value × World} (h : g22 u0c0 u0c1 u0c2 u0c3 u0c4 u0c5 u0c6 u0c7 u1c0 u1c1 u1c2 u1c3 u1c4 u1c5 u1c6 u1c7 w0 = some r) : callF Try.prog 22 #[.agg #[.int .i64 u0c0, .int .i64 u0c1, .int .u64 u0c2, .int .i64 u0c3, .slice u0c4.1 u0c4.2.1 u0c4.2.2, .int .i64 u0c5, .int .u64 u0c6, .bool u0c7], .agg #[.int .i64 u1c0, .int .i64 u1c1, .int .u64 u1c2, .int .i64 u1c3, .slice u1c4.1 u1c4.2.1 u1c4.2.2, .int .i64 u1c5, .int .u64 u1c6, .bool u1c7]] w0 = some r :=
  callF_of_evFn (ann := g22_ann) Try.call22 (by kernel_rfl) ((g22_eq u0c0 u0c1 u0c2 u0c3 u0c4 u0c5 u0c6 u0c7 u1c0 u1c1 u1c2 u1c3 u1c4 u1c5 u1c6 u1c7 w0).trans h)

/-! 23: penstock/penstockref15.Tx (l: []api.TxRec, n: int) -/
def g23_ann : List (List Nat × List Nat) := [([0, 1, 0, 1, 1], [0, 1, 4, 5, 6]), ([0, 1, 1, 0, 1, 1, 1, 0, 1, 1, 1, 0, 0, 1, 0, 0, 1, 0, 1, 1], [0, 1, 4, 5, 6, 7, 8])]

def g23_l2_cs (u0 : Option Addr × Nat × Nat) (u1 : Int) (w0 : World) : List (Nat × Value) := ([(0, .slice u0.1 u0.2.1 u0.2.2), (1, .int .i64 u1), (4, .pointer (some (⟨w0.heap.size, 0, none⟩))), (5, .pointer (some (⟨(World.alloc w0 (.cells #[.int .i64 0, .int .i64 0, .int .u64 0, .int .i64 0, .slice none 0 0, .int .i64 0, .int .u64 0, .bool false] 46)).heap.size, 0, none⟩)))] : List (Nat × Value))

def g23_l32_cs (u0 : Option Addr × Nat × Nat) (u1 : Int) (w0 : World) (s3 : Int) (w4 : World) : List (Nat × Value) := ([(0, .slice u0.1 u0.2.1 u0.2.2), (1, .int .i64 u1), (4, .pointer (some (⟨w0.heap.size, 0, none⟩))), (5, .pointer (some (⟨(World.alloc w0 (.cells #[.int .i64 0, .int .i64 0, .int .u64 0, .int .i64 0, .slice none 0 0, .int .i64 0, .int .u64 0, .bool false] 46)).heap.size, 0, none⟩))), (6, .int .i64 s3), (7, .pointer (some (⟨w4.heap.size, 0, none⟩)))] : List (Nat × Value))

/-- the round of a loop (penstock/penstockref15.Tx) -/
noncomputable def g23_l32_b (w4 : World) (w0 : World) (u0 : Option Addr × Nat × Nat) (u1 : Int) (s3 : Int) (s33 : Int) (w34 : World) : Option (Exit × (Int) × World) :=
(World.cell? w34 (Addr.add (⟨w4.heap.size, 0, none⟩) 5)).bind fun v35 =>
(asSl v35).bind fun q36 =>
if (decide ((s33 : Int) < (q36.2.1 : Int))) = true then
((World.cell? (World.drew w34) (Addr.add (⟨(World.alloc w0 (.cells #[.int .i64 0, .int .i64 0, .int .u64 0, .int .i64 0, .slice none 0 0, .int .i64 0, .int .u64 0, .bool false] 46)).heap.size, 0, none⟩) 4)).bind fun v38 =>
(asSl v38).bind fun q39 =>
(World.cell? (World.drew w34) (Addr.add (⟨w4.heap.size, 0, none⟩) 5)).bind fun v40 =>
(asSl v40).bind fun q41 =>
(idxA q41.1 q41.2.1 1 s33).bind fun a42 =>
(World.cell? (World.drew w34) a42).bind fun v43 =>
(asI .i64 v43).bind fun n44 =>
(callF Try.prog 37 #[.slice q39.1 q39.2.1 q39.2.2, .int .i64 n44] (World.drew w34)).bind fun r45 =>
(asSl r45.1).bind fun q46 =>
(st1 r45.2 (Addr.add (⟨(World.alloc w0 (.cells #[.int .i64 0, .int .i64 0, .int .u64 0, .int .i64 0, .slice none 0 0, .int .i64 0, .int .u64 0, .bool false] 46)).heap.size, 0, none⟩) 4) (.slice q46.1 q46.2.1 q46.2.2)).bind fun w47 =>
some (.normal, (IntKind.i64.wrap (s33 + 1)), w47))
else
(some ((.exit 3), s33, w34))

noncomputable def g23_K48 (u0 : Option Addr × Nat × Nat) (u1 : Int) (w0 : World) : Exit → Env → World → Option (Exit × (Int) × World) :=
  fun e ρ w => ((List.map (·.1) (g23_l2_cs u0 u1 w0)).mapM ρ).bind fun _ => loopK [(6, .i .i64)] e ρ w

noncomputable def g23_K49 (u0 : Option Addr × Nat × Nat) (u1 : Int) (w0 : World) : Exit → Env → World → Option (Exit × (Int) × World) :=
  seqK (ev Try.prog 79 23 g23_ann (cAt [1, 1, 0, 1, 0, 0, 1, 1] (bodyOf Try.f23)) [1, 1, 0, 0, 1, 0, 1, 1] (g23_K48 u0 u1 w0)) (g23_K48 u0 u1 w0)

noncomputable def g23_K50 (u0 : Option Addr × Nat × Nat) (u1 : Int) (w0 : World) : Exit → Env → World → Option (Exit × (Int) × World) :=
  blkK 1 (g23_K49 u0 u1 w0)

noncomputable def g23_K51 (u0 : Option Addr × Nat × Nat) (u1 : Int) (w0 : World) : Exit → Env → World → Option (Exit × (Int) × World) :=
  blkK 2 (g23_K50 u0 u1 w0)

noncomputable def g23_K52 (u0 : Option Addr × Nat × Nat) (u1 : Int) (w0 : World) : Exit → Env → World → Option (Exit × (Int) × World) :=
  blkK 3 (g23_K51 u0 u1 w0)

/-- the loop, from a state on -/
noncomputable def g23_l32 (u0 : Option Addr × Nat × Nat) (u1 : Int) (w0 : World) (s3 : Int) (w4 : World) (s : Int) (w : World) : Option (Exit × (Int) × World) :=
  loopM Try.prog 79 23 g23_ann (cAt [1, 1, 0, 1, 0, 0, 1, 0, 0, 1, 1, 1, 0, 1, 1, 1, 0, 1, 1, 0, 0] (bodyOf Try.f23)) [0, 1, 1, 0, 1, 1, 1, 0, 1, 1, 1, 0, 0, 1, 0, 0, 1, 0, 1, 1] (g23_K52 u0 u1 w0) ((g23_l32_cs u0 u1 w0 s3 w4) ++ sputs [(8, .i .i64)] s) w

/-- behind the loop, left by x3 -/
noncomputable def g23_l32_x3 (s3 : Int) (t53 : Int) (w54 : World) : Option (Exit × (Int) × World) :=
some (.normal, (IntKind.i64.wrap (s3 + 1)), w54)

/-- the round of a loop (penstock/penstockref15.Tx) -/
noncomputable def g23_l2_b (u0 : Option Addr × Nat × Nat) (u1 : Int) (w0 : World) (s3 : Int) (w4 : World) : Option (Exit × (Int) × World) :=
if (decide ((s3 : Int) < (u0.2.1 : Int))) = true then
((idxA u0.1 u0.2.1 7 s3).bind fun a6 =>
(ldN w4 a6 0 7).bind fun l7 =>
(asI .i64 (l7.getD 0 undef)).bind fun n8 =>
(asI .i64 (l7.getD 1 undef)).bind fun n9 =>
(asI .i64 (l7.getD 2 undef)).bind fun n10 =>
(asI .u64 (l7.getD 3 undef)).bind fun n11 =>
(asI .i64 (l7.getD 4 undef)).bind fun n12 =>
(asSl (l7.getD 5 undef)).bind fun q13 =>
(asB (l7.getD 6 undef)).bind fun b14 =>
(stL (World.alloc w4 (.cells #[.int .i64 0, .int .i64 0, .int .i64 0, .int .u64 0, .int .i64 0, .slice none 0 0, .bool false] 30)) (⟨w4.heap.size, 0, none⟩) [.int .i64 n8, .int .i64 n9, .int .i64 n10, .int .u64 n11, .int .i64 n12, .slice q13.1 q13.2.1 q13.2.2, .bool b14] 0).bind fun w15 =>
(World.cell? w15 (Addr.add (⟨w4.heap.size, 0, none⟩) 1)).bind fun v16 =>
(asI .i64 v16).bind fun n17 =>
if ((n17 : Int) != u1) = true then
(some (.normal, (IntKind.i64.wrap (s3 + 1)), w15))
else
((World.cell? w15 (⟨w4.heap.size, 0, none⟩)).bind fun v18 =>
(asI .i64 v18).bind fun n19 =>
if ((n19 : Int) == 1) = true then
((st1 w15 (⟨(World.alloc w0 (.cells #[.int .i64 0, .int .i64 0, .int .u64 0, .int .i64 0, .slice none 0 0, .int .i64 0, .int .u64 0, .bool false] 46)).heap.size, 0, none⟩) (.int .i64 1)).bind fun w20 =>
(World.cell? w20 (Addr.add (⟨w4.heap.size, 0, none⟩) 2)).bind fun v21 =>
(asI .i64 v21).bind fun n22 =>
(st1 w20 (Addr.add (⟨(World.alloc w0 (.cells #[.int .i64 0, .int .i64 0, .int .u64 0, .int .i64 0, .slice none 0 0, .int .i64 0, .int .u64 0, .bool false] 46)).heap.size, 0, none⟩) 1) (.int .i64 n22)).bind fun w23 =>
(World.cell? w23 (Addr.add (⟨w4.heap.size, 0, none⟩) 3)).bind fun v24 =>
(asI .u64 v24).bind fun n25 =>
(st1 w23 (Addr.add (⟨(World.alloc w0 (.cells #[.int .i64 0, .int .i64 0, .int .u64 0, .int .i64 0, .slice none 0 0, .int .i64 0, .int .u64 0, .bool false] 46)).heap.size, 0, none⟩) 2) (.int .u64 n25)).bind fun w26 =>
(World.cell? w26 (Addr.add (⟨w4.heap.size, 0, none⟩) 4)).bind fun v27 =>
(asI .i64 v27).bind fun n28 =>
(st1 w26 (Addr.add (⟨(World.alloc w0 (.cells #[.int .i64 0, .int .i64 0, .int .u64 0, .int .i64 0, .slice none 0 0, .int .i64 0, .int .u64 0, .bool false] 46)).heap.size, 0, none⟩) 3) (.int .i64 n28)).bind fun w29 =>
(st1 w29 (Addr.add (⟨(World.alloc w0 (.cells #[.int .i64 0, .int .i64 0, .int .u64 0, .int .i64 0, .slice none 0 0, .int .i64 0, .int .u64 0, .bool false] 46)).heap.size, 0, none⟩) 4) (.slice none 0 0)).bind fun w30 =>
some (.normal, (IntKind.i64.wrap (s3 + 1)), w30))
else
(if ((n19 : Int) == 2) = true then
((st1 w15 (⟨(World.alloc w0 (.cells #[.int .i64 0, .int .i64 0, .int .u64 0, .int .i64 0, .slice none 0 0, .int .i64 0, .int .u64 0, .bool false] 46)).heap.size, 0, none⟩) (.int .i64 2)).bind fun w31 =>
g23_l32 u0 u1 w0 s3 w4 0 w31)
else
(if ((n19 : Int) == 3) = true then
((st1 w15 (⟨(World.alloc w0 (.cells #[.int .i64 0, .int .i64 0, .int .u64 0, .int .i64 0, .slice none 0 0, .int .i64 0, .int .u64 0, .bool false] 46)).heap.size, 0, none⟩) (.int .i64 3)).bind fun w55 =>
(World.cell? w55 (Addr.add (⟨(World.alloc w0 (.cells #[.int .i64 0, .int .i64 0, .int .u64 0, .int .i64 0, .slice none 0 0, .int .i64 0, .int .u64 0, .bool false] 46)).heap.size, 0, none⟩) 3)).bind fun v56 =>
(asI .i64 v56).bind fun n57 =>
(st1 w55 (Addr.add (⟨(World.alloc w0 (.cells #[.int .i64 0, .int .i64 0, .int .u64 0, .int .i64 0, .slice none 0 0, .int .i64 0, .int .u64 0, .bool false] 46)).heap.size, 0, none⟩) 5) (.int .i64 n57)).bind fun w58 =>
(World.cell? w58 (Addr.add (⟨(World.alloc w0 (.cells #[.int .i64 0, .int .i64 0, .int .u64 0, .int .i64 0, .slice none 0 0, .int .i64 0, .int .u64 0, .bool false] 46)).heap.size, 0, none⟩) 2)).bind fun v59 =>
(asI .u64 v59).bind fun n60 =>
(st1 w58 (Addr.add (⟨(World.alloc w0 (.cells #[.int .i64 0, .int .i64 0, .int .u64 0, .int .i64 0, .slice none 0 0, .int .i64 0, .int .u64 0, .bool false] 46)).heap.size, 0, none⟩) 6) (.int .u64 n60)).bind fun w61 =>
(World.cell? w61 (Addr.add (⟨w4.heap.size, 0, none⟩) 6)).bind fun v62 =>
(asB v62).bind fun b63 =>
(st1 w61 (Addr.add (⟨(World.alloc w0 (.cells #[.int .i64 0, .int .i64 0, .int .u64 0, .int .i64 0, .slice none 0 0, .int .i64 0, .int .u64 0, .bool false] 46)).heap.size, 0, none⟩) 7) (.bool b63)).bind fun w64 =>
some (.normal, (IntKind.i64.wrap (s3 + 1)), w64))
else
(if ((n19 : Int) == 4) = true then
((st1 w15 (⟨(World.alloc w0 (.cells #[.int .i64 0, .int .i64 0, .int .u64 0, .int .i64 0, .slice none 0 0, .int .i64 0, .int .u64 0, .bool false] 46)).heap.size, 0, none⟩) (.int .i64 4)).bind fun w65 =>
(World.cell? w65 (Addr.add (⟨(World.alloc w0 (.cells #[.int .i64 0, .int .i64 0, .int .u64 0, .int .i64 0, .slice none 0 0, .int .i64 0, .int .u64 0, .bool false] 46)).heap.size, 0, none⟩) 5)).bind fun v66 =>
(asI .i64 v66).bind fun n67 =>
(st1 w65 (Addr.add (⟨(World.alloc w0 (.cells #[.int .i64 0, .int .i64 0, .int .u64 0, .int .i64 0, .slice none 0 0, .int .i64 0, .int .u64 0, .bool false] 46)).heap.size, 0, none⟩) 3) (.int .i64 (IntKind.i64.wrap (n67 + 2)))).bind fun w68 =>
(st1 w68 (Addr.add (⟨(World.alloc w0 (.cells #[.int .i64 0, .int .i64 0, .int .u64 0, .int .i64 0, .slice none 0 0, .int .i64 0, .int .u64 0, .bool false] 46)).heap.size, 0, none⟩) 4) (.slice none 0 0)).bind fun w69 =>
some (.normal, (IntKind.i64.wrap (s3 + 1)), w69))
else
(some (.normal, (IntKind.i64.wrap (s3 + 1)), w15)))))))
else
(some ((.exit 0), s3, w4))

noncomputable def g23_K70  : Exit → Env → World → Option (Value × World) :=
  retK Try.prog Try.f23.results.toList

noncomputable def g23_K71  : Exit → Env → World → Option (Value × World) :=
  seqK (ev Try.prog 79 23 g23_ann (cAt [1, 1, 1] (bodyOf Try.f23)) [1, 1, 1] g23_K70) g23_K70

noncomputable def g23_K72  : Exit → Env → World → Option (Value × World) :=
  blkK 0 g23_K71

/-- the loop, from a state on -/
noncomputable def g23_l2 (u0 : Option Addr × Nat × Nat) (u1 : Int) (w0 : World) (s : Int) (w : World) : Option (Value × World) :=
  loopM Try.prog 79 23 g23_ann (cAt [1, 1, 0, 1, 0, 0] (bodyOf Try.f23)) [0, 1, 0, 1, 1] g23_K72 ((g23_l2_cs u0 u1 w0) ++ sputs [(6, .i .i64)] s) w

/-- behind the loop, left by x0 -/
noncomputable def g23_l2_x0 (w0 : World) (t73 : Int) (w74 : World) : Option (Value × World) :=
(ldN w74 (⟨(World.alloc w0 (.cells #[.int .i64 0, .int .i64 0, .int .u64 0, .int .i64 0, .slice none 0 0, .int .i64 0, .int .u64 0, .bool false] 46)).heap.size, 0, none⟩) 0 8).bind fun l75 =>
(asI .i64 (l75.getD 0 undef)).bind fun n76 =>
(asI .i64 (l75.getD 1 undef)).bind fun n77 =>
(asI .u64 (l75.getD 2 undef)).bind fun n78 =>
(asI .i64 (l75.getD 3 undef)).bind fun n79 =>
(asSl (l75.getD 4 undef)).bind fun q80 =>
(asI .i64 (l75.getD 5 undef)).bind fun n81 =>
(asI .u64 (l75.getD 6 undef)).bind fun n82 =>
(asB (l75.getD 7 undef)).bind fun b83 =>
(stL w74 (⟨w0.heap.size, 0, none⟩) [.int .i64 n76, .int .i64 n77, .int .u64 n78, .int .i64 n79, .slice q80.1 q80.2.1 q80.2.2, .int .i64 n81, .int .u64 n82, .bool b83] 0).bind fun w84 =>
(ldN w84 (⟨w0.heap.size, 0, none⟩) 0 8).bind fun l85 =>
(asI .i64 (l85.getD 0 undef)).bind fun n86 =>
(asI .i64 (l85.getD 1 undef)).bind fun n87 =>
(asI .u64 (l85.getD 2 undef)).bind fun n88 =>
(asI .i64 (l85.getD 3 undef)).bind fun n89 =>
(asSl (l85.getD 4 undef)).bind fun q90 =>
(asI .i64 (l85.getD 5 undef)).bind fun n91 =>
(asI .u64 (l85.getD 6 undef)).bind fun n92 =>
(asB (l85.getD 7 undef)).bind fun b93 =>
some (.agg #[.int .i64 n86, .int .i64 n87, .int .u64 n88, .int .i64 n89, .slice q90.1 q90.2.1 q90.2.2, .int .i64 n91, .int .u64 n92, .bool b93], w84)

noncomputable def g23 (u0 : Option Addr × Nat × Nat) (u1 : Int) (w0 : World) : Option (Value × World) :=
(stL (World.alloc (World.alloc w0 (.cells #[.int .i64 0, .int .i64 0, .int .u64 0, .int .i64 0, .slice none 0 0, .int .i64 0, .int .u64 0, .bool false] 46)) (.cells #[.int .i64 0, .int .i64 0, .int .u64 0, .int .i64 0, .slice none 0 0, .int .i64 0, .int .u64 0, .bool false] 46)) (⟨(World.alloc w0 (.cells #[.int .i64 0, .int .i64 0, .int .u64 0, .int .i64 0, .slice none 0 0, .int .i64 0, .int .u64 0, .bool false] 46)).heap.size, 0, none⟩) [.int .i64 0, .int .i64 0, .int .u64 0, .int .i64 0, .slice none 0 0, .int .i64 (-1), .int .u64 0, .bool false] 0).bind fun w1 =>
g23_l2 u0 u1 w0 0 w1

theorem g23_eq (u0 : Option Addr × Nat × Nat) (u1 : Int) (w0 : World) : evFn Try.prog 23 g23_ann #[.slice u0.1 u0.2.1 u0.2.2, .int .i64 u1] w0 = g23 u0 u1 w0 := by kernel_rfl

theorem g23_call {u0 : Option Addr × Nat × Nat} {u1 : Int} {w0 : World} {r : Value × World} (h : g23 u0 u1 w0 = some r) : callF Try.prog 23 #[.slice u0.1 u0.2.1 u0.2.2, .int .i64 u1] w0 = some r :=
  callF_of_evFn (ann := g23_ann) Try.call23 (by kernel_rfl) ((g23_eq u0 u1 w0).trans h)

theorem g23_l32_x3_of {u0 : Option Addr × Nat × Nat} {u1 : Int} {w0 : World} {s3 : Int} {w4 : World} {s t : Int} {w w' : World} (h : loopS (g23_l32_b w4 w0 u0 u1 s3) s w = some (.exit 3, t, w')) : g23_l32 u0 u1 w0 s3 w4 s w = g23_l32_x3 s3 t w' := by
  have h1 : g23_l32 u0 u1 w0 s3 w4 s w = loopM Try.prog 79 23 g23_ann (cAt [1, 1, 0, 1, 0, 0, 1, 0, 0, 1, 1, 1, 0, 1, 1, 1, 0, 1, 1, 0, 0] (bodyOf Try.f23)) [0, 1, 1, 0, 1, 1, 1, 0, 1, 1, 1, 0, 0, 1, 0, 0, 1, 0, 1, 1] (g23_K52 u0 u1 w0) ((g23_l32_cs u0 u1 w0 s3 w4) ++ sputs [(8, .i .i64)] s) w := by kernel_rfl
  have h2 : loopM Try.prog 79 23 g23_ann (cAt [1, 1, 0, 1, 0, 0, 1, 0, 0, 1, 1, 1, 0, 1, 1, 1, 0, 1, 1, 0, 0] (bodyOf Try.f23)) [0, 1, 1, 0, 1, 1, 1, 0, 1, 1, 1, 0, 0, 1, 0, 0, 1, 0, 1, 1] (g23_K52 u0 u1 w0) ((g23_l32_cs u0 u1 w0 s3 w4) ++ sputs [(8, .i .i64)] s) w = (g23_K52 u0 u1 w0) (.exit 3) (puts 79 ((g23_l32_cs u0 u1 w0 s3 w4) ++ sputs [(8, .i .i64)] t)) w' :=
    loop_rule (P := Try.prog) (N := 79) (f := 23) (ann := g23_ann) (body := (cAt [1, 1, 0, 1, 0, 0, 1, 0, 0, 1, 1, 1, 0, 1, 1, 1, 0, 1, 1, 0, 0] (bodyOf Try.f23))) (pt := [0, 1, 1, 0, 1, 1, 1, 0, 1, 1, 1, 0, 0, 1, 0, 0, 1, 0, 1, 1]) (K := (g23_K52 u0 u1 w0)) (g23_l32_cs u0 u1 w0 s3 w4) [(8, .i .i64)] (b := g23_l32_b w4 w0 u0 u1 s3) (fun s w => by kernel_rfl) (by kernel_rfl) (by kernel_rfl) (by kernel_rfl) h
  have h3 : (g23_K52 u0 u1 w0) (.exit 3) (puts 79 ((g23_l32_cs u0 u1 w0 s3 w4) ++ sputs [(8, .i .i64)] t)) w' = g23_l32_x3 s3 t w' := by kernel_rfl
  exact h1.trans (h2.trans h3)

theorem g23_l2_x0_of {u0 : Option Addr × Nat × Nat} {u1 : Int} {w0 : World} {s t : Int} {w w' : World} (h : loopS (g23_l2_b u0 u1 w0) s w = some (.exit 0, t, w')) : g23_l2 u0 u1 w0 s w = g23_l2_x0 w0 t w' := by
  have h1 : g23_l2 u0 u1 w0 s w = loopM Try.prog 79 23 g23_ann (cAt [1, 1, 0, 1, 0, 0] (bodyOf Try.f23)) [0, 1, 0, 1, 1] g23_K72 ((g23_l2_cs u0 u1 w0) ++ sputs [(6, .i .i64)] s) w := by kernel_rfl
  have h2 : loopM Try.prog 79 23 g23_ann (cAt [1, 1, 0, 1, 0, 0] (bodyOf Try.f23)) [0, 1, 0, 1, 1] g23_K72 ((g23_l2_cs u0 u1 w0) ++ sputs [(6, .i .i64)] s) w = g23_K72 (.exit 0) (puts 79 ((g23_l2_cs u0 u1 w0) ++ sputs [(6, .i .i64)] t)) w' :=
    loop_rule (P := Try.prog) (N := 79) (f := 23) (ann := g23_ann) (body := (cAt [1, 1, 0, 1, 0, 0] (bodyOf Try.f23))) (pt := [0, 1, 0, 1, 1]) (K := g23_K72) (g23_l2_cs u0 u1 w0) [(6, .i .i64)] (b := g23_l2_b u0 u1 w0) (fun s w => by kernel_rfl) (by kernel_rfl) (by kernel_rfl) (by kernel_rfl) h
  have h3 : g23_K72 (.exit 0) (puts 79 ((g23_l2_cs u0 u1 w0) ++ sputs [(6, .i .i64)] t)) w' = g23_l2_x0 w0 t w' := by kernel_rfl
  exact h1.trans (h2.trans h3)

/-! 35: penstock/penstockref03.SameInts (a: []int, b: []int) -/
def g35_ann : List (List Nat × List Nat) := [([0, 1, 0, 1, 1], [0, 1, 4, 5])]

def g35_l3_cs (u0 : Option Addr × Nat × Nat) (u1 : Option Addr × Nat × Nat) : List (Nat × Value) := ([(0, .slice u0.1 u0.2.1 u0.2.2), (1, .slice u1.1 u1.2.1 u1.2.2)] : List (Nat × Value))

/-- the round of a loop (penstock/penstockref03.SameInts) -/
noncomputable def g35_l3_b (u0 : Option Addr × Nat × Nat) (u1 : Option Addr × Nat × Nat) (s4 : Bool × Int) (w5 : World) : Option (Exit × (Bool × Int) × World) :=
if (decide ((s4.2 : Int) < (u0.2.1 : Int))) = true then
((idxA u0.1 u0.2.1 1 s4.2).bind fun a7 =>
(World.cell? (World.drew w5) a7).bind fun v8 =>
(asI .i64 v8).bind fun n9 =>
(idxA u1.1 u1.2.1 1 s4.2).bind fun a10 =>
(World.cell? (World.drew w5) a10).bind fun v11 =>
(asI .i64 v11).bind fun n12 =>
if ((n9 : Int) != n12) = true then
(some (.ret, (false, s4.2), (World.drew w5)))
else
(some (.normal, (s4.1, (IntKind.i64.wrap (s4.2 + 1))), (World.drew w5))))
else
(some ((.exit 0), (s4.1, s4.2), w5))

noncomputable def g35_K13  : Exit → Env → World → Option (Value × World) :=
  retK Try.prog Try.f35.results.toList

noncomputable def g35_K14  : Exit → Env → World → Option (Value × World) :=
  seqK (ev Try.prog 26 35 g35_ann (cAt [1, 1, 1] (bodyOf Try.f35)) [1, 1, 1] g35_K13) g35_K13

noncomputable def g35_K15  : Exit → Env → World → Option (Value × World) :=
  blkK 0 g35_K14

/-- the loop, from a state on -/
noncomputable def g35_l3 (u0 : Option Addr × Nat × Nat) (u1 : Option Addr × Nat × Nat) (s : Bool × Int) (w : World) : Option (Value × World) :=
  loopM Try.prog 26 35 g35_ann (cAt [1, 1, 0, 1, 0, 0] (bodyOf Try.f35)) [0, 1, 0, 1, 1] g35_K15 ((g35_l3_cs u0 u1) ++ sputs [(4, .b), (5, .i .i64)] s) w

/-- behind the loop, left by x0 -/
noncomputable def g35_l3_x0  (t16 : Bool × Int) (w17 : World) : Option (Value × World) :=
some (.bool true, w17)

noncomputable def g35 (u0 : Option Addr × Nat × Nat) (u1 : Option Addr × Nat × Nat) (w0 : World) : Option (Value × World) :=
if (((u0.2.1 : Int) : Int) != (u1.2.1 : Int)) = true then
(some (.bool false, w0))
else
(g35_l3 u0 u1 (false, 0) w0)

theorem g35_eq (u0 : Option Addr × Nat × Nat) (u1 : Option Addr × Nat × Nat) (w0 : World) : evFn Try.prog 35 g35_ann #[.slice u0.1 u0.2.1 u0.2.2, .slice u1.1 u1.2.1 u1.2.2] w0 = g35 u0 u1 w0 := by kernel_rfl

theorem g35_call {u0 : Option Addr × Nat × Nat} {u1 : Option Addr × Nat × Nat} {w0 : World} {r : Value × World} (h : g35 u0 u1 w0 = some r) : callF Try.prog 35 #[.slice u0.1 u0.2.1 u0.2.2, .slice u1.1 u1.2.1 u1.2.2] w0 = some r :=
  callF_of_evFn (ann := g35_ann) Try.call35 (by kernel_rfl) ((g35_eq u0 u1 w0).trans h)

theorem g35_l3_x0_of {u0 : Option Addr × Nat × Nat} {u1 : Option Addr × Nat × Nat} {s t : Bool × Int} {w w' : World} (h : loopS (g35_l3_b u0 u1) s w = some (.exit 0, t, w')) : g35_l3 u0 u1 s w = g35_l3_x0 t w' := by
  have h1 : g35_l3 u0 u1 s w = loopM Try.prog 26 35 g35_ann (cAt [1, 1, 0, 1, 0, 0] (bodyOf Try.f35)) [0, 1, 0, 1, 1] g35_K15 ((g35_l3_cs u0 u1) ++ sputs [(4, .b), (5, .i .i64)] s) w := by kernel_rfl
  have h2 : loopM Try.prog 26 35 g35_ann (cAt [1, 1, 0, 1, 0, 0] (bodyOf Try.f35)) [0, 1, 0, 1, 1] g35_K15 ((g35_l3_cs u0 u1) ++ sputs [(4, .b), (5, .i .i64)] s) w = g35_K15 (.exit 0) (puts 26 ((g35_l3_cs u0 u1) ++ sputs [(4, .b), (5, .i .i64)] t)) w' :=
    loop_rule (P := Try.prog) (N := 26) (f := 35) (ann := g35_ann) (body := (cAt [1, 1, 0, 1, 0, 0] (bodyOf Try.f35))) (pt := [0, 1, 0, 1, 1]) (K := g35_K15) (g35_l3_cs u0 u1) [(4, .b), (5, .i .i64)] (b := g35_l3_b u0 u1) (fun s w => by kernel_rfl) (by kernel_rfl) (by kernel_rfl) (by kernel_rfl) h
  have h3 : g35_K15 (.exit 0) (puts 26 ((g35_l3_cs u0 u1) ++ sputs [(4, .b), (5, .i .i64)] t)) w' = g35_l3_x0 t w' := by kernel_rfl
  exact h1.trans (h2.trans h3)

/-! 37: penstock/penstockref15.with (l: []int, n: int) -/
def g37_ann : List (List Nat × List Nat) := [([0, 1, 0, 1, 1, 1], [0, 1, 4, 5, 6, 7])]

def g37_l1_cs (u0 : Option Addr × Nat × Nat) (u1 : Int) : List (Nat × Value) := ([(0, .slice u0.1 u0.2.1 u0.2.2), (1, .int .i64 u1), (4, .slice none 0 0)] : List (Nat × Value))

noncomputable def g37_j5 (u0 : Option Addr × Nat × Nat) (s2 : (Option Addr × Nat × Nat) × Bool × Int) (w3 : World) (u1 : Int) (x9 : Bool) : Option (Exit × ((Option Addr × Nat × Nat) × Bool × Int) × World) :=
(idxA u0.1 u0.2.1 1 s2.2.2).bind fun a11 =>
(World.cell? w3 a11).bind fun v12 =>
(asI .i64 v12).bind fun n13 =>
if (decide ((n13 : Int) > u1)) = true then
(if (!x9) = true then
((callB Try.prog .append #[28, 28] 28 #[false, false] #[.slice s2.1.1 s2.1.2.1 s2.1.2.2, .slice (some (⟨w3.heap.size, 0, none⟩)) 1 1] (World.alloc w3 (.cells #[.int .i64 u1] 3))).bind fun r14 =>
(asSl r14.1).bind fun q15 =>
(idxA u0.1 u0.2.1 1 s2.2.2).bind fun a16 =>
(World.cell? r14.2 a16).bind fun v17 =>
(asI .i64 v17).bind fun n18 =>
(callB Try.prog .append #[28, 28] 28 #[false, false] #[.slice q15.1 q15.2.1 q15.2.2, .slice (some (⟨r14.2.heap.size, 0, none⟩)) 1 1] (World.alloc r14.2 (.cells #[.int .i64 n18] 3))).bind fun r19 =>
(asSl r19.1).bind fun q20 =>
some (.normal, ((q20.1, q20.2.1, q20.2.2), true, (IntKind.i64.wrap (s2.2.2 + 1))), r19.2))
else
((idxA u0.1 u0.2.1 1 s2.2.2).bind fun a21 =>
(World.cell? w3 a21).bind fun v22 =>
(asI .i64 v22).bind fun n23 =>
(callB Try.prog .append #[28, 28] 28 #[false, false] #[.slice s2.1.1 s2.1.2.1 s2.1.2.2, .slice (some (⟨w3.heap.size, 0, none⟩)) 1 1] (World.alloc w3 (.cells #[.int .i64 n23] 3))).bind fun r24 =>
(asSl r24.1).bind fun q25 =>
some (.normal, ((q25.1, q25.2.1, q25.2.2), x9, (IntKind.i64.wrap (s2.2.2 + 1))), r24.2)))
else
((idxA u0.1 u0.2.1 1 s2.2.2).bind fun a26 =>
(World.cell? w3 a26).bind fun v27 =>
(asI .i64 v27).bind fun n28 =>
(callB Try.prog .append #[28, 28] 28 #[false, false] #[.slice s2.1.1 s2.1.2.1 s2.1.2.2, .slice (some (⟨w3.heap.size, 0, none⟩)) 1 1] (World.alloc w3 (.cells #[.int .i64 n28] 3))).bind fun r29 =>
(asSl r29.1).bind fun q30 =>
some (.normal, ((q30.1, q30.2.1, q30.2.2), x9, (IntKind.i64.wrap (s2.2.2 + 1))), r29.2))

/-- the round of a loop (penstock/penstockref15.with) -/
noncomputable def g37_l1_b (u0 : Option Addr × Nat × Nat) (u1 : Int) (s2 : (Option Addr × Nat × Nat) × Bool × Int) (w3 : World) : Option (Exit × ((Option Addr × Nat × Nat) × Bool × Int) × World) :=
if (decide ((s2.2.2 : Int) < (u0.2.1 : Int))) = true then
((idxA u0.1 u0.2.1 1 s2.2.2).bind fun a6 =>
(World.cell? w3 a6).bind fun v7 =>
(asI .i64 v7).bind fun n8 =>
if ((n8 : Int) == u1) = true then
(g37_j5 u0 s2 w3 u1 true)
else
(g37_j5 u0 s2 w3 u1 s2.2.1))
else
(some ((.exit 0), ((s2.1.1, s2.1.2.1, s2.1.2.2), s2.2.1, s2.2.2), w3))

noncomputable def g37_K31  : Exit → Env → World → Option (Value × World) :=
  retK Try.prog Try.f37.results.toList

noncomputable def g37_K32  : Exit → Env → World → Option (Value × World) :=
  seqK (ev Try.prog 48 37 g37_ann (cAt [1, 1, 1, 1] (bodyOf Try.f37)) [1, 1, 1, 1] g37_K31) g37_K31

noncomputable def g37_K33  : Exit → Env → World → Option (Value × World) :=
  blkK 0 g37_K32

/-- the loop, from a state on -/
noncomputable def g37_l1 (u0 : Option Addr × Nat × Nat) (u1 : Int) (s : (Option Addr × Nat × Nat) × Bool × Int) (w : World) : Option (Value × World) :=
  loopM Try.prog 48 37 g37_ann (cAt [1, 1, 1, 0, 1, 0, 0] (bodyOf Try.f37)) [0, 1, 0, 1, 1, 1] g37_K33 ((g37_l1_cs u0 u1) ++ sputs [(5, .sl), (6, .b), (7, .i .i64)] s) w

/-- behind the loop, left by x0 -/
noncomputable def g37_l1_x0 (u1 : Int) (t34 : (Option Addr × Nat × Nat) × Bool × Int) (w35 : World) : Option (Value × World) :=
if (!t34.2.1) = true then
((callB Try.prog .append #[28, 28] 28 #[false, false] #[.slice t34.1.1 t34.1.2.1 t34.1.2.2, .slice (some (⟨w35.heap.size, 0, none⟩)) 1 1] (World.alloc w35 (.cells #[.int .i64 u1] 3))).bind fun r36 =>
(asSl r36.1).bind fun q37 =>
some (.slice q37.1 q37.2.1 q37.2.2, r36.2))
else
(some (.slice t34.1.1 t34.1.2.1 t34.1.2.2, w35))

noncomputable def g37 (u0 : Option Addr × Nat × Nat) (u1 : Int) (w0 : World) : Option (Value × World) :=
g37_l1 u0 u1 ((none, 0, 0), false, 0) w0

theorem g37_eq (u0 : Option Addr × Nat × Nat) (u1 : Int) (w0 : World) : evFn Try.prog 37 g37_ann #[.slice u0.1 u0.2.1 u0.2.2, .int .i64 u1] w0 = g37 u0 u1 w0 := by kernel_rfl

theorem g37_call {u0 : Option Addr × Nat × Nat} {u1 : Int} {w0 : World} {r : Value × World} (h : g37 u0 u1 w0 = some r) : callF Try.prog 37 #[.slice u0.1 u0.2.1 u0.2.2, .int .i64 u1] w0 = some r :=
  callF_of_evFn (ann := g37_ann) Try.call37 (by kernel_rfl) ((g37_eq u0 u1 w0).trans h)

theorem g37_l1_x0_of {u0 : Option Addr × Nat × Nat} {u1 : Int} {s t : (Option Addr × Nat × Nat) × Bool × Int} {w w' : World} (h : loopS (g37_l1_b u0 u1) s w = some (.exit 0, t, w')) : g37_l1 u0 u1 s w = g37_l1_x0 u1 t w' := by
  have h1 : g37_l1 u0 u1 s w = loopM Try.prog 48 37 g37_ann (cAt [1, 1, 1, 0, 1, 0, 0] (bodyOf Try.f37)) [0, 1, 0, 1, 1, 1] g37_K33 ((g37_l1_cs u0 u1) ++ sputs [(5, .sl), (6, .b), (7, .i .i64)] s) w := by kernel_rfl
  have h2 : loopM Try.prog 48 37 g37_ann (cAt [1, 1, 1, 0, 1, 0, 0] (bodyOf Try.f37)) [0, 1, 0, 1, 1, 1] g37_K33 ((g37_l1_cs u0 u1) ++ sputs [(5, .sl), (6, .b), (7, .i .i64)] s) w = g37_K33 (.exit 0) (puts 48 ((g37_l1_cs u0 u1) ++ sputs [(5, .sl), (6, .b), (7, .i .i64)] t)) w' :=
    loop_rule (P := Try.prog) (N := 48) (f := 37) (ann := g37_ann) (body := (cAt [1, 1, 1, 0, 1, 0, 0] (bodyOf Try.f37))) (pt := [0, 1, 0, 1, 1, 1]) (K := g37_K33) (g37_l1_cs u0 u1) [(5, .sl), (6, .b), (7, .i .i64)] (b := g37_l1_b u0 u1) (fun s w => by kernel_rfl) (by kernel_rfl) (by kernel_rfl) (by kernel_rfl) h
  have h3 : g37_K33 (.exit 0) (puts 48 ((g37_l1_cs u0 u1) ++ sputs [(5, .sl), (6, .b), (7, .i .i64)] t)) w' = g37_l1_x0 u1 t w' := by kernel_rfl
  exact h1.trans (h2.trans h3)

end Go.Proofs.Ytlcojbodcbjkaaa
