/-
  TxnV6: lemmas on what Go functions of this seat come to (for whatever arguments, as each says). No condition but those that stand in each lemma.
-/
import Derived.Test.YtlcojbodcbjkaaaTxnF0
namespace Go.Proofs.Ytlcojbodcbjkaaa
open Go Go.Ev
set_option maxRecDepth 100000
set_option linter.unusedVariables false
/-! 12: penstock/penstocklaw15.own (r: api.TxRec) -/
def g12_ann : List (List Nat × List Nat) := []

noncomputable def g12 (u0c0 : Int) (u0c1 : Int) (u0c2 : Int) (u0c3 : Int) (u0c4 : Int) (u0c5 : Option Addr × Nat × Nat) (u0c6 : Bool) (w0 : World) : Option (Value × World) :=
(World.cell? (World.alloc (World.alloc (World.alloc w0 (.cells #[.int .i64 u0c0, .int .i64 u0c1, .int .i64 u0c2, .int .u64 u0c3, .int .i64 u0c4, .slice u0c5.1 u0c5.2.1 u0c5.2.2, .bool u0c6] 30)) (.cells #[.int .i64 0, .int .i64 0, .int .i64 0, .int .u64 0, .int .i64 0, .slice none 0 0, .bool false] 30)) (.cells #[] 3)) (Addr.add (⟨w0.heap.size, 0, none⟩) 5)).bind fun v1 =>
(asSl v1).bind fun q2 =>
(callB Try.prog .append #[28, 28] 28 #[false, false] #[.slice (some (⟨(World.alloc (World.alloc w0 (.cells #[.int .i64 u0c0, .int .i64 u0c1, .int .i64 u0c2, .int .u64 u0c3, .int .i64 u0c4, .slice u0c5.1 u0c5.2.1 u0c5.2.2, .bool u0c6] 30)) (.cells #[.int .i64 0, .int .i64 0, .int .i64 0, .int .u64 0, .int .i64 0, .slice none 0 0, .bool false] 30)).heap.size, 0, none⟩)) 0 0, .slice q2.1 q2.2.1 q2.2.2] (World.alloc (World.alloc (World.alloc w0 (.cells #[.int .i64 u0c0, .int .i64 u0c1, .int .i64 u0c2, .int .u64 u0c3, .int .i64 u0c4, .slice u0c5.1 u0c5.2.1 u0c5.2.2, .bool u0c6] 30)) (.cells #[.int .i64 0, .int .i64 0, .int .i64 0, .int .u64 0, .int .i64 0, .slice none 0 0, .bool false] 30)) (.cells #[] 3))).bind fun r3 =>
(asSl r3.1).bind fun q4 =>
(st1 r3.2 (Addr.add (⟨w0.heap.size, 0, none⟩) 5) (.slice q4.1 q4.2.1 q4.2.2)).bind fun w5 =>
(ldN w5 (⟨w0.heap.size, 0, none⟩) 0 7).bind fun l6 =>
(asI .i64 (l6.getD 0 undef)).bind fun n7 =>
(asI .i64 (l6.getD 1 undef)).bind fun n8 =>
(asI .i64 (l6.getD 2 undef)).bind fun n9 =>
(asI .u64 (l6.getD 3 undef)).bind fun n10 =>
(asI .i64 (l6.getD 4 undef)).bind fun n11 =>
(asSl (l6.getD 5 undef)).bind fun q12 =>
(asB (l6.getD 6 undef)).bind fun b13 =>
(stL w5 (⟨(World.alloc w0 (.cells #[.int .i64 u0c0, .int .i64 u0c1, .int .i64 u0c2, .int .u64 u0c3, .int .i64 u0c4, .slice u0c5.1 u0c5.2.1 u0c5.2.2, .bool u0c6] 30)).heap.size, 0, none⟩) [.int .i64 n7, .int .i64 n8, .int .i64 n9, .int .u64 n10, .int .i64 n11, .slice q12.1 q12.2.1 q12.2.2, .bool b13] 0).bind fun w14 =>
(ldN w14 (⟨(World.alloc w0 (.cells #[.int .i64 u0c0, .int .i64 u0c1, .int .i64 u0c2, .int .u64 u0c3, .int .i64 u0c4, .slice u0c5.1 u0c5.2.1 u0c5.2.2, .bool u0c6] 30)).heap.size, 0, none⟩) 0 7).bind fun l15 =>
(asI .i64 (l15.getD 0 undef)).bind fun n16 =>
(asI .i64 (l15.getD 1 undef)).bind fun n17 =>
(asI .i64 (l15.getD 2 undef)).bind fun n18 =>
(asI .u64 (l15.getD 3 undef)).bind fun n19 =>
(asI .i64 (l15.getD 4 undef)).bind fun n20 =>
(asSl (l15.getD 5 undef)).bind fun q21 =>
(asB (l15.getD 6 undef)).bind fun b22 =>
some (.agg #[.int .i64 n16, .int .i64 n17, .int .i64 n18, .int .u64 n19, .int .i64 n20, .slice q21.1 q21.2.1 q21.2.2, .bool b22], w14)

theorem g12_eq (u0c0 : Int) (u0c1 : Int) (u0c2 : Int) (u0c3 : Int) (u0c4 : Int) (u0c5 : Option Addr × Nat × Nat) (u0c6 : Bool) (w0 : World) : evFn Try.prog 12 g12_ann #[.agg #[.int .i64 u0c0, .int .i64 u0c1, .int .i64 u0c2, .int .u64 u0c3, .int .i64 u0c4, .slice u0c5.1 u0c5.2.1 u0c5.2.2, .bool u0c6]] w0 = g12 u0c0 u0c1 u0c2 u0c3 u0c4 u0c5 u0c6 w0 := by kernel_rfl

theorem g12_call {u0c0 : Int} {u0c1 : Int} {u0c2 : Int} {u0c3 : Int} {u0c4 : Int} {u0c5 : Option Addr × Nat × Nat} {u0c6 : Bool} {w0 : World} {r : Value × World} (h : g12 u0c0 u0c1 u0c2 u0c3 u0c4 u0c5 u0c6 w0 = some r) : callF Try.prog 12 #[.agg #[.int .i64 u0c0, .int .i64 u0c1, .int .i64 u0c2, .int .u64 u0c3, .int .i64 u0c4, .slice u0c5.1 u0c5.2.1 u0c5.2.2, .bool u0c6]] w0 = some r :=
  callF_of_evFn (ann := g12_ann) Try.call12 (by kernel_rfl) ((g12_eq u0c0 u0c1 u0c2 u0c3 u0c4 u0c5 u0c6 w0).trans h)

/-! 22: penstock/penstockref15.SameTx (a: api.Tx, b: api.Tx) -/
def g22_ann : List (List Nat × List Nat) := []

noncomputable def g22 (u0c0 : Int) (u0c1 : Int) (u0c2 : Int) (u0c3 : Int) (u0c4 : Option Addr × Nat × Nat) (u0c5 : Int) (u0c6 : Int) (u0c7 : Bool) (u1c0 : Int) (u1c1 : Int) (u1c2 : Int) (u1c3 : Int) (u1c4 : Option Addr × Nat × Nat) (u1c5 : Int) (u1c6 : Int) (u1c7 : Bool) (w0 : World) : Option (Value × World) :=
(World.cell? (World.alloc (World.alloc w0 (.cells #[.int .i64 u0c0, .int .i64 u0c1, .int .u64 u0c2, .int .i64 u0c3, .slice u0c4.1 u0c4.2.1 u0c4.2.2, .int .i64 u0c5, .int .u64 u0c6, .bool u0c7] 46)) (.cells #[.int .i64 u1c0, .int .i64 u1c1, .int .u64 u1c2, .int .i64 u1c3, .slice u1c4.1 u1c4.2.1 u1c4.2.2, .int .i64 u1c5, .int .u64 u1c6, .bool u1c7] 46)) (⟨w0.heap.size, 0, none⟩)).bind fun v1 =>
(asI .i64 v1).bind fun n2 =>
(World.cell? (World.alloc (World.alloc w0 (.cells #[.int .i64 u0c0, .int .i64 u0c1, .int .u64 u0c2, .int .i64 u0c3, .slice u0c4.1 u0c4.2.1 u0c4.2.2, .int .i64 u0c5, .int .u64 u0c6, .bool u0c7] 46)) (.cells #[.int .i64 u1c0, .int .i64 u1c1, .int .u64 u1c2, .int .i64 u1c3, .slice u1c4.1 u1c4.2.1 u1c4.2.2, .int .i64 u1c5, .int .u64 u1c6, .bool u1c7] 46)) (⟨(World.alloc w0 (.cells #[.int .i64 u0c0, .int .i64 u0c1, .int .u64 u0c2, .int .i64 u0c3, .slice u0c4.1 u0c4.2.1 u0c4.2.2, .int .i64 u0c5, .int .u64 u0c6, .bool u0c7] 46)).heap.size, 0, none⟩)).bind fun v3 =>
(asI .i64 v3).bind fun n4 =>
if ((n2 : Int) == n4) = true then
((World.cell? (World.alloc (World.alloc w0 (.cells #[.int .i64 u0c0, .int .i64 u0c1, .int .u64 u0c2, .int .i64 u0c3, .slice u0c4.1 u0c4.2.1 u0c4.2.2, .int .i64 u0c5, .int .u64 u0c6, .bool u0c7] 46)) (.cells #[.int .i64 u1c0, .int .i64 u1c1, .int .u64 u1c2, .int .i64 u1c3, .slice u1c4.1 u1c4.2.1 u1c4.2.2, .int .i64 u1c5, .int .u64 u1c6, .bool u1c7] 46)) (Addr.add (⟨w0.heap.size, 0, none⟩) 1)).bind fun v5 =>
(asI .i64 v5).bind fun n6 =>
(World.cell? (World.alloc (World.alloc w0 (.cells #[.int .i64 u0c0, .int .i64 u0c1, .int .u64 u0c2, .int .i64 u0c3, .slice u0c4.1 u0c4.2.1 u0c4.2.2, .int .i64 u0c5, .int .u64 u0c6, .bool u0c7] 46)) (.cells #[.int .i64 u1c0, .int .i64 u1c1, .int .u64 u1c2, .int .i64 u1c3, .slice u1c4.1 u1c4.2.1 u1c4.2.2, .int .i64 u1c5, .int .u64 u1c6, .bool u1c7] 46)) (Addr.add (⟨(World.alloc w0 (.cells #[.int .i64 u0c0, .int .i64 u0c1, .int .u64 u0c2, .int .i64 u0c3, .slice u0c4.1 u0c4.2.1 u0c4.2.2, .int .i64 u0c5, .int .u64 u0c6, .bool u0c7] 46)).heap.size, 0, none⟩) 1)).bind fun v7 =>
(asI .i64 v7).bind fun n8 =>
if ((n6 : Int) == n8) = true then
((World.cell? (World.alloc (World.alloc w0 (.cells #[.int .i64 u0c0, .int .i64 u0c1, .int .u64 u0c2, .int .i64 u0c3, .slice u0c4.1 u0c4.2.1 u0c4.2.2, .int .i64 u0c5, .int .u64 u0c6, .bool u0c7] 46)) (.cells #[.int .i64 u1c0, .int .i64 u1c1, .int .u64 u1c2, .int .i64 u1c3, .slice u1c4.1 u1c4.2.1 u1c4.2.2, .int .i64 u1c5, .int .u64 u1c6, .bool u1c7] 46)) (Addr.add (⟨w0.heap.size, 0, none⟩) 2)).bind fun v9 =>
(asI .u64 v9).bind fun n10 =>
(World.cell? (World.alloc (World.alloc w0 (.cells #[.int .i64 u0c0, .int .i64 u0c1, .int .u64 u0c2, .int .i64 u0c3, .slice u0c4.1 u0c4.2.1 u0c4.2.2, .int .i64 u0c5, .int .u64 u0c6, .bool u0c7] 46)) (.cells #[.int .i64 u1c0, .int .i64 u1c1, .int .u64 u1c2, .int .i64 u1c3, .slice u1c4.1 u1c4.2.1 u1c4.2.2, .int .i64 u1c5, .int .u64 u1c6, .bool u1c7] 46)) (Addr.add (⟨(World.alloc w0 (.cells #[.int .i64 u0c0, .int .i64 u0c1, .int .u64 u0c2, .int .i64 u0c3, .slice u0c4.1 u0c4.2.1 u0c4.2.2, .int .i64 u0c5, .int .u64 u0c6, .bool u0c7] 46)).heap.size, 0, none⟩) 2)).bind fun v11 =>
(asI .u64 v11).bind fun n12 =>
if ((n10 : Int) == n12) = true then
((World.cell? (World.alloc (World.alloc w0 (.cells #[.int .i64 u0c0, .int .i64 u0c1, .int .u64 u0c2, .int .i64 u0c3, .slice u0c4.1 u0c4.2.1 u0c4.2.2, .int .i64 u0c5, .int .u64 u0c6, .bool u0c7] 46)) (.cells #[.int .i64 u1c0, .int .i64 u1c1, .int .u64 u1c2, .int .i64 u1c3, .slice u1c4.1 u1c4.2.1 u1c4.2.2, .int .i64 u1c5, .int .u64 u1c6, .bool u1c7] 46)) (Addr.add (⟨w0.heap.size, 0, none⟩) 3)).bind fun v13 =>
(asI .i64 v13).bind fun n14 =>
(World.cell? (World.alloc (World.alloc w0 (.cells #[.int .i64 u0c0, .int .i64 u0c1, .int .u64 u0c2, .int .i64 u0c3, .slice u0c4.1 u0c4.2.1 u0c4.2.2, .int .i64 u0c5, .int .u64 u0c6, .bool u0c7] 46)) (.cells #[.int .i64 u1c0, .int .i64 u1c1, .int .u64 u1c2, .int .i64 u1c3, .slice u1c4.1 u1c4.2.1 u1c4.2.2, .int .i64 u1c5, .int .u64 u1c6, .bool u1c7] 46)) (Addr.add (⟨(World.alloc w0 (.cells #[.int .i64 u0c0, .int .i64 u0c1, .int .u64 u0c2, .int .i64 u0c3, .slice u0c4.1 u0c4.2.1 u0c4.2.2, .int .i64 u0c5, .int .u64 u0c6, .bool u0c7] 46)).heap.size, 0, none⟩) 3)).bind fun v15 =>
(asI .i64 v15).bind fun n16 =>
if ((n14 : Int) == n16) = true then
((World.cell? (World.alloc (World.alloc w0 (.cells #[.int .i64 u0c0, .int .i64 u0c1, .int .u64 u0c2, .int .i64 u0c3, .slice u0c4.1 u0c4.2.1 u0c4.2.2, .int .i64 u0c5, .int .u64 u0c6, .bool u0c7] 46)) (.cells #[.int .i64 u1c0, .int .i64 u1c1, .int .u64 u1c2, .int .i64 u1c3, .slice u1c4.1 u1c4.2.1 u1c4.2.2, .int .i64 u1c5, .int .u64 u1c6, .bool u1c7] 46)) (Addr.add (⟨w0.heap.size, 0, none⟩) 5)).bind fun v17 =>
(asI .i64 v17).bind fun n18 =>
(World.cell? (World.alloc (World.alloc w0 (.cells #[.int .i64 u0c0, .int .i64 u0c1, .int .u64 u0c2, .int .i64 u0c3, .slice u0c4.1 u0c4.2.1 u0c4.2.2, .int .i64 u0c5, .int .u64 u0c6, .bool u0c7] 46)) (.cells #[.int .i64 u1c0, .int .i64 u1c1, .int .u64 u1c2, .int .i64 u1c3, .slice u1c4.1 u1c4.2.1 u1c4.2.2, .int .i64 u1c5, .int .u64 u1c6, .bool u1c7] 46)) (Addr.add (⟨(World.alloc w0 (.cells #[.int .i64 u0c0, .int .i64 u0c1, .int .u64 u0c2, .int .i64 u0c3, .slice u0c4.1 u0c4.2.1 u0c4.2.2, .int .i64 u0c5, .int .u64 u0c6, .bool u0c7] 46)).heap.size, 0, none⟩) 5)).bind fun v19 =>
(asI .i64 v19).bind fun n20 =>
if ((n18 : Int) == n20) = true then
((World.cell? (World.alloc (World.alloc w0 (.cells #[.int .i64 u0c0, .int .i64 u0c1, .int .u64 u0c2, .int .i64 u0c3, .slice u0c4.1 u0c4.2.1 u0c4.2.2, .int .i64 u0c5, .int .u64 u0c6, .bool u0c7] 46)) (.cells #[.int .i64 u1c0, .int .i64 u1c1, .int .u64 u1c2, .int .i64 u1c3, .slice u1c4.1 u1c4.2.1 u1c4.2.2, .int .i64 u1c5, .int .u64 u1c6, .bool u1c7] 46)) (Addr.add (⟨w0.heap.size, 0, none⟩) 6)).bind fun v21 =>
(asI .u64 v21).bind fun n22 =>
(World.cell? (World.alloc (World.alloc w0 (.cells #[.int .i64 u0c0, .int .i64 u0c1, .int .u64 u0c2, .int .i64 u0c3, .slice u0c4.1 u0c4.2.1 u0c4.2.2, .int .i64 u0c5, .int .u64 u0c6, .bool u0c7] 46)) (.cells #[.int .i64 u1c0, .int .i64 u1c1, .int .u64 u1c2, .int .i64 u1c3, .slice u1c4.1 u1c4.2.1 u1c4.2.2, .int .i64 u1c5, .int .u64 u1c6, .bool u1c7] 46)) (Addr.add (⟨(World.alloc w0 (.cells #[.int .i64 u0c0, .int .i64 u0c1, .int .u64 u0c2, .int .i64 u0c3, .slice u0c4.1 u0c4.2.1 u0c4.2.2, .int .i64 u0c5, .int .u64 u0c6, .bool u0c7] 46)).heap.size, 0, none⟩) 6)).bind fun v23 =>
(asI .u64 v23).bind fun n24 =>
if ((n22 : Int) == n24) = true then
((World.cell? (World.alloc (World.alloc w0 (.cells #[.int .i64 u0c0, .int .i64 u0c1, .int .u64 u0c2, .int .i64 u0c3, .slice u0c4.1 u0c4.2.1 u0c4.2.2, .int .i64 u0c5, .int .u64 u0c6, .bool u0c7] 46)) (.cells #[.int .i64 u1c0, .int .i64 u1c1, .int .u64 u1c2, .int .i64 u1c3, .slice u1c4.1 u1c4.2.1 u1c4.2.2, .int .i64 u1c5, .int .u64 u1c6, .bool u1c7] 46)) (Addr.add (⟨w0.heap.size, 0, none⟩) 7)).bind fun v25 =>
(asB v25).bind fun b26 =>
(World.cell? (World.alloc (World.alloc w0 (.cells #[.int .i64 u0c0, .int .i64 u0c1, .int .u64 u0c2, .int .i64 u0c3, .slice u0c4.1 u0c4.2.1 u0c4.2.2, .int .i64 u0c5, .int .u64 u0c6, .bool u0c7] 46)) (.cells #[.int .i64 u1c0, .int .i64 u1c1, .int .u64 u1c2, .int .i64 u1c3, .slice u1c4.1 u1c4.2.1 u1c4.2.2, .int .i64 u1c5, .int .u64 u1c6, .bool u1c7] 46)) (Addr.add (⟨(World.alloc w0 (.cells #[.int .i64 u0c0, .int .i64 u0c1, .int .u64 u0c2, .int .i64 u0c3, .slice u0c4.1 u0c4.2.1 u0c4.2.2, .int .i64 u0c5, .int .u64 u0c6, .bool u0c7] 46)).heap.size, 0, none⟩) 7)).bind fun v27 =>
(asB v27).bind fun b28 =>
if (b26 == b28) = true then
((World.cell? (World.alloc (World.alloc w0 (.cells #[.int .i64 u0c0, .int .i64 u0c1, .int .u64 u0c2, .int .i64 u0c3, .slice u0c4.1 u0c4.2.1 u0c4.2.2, .int .i64 u0c5, .int .u64 u0c6, .bool u0c7] 46)) (.cells #[.int .i64 u1c0, .int .i64 u1c1, .int .u64 u1c2, .int .i64 u1c3, .slice u1c4.1 u1c4.2.1 u1c4.2.2, .int .i64 u1c5, .int .u64 u1c6, .bool u1c7] 46)) (Addr.add (⟨w0.heap.size, 0, none⟩) 4)).bind fun v29 =>
(asSl v29).bind fun q30 =>
(World.cell? (World.alloc (World.alloc w0 (.cells #[.int .i64 u0c0, .int .i64 u0c1, .int .u64 u0c2, .int .i64 u0c3, .slice u0c4.1 u0c4.2.1 u0c4.2.2, .int .i64 u0c5, .int .u64 u0c6, .bool u0c7] 46)) (.cells #[.int .i64 u1c0, .int .i64 u1c1, .int .u64 u1c2, .int .i64 u1c3, .slice u1c4.1 u1c4.2.1 u1c4.2.2, .int .i64 u1c5, .int .u64 u1c6, .bool u1c7] 46)) (Addr.add (⟨(World.alloc w0 (.cells #[.int .i64 u0c0, .int .i64 u0c1, .int .u64 u0c2, .int .i64 u0c3, .slice u0c4.1 u0c4.2.1 u0c4.2.2, .int .i64 u0c5, .int .u64 u0c6, .bool u0c7] 46)).heap.size, 0, none⟩) 4)).bind fun v31 =>
(asSl v31).bind fun q32 =>
(callF Try.prog 35 #[.slice q30.1 q30.2.1 q30.2.2, .slice q32.1 q32.2.1 q32.2.2] (World.alloc (World.alloc w0 (.cells #[.int .i64 u0c0, .int .i64 u0c1, .int .u64 u0c2, .int .i64 u0c3, .slice u0c4.1 u0c4.2.1 u0c4.2.2, .int .i64 u0c5, .int .u64 u0c6, .bool u0c7] 46)) (.cells #[.int .i64 u1c0, .int .i64 u1c1, .int .u64 u1c2, .int .i64 u1c3, .slice u1c4.1 u1c4.2.1 u1c4.2.2, .int .i64 u1c5, .int .u64 u1c6, .bool u1c7] 46))).bind fun r33 =>
(asB r33.1).bind fun b34 =>
some (.bool b34, r33.2))
else
(some (.bool false, (World.alloc (World.alloc w0 (.cells #[.int .i64 u0c0, .int .i64 u0c1, .int .u64 u0c2, .int .i64 u0c3, .slice u0c4.1 u0c4.2.1 u0c4.2.2, .int .i64 u0c5, .int .u64 u0c6, .bool u0c7] 46)) (.cells #[.int .i64 u1c0, .int .i64 u1c1, .int .u64 u1c2, .int .i64 u1c3, .slice u1c4.1 u1c4.2.1 u1c4.2.2, .int .i64 u1c5, .int .u64 u1c6, .bool u1c7] 46)))))
else
(some (.bool false, (World.alloc (World.alloc w0 (.cells #[.int .i64 u0c0, .int .i64 u0c1, .int .u64 u0c2, .int .i64 u0c3, .slice u0c4.1 u0c4.2.1 u0c4.2.2, .int .i64 u0c5, .int .u64 u0c6, .bool u0c7] 46)) (.cells #[.int .i64 u1c0, .int .i64 u1c1, .int .u64 u1c2, .int .i64 u1c3, .slice u1c4.1 u1c4.2.1 u1c4.2.2, .int .i64 u1c5, .int .u64 u1c6, .bool u1c7] 46)))))
else
(some (.bool false, (World.alloc (World.alloc w0 (.cells #[.int .i64 u0c0, .int .i64 u0c1, .int .u64 u0c2, .int .i64 u0c3, .slice u0c4.1 u0c4.2.1 u0c4.2.2, .int .i64 u0c5, .int .u64 u0c6, .bool u0c7] 46)) (.cells #[.int .i64 u1c0, .int .i64 u1c1, .int .u64 u1c2, .int .i64 u1c3, .slice u1c4.1 u1c4.2.1 u1c4.2.2, .int .i64 u1c5, .int .u64 u1c6, .bool u1c7] 46)))))
else
(some (.bool false, (World.alloc (World.alloc w0 (.cells #[.int .i64 u0c0, .int .i64 u0c1, .int .u64 u0c2, .int .i64 u0c3, .slice u0c4.1 u0c4.2.1 u0c4.2.2, .int .i64 u0c5, .int .u64 u0c6, .bool u0c7] 46)) (.cells #[.int .i64 u1c0, .int .i64 u1c1, .int .u64 u1c2, .int .i64 u1c3, .slice u1c4.1 u1c4.2.1 u1c4.2.2, .int .i64 u1c5, .int .u64 u1c6, .bool u1c7] 46)))))
else
(some (.bool false, (World.alloc (World.alloc w0 (.cells #[.int .i64 u0c0, .int .i64 u0c1, .int .u64 u0c2, .int .i64 u0c3, .slice u0c4.1 u0c4.2.1 u0c4.2.2, .int .i64 u0c5, .int .u64 u0c6, .bool u0c7] 46)) (.cells #[.int .i64 u1c0, .int .i64 u1c1, .int .u64 u1c2, .int .i64 u1c3, .slice u1c4.1 u1c4.2.1 u1c4.2.2, .int .i64 u1c5, .int .u64 u1c6, .bool u1c7] 46)))))
else
(some (.bool false, (World.alloc (World.alloc w0 (.cells #[.int .i64 u0c0, .int .i64 u0c1, .int .u64 u0c2, .int .i64 u0c3, .slice u0c4.1 u0c4.2.1 u0c4.2.2, .int .i64 u0c5, .int .u64 u0c6, .bool u0c7] 46)) (.cells #[.int .i64 u1c0, .int .i64 u1c1, .int .u64 u1c2, .int .i64 u1c3, .slice u1c4.1 u1c4.2.1 u1c4.2.2, .int .i64 u1c5, .int .u64 u1c6, .bool u1c7] 46)))))
else
(some (.bool false, (World.alloc (World.alloc w0 (.cells #[.int .i64 u0c0, .int .i64 u0c1, .int .u64 u0c2, .int .i64 u0c3, .slice u0c4.1 u0c4.2.1 u0c4.2.2, .int .i64 u0c5, .int .u64 u0c6, .bool u0c7] 46)) (.cells #[.int .i64 u1c0, .int .i64 u1c1, .int .u64 u1c2, .int .i64 u1c3, .slice u1c4.1 u1c4.2.1 u1c4.2.2, .int .i64 u1c5, .int .u64 u1c6, .bool u1c7] 46))))

theorem g22_eq (u0c0 : Int) (u0c1 : Int) (u0c2 : Int) (u0c3 : Int) (u0c4 : Option Addr × Nat × Nat) (u0c5 : Int) (u0c6 : Int) (u0c7 : Bool) (u1c0 : Int) (u1c1 : Int) (u1c2 : Int) (u1c3 : Int) (u1c4 : Option Addr × Nat × Nat) (u1c5 : Int) (u1c6 : Int) (u1c7 : Bool) (w0 : World) : evFn Try.prog 22 g22_ann #[.agg #[.int .i64 u0c0, .int .i64 u0c1, .int .u64 u0c2, .int .i64 u0c3, .slice u0c4.1 u0c4.2.1 u0c4.2.2, .int .i64 u0c5, .int .u64 u0c6, .bool u0c7], .agg #[.int .i64 u1c0, .int .i64 u1c1, .int .u64 u1c2, .int .i64 u1c3, .slice u1c4.1 u1c4.2.1 u1c4.2.2, .int .i64 u1c5, .int .u64 u1c6, .bool u1c7]] w0 = g22 u0c0 u0c1 u0c2 u0c3 u0c4 u0c5 u0c6 u0c7 u1c0 u1c1 u1c2 u1c3 u1c4 u1c5 u1c6 u1c7 w0 := by kernel_rfl

theorem g22_call {u0c0 : Int} {u0c1 : Int} {u0c2 : Int} {u0c3 : Int} {u0c4 : Option Addr × Nat × Nat} {u0c5 : Int} {u0c6 : Int} {u0c7 : Bool} {u1c0 : Int} {u1c1 : Int} {u1c2 : Int} {u1c3 : Int} {u1c4 : Option Addr × Nat × Nat} {u1c5 : Int} {u1c6 : Int} {u1c7 : Bool} {w0 : World} {r : Value × World} (h : g22 u0c0 u0c1 u0c2 u0c3 u0c4 u0c5 u0c6 u0c7 u1c0 u1c1 u1c2 u1c3 u1c4 u1c5 u1c6 u1c7 w0 = some r) : callF Try.prog 22 #[.agg #[.int .i64 u0c0, .int .i64 u0c1, .int .u64 u0c2, .int .i64 u0c3, .slice u0c4.1 u0c4.2.1 u0c4.2.2, .int .i64 u0c5, .int .u64 u0c6, .bool u0c7], .agg #[.int .i64 u1c0, .int .i64 u1c1, .int .u64 u1c2, .int .i64 u1c3, .slice u1c4.1 u1c4.2.1 u1c4.2.2, .int .i64 u1c5, .int .u64 u1c6, .bool u1c7]] w0 = some r :=
  callF_of_evFn (ann := g22_ann) Try.call22 (by kernel_rfl) ((g22_eq u0c0 u0c1 u0c2 u0c3 u0c4 u0c5 u0c6 u0c7 u1c0 u1c1 u1c2 u1c3 u1c4 u1c5 u1c6 u1c7 w0).trans h)

/-! 26: penstock/penstockref15.Has (l: []api.TxRec, n: int) -/
def g26_ann : List (List Nat × List Nat) := [([0, 1, 0, 1], [0, 1, 4, 5])]

def g26_l1_cs (u0 : Option Addr × Nat × Nat) (u1 : Int) : List (Nat × Value) := ([(0, .slice u0.1 u0.2.1 u0.2.2), (1, .int .i64 u1)] : List (Nat × Value))

/-- the round of a loop (penstock/penstockref15.Has) -/
noncomputable def g26_l1_b (u0 : Option Addr × Nat × Nat) (u1 : Int) (s2 : Bool × Int) (w3 : World) : Option (Exit × (Bool × Int) × World) :=
if (decide ((s2.2 : Int) < (u0.2.1 : Int))) = true then
((idxA u0.1 u0.2.1 7 s2.2).bind fun a5 =>
(World.cell? w3 (Addr.add a5 1)).bind fun v6 =>
(asI .i64 v6).bind fun n7 =>
if ((n7 : Int) == u1) = true then
(some (.ret, (true, s2.2), w3))
else
(some (.normal, (s2.1, (IntKind.i64.wrap (s2.2 + 1))), w3)))
else
(some ((.exit 0), (s2.1, s2.2), w3))

noncomputable def g26_K8  : Exit → Env → World → Option (Value × World) :=
  retK Try.prog Try.f26.results.toList

noncomputable def g26_K9  : Exit → Env → World → Option (Value × World) :=
  seqK (ev Try.prog 19 26 g26_ann (cAt [1, 1] (bodyOf Try.f26)) [1, 1] g26_K8) g26_K8

noncomputable def g26_K10  : Exit → Env → World → Option (Value × World) :=
  blkK 0 g26_K9

/-- the loop, from a state on -/
noncomputable def g26_l1 (u0 : Option Addr × Nat × Nat) (u1 : Int) (s : Bool × Int) (w : World) : Option (Value × World) :=
  loopM Try.prog 19 26 g26_ann (cAt [1, 0, 1, 0, 0] (bodyOf Try.f26)) [0, 1, 0, 1] g26_K10 ((g26_l1_cs u0 u1) ++ sputs [(4, .b), (5, .i .i64)] s) w

/-- behind the loop, left by x0 -/
noncomputable def g26_l1_x0  (t11 : Bool × Int) (w12 : World) : Option (Value × World) :=
some (.bool false, w12)

/-- behind the loop, left by ret -/
noncomputable def g26_l1_ret  (t13 : Bool × Int) (w14 : World) : Option (Value × World) :=
some (.bool t13.1, w14)

noncomputable def g26 (u0 : Option Addr × Nat × Nat) (u1 : Int) (w0 : World) : Option (Value × World) :=
g26_l1 u0 u1 (false, 0) w0

theorem g26_eq (u0 : Option Addr × Nat × Nat) (u1 : Int) (w0 : World) : evFn Try.prog 26 g26_ann #[.slice u0.1 u0.2.1 u0.2.2, .int .i64 u1] w0 = g26 u0 u1 w0 := by kernel_rfl

theorem g26_call {u0 : Option Addr × Nat × Nat} {u1 : Int} {w0 : World} {r : Value × World} (h : g26 u0 u1 w0 = some r) : callF Try.prog 26 #[.slice u0.1 u0.2.1 u0.2.2, .int .i64 u1] w0 = some r :=
  callF_of_evFn (ann := g26_ann) Try.call26 (by kernel_rfl) ((g26_eq u0 u1 w0).trans h)

theorem g26_l1_x0_of {u0 : Option Addr × Nat × Nat} {u1 : Int} {s t : Bool × Int} {w w' : World} (h : loopS (g26_l1_b u0 u1) s w = some (.exit 0, t, w')) : g26_l1 u0 u1 s w = g26_l1_x0 t w' := by
  have h1 : g26_l1 u0 u1 s w = loopM Try.prog 19 26 g26_ann (cAt [1, 0, 1, 0, 0] (bodyOf Try.f26)) [0, 1, 0, 1] g26_K10 ((g26_l1_cs u0 u1) ++ sputs [(4, .b), (5, .i .i64)] s) w := by kernel_rfl
  have h2 : loopM Try.prog 19 26 g26_ann (cAt [1, 0, 1, 0, 0] (bodyOf Try.f26)) [0, 1, 0, 1] g26_K10 ((g26_l1_cs u0 u1) ++ sputs [(4, .b), (5, .i .i64)] s) w = g26_K10 (.exit 0) (puts 19 ((g26_l1_cs u0 u1) ++ sputs [(4, .b), (5, .i .i64)] t)) w' :=
    loop_rule (P := Try.prog) (N := 19) (f := 26) (ann := g26_ann) (body := (cAt [1, 0, 1, 0, 0] (bodyOf Try.f26))) (pt := [0, 1, 0, 1]) (K := g26_K10) (g26_l1_cs u0 u1) [(4, .b), (5, .i .i64)] (b := g26_l1_b u0 u1) (fun s w => by kernel_rfl) (by kernel_rfl) (by kernel_rfl) (by kernel_rfl) h
  have h3 : g26_K10 (.exit 0) (puts 19 ((g26_l1_cs u0 u1) ++ sputs [(4, .b), (5, .i .i64)] t)) w' = g26_l1_x0 t w' := by kernel_rfl
  exact h1.trans (h2.trans h3)

theorem g26_l1_ret_of {u0 : Option Addr × Nat × Nat} {u1 : Int} {s t : Bool × Int} {w w' : World} (h : loopS (g26_l1_b u0 u1) s w = some (.ret, t, w')) : g26_l1 u0 u1 s w = g26_l1_ret t w' := by
  have h1 : g26_l1 u0 u1 s w = loopM Try.prog 19 26 g26_ann (cAt [1, 0, 1, 0, 0] (bodyOf Try.f26)) [0, 1, 0, 1] g26_K10 ((g26_l1_cs u0 u1) ++ sputs [(4, .b), (5, .i .i64)] s) w := by kernel_rfl
  have h2 : loopM Try.prog 19 26 g26_ann (cAt [1, 0, 1, 0, 0] (bodyOf Try.f26)) [0, 1, 0, 1] g26_K10 ((g26_l1_cs u0 u1) ++ sputs [(4, .b), (5, .i .i64)] s) w = g26_K10 (.ret) (puts 19 ((g26_l1_cs u0 u1) ++ sputs [(4, .b), (5, .i .i64)] t)) w' :=
    loop_rule (P := Try.prog) (N := 19) (f := 26) (ann := g26_ann) (body := (cAt [1, 0, 1, 0, 0] (bodyOf Try.f26))) (pt := [0, 1, 0, 1]) (K := g26_K10) (g26_l1_cs u0 u1) [(4, .b), (5, .i .i64)] (b := g26_l1_b u0 u1) (fun s w => by kernel_rfl) (by kernel_rfl) (by kernel_rfl) (by kernel_rfl) h
  have h3 : g26_K10 (.ret) (puts 19 ((g26_l1_cs u0 u1) ++ sputs [(4, .b), (5, .i .i64)] t)) w' = g26_l1_ret t w' := by kernel_rfl
  exact h1.trans (h2.trans h3)

/-! 35: penstock/penstockref03.SameInts (a: []int, b: []int) -/
def g35_ann : List (List Nat × List Nat) := [([0, 1, 0, 1, 1], [0, 1, 4, 5])]

def g35_l3_cs (u0 : Option Addr × Nat × Nat) (u1 : Option Addr × Nat × Nat) : List (Nat × Value) := ([(0, .slice u0.1 u0.2.1 u0.2.2), (1, .slice u1.1 u1.2.1 u1.2.2)] : List (Nat × Value))

/-- the round of a loop (penstock/penstockref03.SameInts) -/
noncomputable def g35_l3_b (u0 : Option Addr × Nat × Nat) (u1 : Option Addr × Nat × Nat) (s4 : Bool × Int) (w5 : World) : Option (Exit × (Bool × Int) × World) :=
if (decide ((s4.2 : Int) < (u0.2.1 : Int))) = true then
((idxA u0.1 u0.2.1 1 s4.2).bind fun a7 =>
(World.cell? (World.drew w5) a7).bind fun v8 =>
(asI .i64 v8).bind fun n9 =>
(idxA u1.1 u1.2.1 1 s4.2).bind fun a10 =>
(World.cell? (World.drew w5) a10).bind fun v11 =>
(asI .i64 v11).bind fun n12 =>
if ((n9 : Int) != n12) = true then
(some (.ret, (false, s4.2), (World.drew w5)))
else
(some (.normal, (s4.1, (IntKind.i64.wrap (s4.2 + 1))), (World.drew w5))))
else
(some ((.exit 0), (s4.1, s4.2), w5))

noncomputable def g35_K13  : Exit → Env → World → Option (Value × World) :=
  retK Try.prog Try.f35.results.toList

noncomputable def g35_K14  : Exit → Env → World → Option (Value × World) :=
  seqK (ev Try.prog 26 35 g35_ann (cAt [1, 1, 1] (bodyOf Try.f35)) [1, 1, 1] g35_K13) g35_K13

noncomputable def g35_K15  : Exit → Env → World → Option (Value × World) :=
  blkK 0 g35_K14

/-- the loop, from a state on -/
noncomputable def g35_l3 (u0 : Option Addr × Nat × Nat) (u1 : Option Addr × Nat × Nat) (s : Bool × Int) (w : World) : Option (Value × World) :=
  loopM Try.prog 26 35 g35_ann (cAt [1, 1, 0, 1, 0, 0] (bodyOf Try.f35)) [0, 1, 0, 1, 1] g35_K15 ((g35_l3_cs u0 u1) ++ sputs [(4, .b), (5, .i .i64)] s) w

/-- behind the loop, left by x0 -/
noncomputable def g35_l3_x0  (t16 : Bool × Int) (w17 : World) : Option (Value × World) :=
some (.bool true, w17)

/-- behind the loop, left by ret -/
noncomputable def g35_l3_ret  (t18 : Bool × Int) (w19 : World) : Option (Value × World) :=
some (.bool t18.1, w19)

noncomputable def g35 (u0 : Option Addr × Nat × Nat) (u1 : Option Addr × Nat × Nat) (w0 : World) : Option (Value × World) :=
if (((u0.2.1 : Int) : Int) != (u1.2.1 : Int)) = true then
(some (.bool false, w0))
else
(g35_l3 u0 u1 (false, 0) w0)

theorem g35_eq (u0 : Option Addr × Nat × Nat) (u1 : Option Addr × Nat × Nat) (w0 : World) : evFn Try.prog 35 g35_ann #[.slice u0.1 u0.2.1 u0.2.2, .slice u1.1 u1.2.1 u1.2.2] w0 = g35 u0 u1 w0 := by kernel_rfl

theorem g35_call {u0 : Option Addr × Nat × Nat} {u1 : Option Addr × Nat × Nat} {w0 : World} {r : Value × World} (h : g35 u0 u1 w0 = some r) : callF Try.prog 35 #[.slice u0.1 u0.2.1 u0.2.2, .slice u1.1 u1.2.1 u1.2.2] w0 = some r :=
  callF_of_evFn (ann := g35_ann) Try.call35 (by kernel_rfl) ((g35_eq u0 u1 w0).trans h)

theorem g35_l3_x0_of {u0 : Option Addr × Nat × Nat} {u1 : Option Addr × Nat × Nat} {s t : Bool × Int} {w w' : World} (h : loopS (g35_l3_b u0 u1) s w = some (.exit 0, t, w')) : g35_l3 u0 u1 s w = g35_l3_x0 t w' := by
  have h1 : g35_l3 u0 u1 s w = loopM Try.prog 26 35 g35_ann (cAt [1, 1, 0, 1, 0, 0] (bodyOf Try.f35)) [0, 1, 0, 1, 1] g35_K15 ((g35_l3_cs u0 u1) ++ sputs [(4, .b), (5, .i .i64)] s) w := by kernel_rfl
  have h2 : loopM Try.prog 26 35 g35_ann (cAt [1, 1, 0, 1, 0, 0] (bodyOf Try.f35)) [0, 1, 0, 1, 1] g35_K15 ((g35_l3_cs u0 u1) ++ sputs [(4, .b), (5, .i .i64)] s) w = g35_K15 (.exit 0) (puts 26 ((g35_l3_cs u0 u1) ++ sputs [(4, .b), (5, .i .i64)] t)) w' :=
    loop_rule (P := Try.prog) (N := 26) (f := 35) (ann := g35_ann) (body := (cAt [1, 1, 0, 1, 0, 0] (bodyOf Try.f35))) (pt := [0, 1, 0, 1, 1]) (K := g35_K15) (g35_l3_cs u0 u1) [(4, .b), (5, .i .i64)] (b := g35_l3_b u0 u1) (fun s w => by kernel_rfl) (by kernel_rfl) (by kernel_rfl) (by kernel_rfl) h
  have h3 : g35_K15 (.exit 0) (puts 26 ((g35_l3_cs u0 u1) ++ sputs [(4, .b), (5, .i .i64)] t)) w' = g35_l3_x0 t w' := by kernel_rfl
  exact h1.trans (h2.trans h3)

theorem g35_l3_ret_of {u0 : Option Addr × Nat × Nat} {u1 : Option Addr × Nat × Nat} {s t : Bool × Int} {w w' : World} (h : loopS (g35_l3_b u0 u1) s w = some (.ret, t, w')) : g35_l3 u0 u1 s w = g35_l3_ret t w' := by
  have h1 : g35_l3 u0 u1 s w = loopM Try.prog 26 35 g35_ann (cAt [1, 1, 0, 1, 0, 0] (bodyOf Try.f35)) [0, 1, 0, 1, 1] g35_K15 ((g35_l3_cs u0 u1) ++ sputs [(4, .b), (5, .i .i64)] s) w := by kernel_rfl
  have h2 : loopM Try.prog 26 35 g35_ann (cAt [1, 1, 0, 1, 0, 0] (bodyOf Try.f35)) [0, 1, 0, 1, 1] g35_K15 ((g35_l3_cs u0 u1) ++ sputs [(4, .b), (5, .i .i64)] s) w = g35_K15 (.ret) (puts 26 ((g35_l3_cs u0 u1) ++ sputs [(4, .b), (5, .i .i64)] t)) w' :=
    loop_rule (P := Try.prog) (N := 26) (f := 35) (ann := g35_ann) (body := (cAt [1, 1, 0, 1, 0, 0] (bodyOf Try.f35))) (pt := [0, 1, 0, 1, 1]) (K := g35_K15) (g35_l3_cs u0 u1) [(4, .b), (5, .i .i64)] (b := g35_l3_b u0 u1) (fun s w => by kernel_rfl) (by kernel_rfl) (by kernel_rfl) (by kernel_rfl) h
  have h3 : g35_K15 (.ret) (puts 26 ((g35_l3_cs u0 u1) ++ sputs [(4, .b), (5, .i .i64)] t)) w' = g35_l3_ret t w' := by kernel_rfl
  exact h1.trans (h2.trans h3)

end Go.Proofs.Ytlcojbodcbjkaaa
