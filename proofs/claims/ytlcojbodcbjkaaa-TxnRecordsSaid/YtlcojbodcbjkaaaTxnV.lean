/-
  TxnV: lemmas on what Go functions of this seat come to (for whatever arguments, as each says). No condition but those that stand in each lemma.
-/
import Derived.Test.YtlcojbodcbjkaaaLb9
import Derived.Test.YtlcojbodcbjkaaaProg
namespace Go.Proofs.Ytlcojbodcbjkaaa
open Go Go.Ev
set_option maxRecDepth 100000
set_option linter.unusedVariables false
/-! 12: penstock/penstocklaw15.own (r: api.TxRec) -/
def g12_ann : List (List Nat × List Nat) := []

noncomputable def g12 (u0c0 : Int) (u0c1 : Int) (u0c2 : Int) (u0c3 : Int) (u0c4 : Int) (u0c5 : Option Addr × Nat × Nat) (u0c6 : Bool) (w0 : World) : Option (Value × World) :=
(World.cell? (World.alloc (World.alloc (World.alloc w0 (.cells #[.int .i64 u0c0, .int .i64 u0c1, .int .i64 u0c2, .int .u64 u0c3, .int .i64 u0c4, .slice u0c5.1 u0c5.2.1 u0c5.2.2, .bool u0c6] 30)) (.cells #[.int .i64 0, .int .i64 0, .int .i64 0, .int .u64 0, .int .i64 0, .slice none 0 0, .bool false] 30)) (.cells #[] 3)) (Addr.add (⟨w0.heap.size, 0, none⟩) 5)).bind fun v1 =>
(asSl v1).bind fun q2 =>
(callB Try.prog .append #[28, 28] 28 #[false, false] #[.slice (some (⟨(World.alloc (World.alloc w0 (.cells #[.int .i64 u0c0, .int .i64 u0c1, .int .i64 u0c2, .int .u64 u0c3, .int .i64 u0c4, .slice u0c5.1 u0c5.2.1 u0c5.2.2, .bool u0c6] 30)) (.cells #[.int .i64 0, .int .i64 0, .int .i64 0, .int .u64 0, .int .i64 0, .slice none 0 0, .bool false] 30)).heap.size, 0, none⟩)) 0 0, .slice q2.1 q2.2.1 q2.2.2] (World.alloc (World.alloc (World.alloc w0 (.cells #[.int .i64 u0c0, .int .i64 u0c1, .int .i64 u0c2, .int .u64 u0c3, .int .i64 u0c4, .slice u0c5.1 u0c5.2.1 u0c5.2.2, .bool u0c6] 30)) (.cells #[.int .i64 0, .int .i64 0, .int .i64 0, .int .u64 0, .int .i64 0, .slice none 0 0, .bool false] 30)) (.cells #[] 3))).bind fun r3 =>
(asSl r3.1).bind fun q4 =>
(st1 r3.2 (Addr.add (⟨w0.heap.size, 0, none⟩) 5) (.slice q4.1 q4.2.1 q4.2.2)).bind fun w5 =>
(ldN w5 (⟨w0.heap.size, 0, none⟩) 0 7).bind fun l6 =>
(asI .i64 (l6.getD 0 undef)).bind fun n7 =>
(asI .i64 (l6.getD 1 undef)).bind fun n8 =>
(asI .i64 (l6.getD 2 undef)).bind fun n9 =>
(asI .u64 (l6.getD 3 undef)).bind fun n10 =>
(asI .i64 (l6.getD 4 undef)).bind fun n11 =>
(asSl (l6.getD 5 undef)).bind fun q12 =>
(asB (l6.getD 6 undef)).bind fun b13 =>
(stL w5 (⟨(World.alloc w0 (.cells #[.int .i64 u0c0, .int .i64 u0c1, .int .i64 u0c2, .int .u64 u0c3, .int .i64 u0c4, .slice u0c5.1 u0c5.2.1 u0c5.2.2, .bool u0c6] 30)).heap.size, 0, none⟩) [.int .i64 n7, .int .i64 n8, .int .i64 n9, .int .u64 n10, .int .i64 n11, .slice q12.1 q12.2.1 q12.2.2, .bool b13] 0).bind fun w14 =>
(ldN w14 (⟨(World.alloc w0 (.cells #[.int .i64 u0c0, .int .i64 u0c1, .int .i64 u0c2, .int .u64 u0c3, .int .i64 u0c4, .slice u0c5.1 u0c5.2.1 u0c5.2.2, .bool u0c6] 30)).heap.size, 0, none⟩) 0 7).bind fun l15 =>
(asI .i64 (l15.getD 0 undef)).bind fun n16 =>
(asI .i64 (l15.getD 1 undef)).bind fun n17 =>
(asI .i64 (l15.getD 2 undef)).bind fun n18 =>
(asI .u64 (l15.getD 3 undef)).bind fun n19 =>
(asI .i64 (l15.getD 4 undef)).bind fun n20 =>
(asSl (l15.getD 5 undef)).bind fun q21 =>
(asB (l15.getD 6 undef)).bind fun b22 =>
some (.agg #[.int .i64 n16, .int .i64 n17, .int .i64 n18, .int .u64 n19, .int .i64 n20, .slice q21.1 q21.2.1 q21.2.2, .bool b22], w14)

theorem g12_eq (u0c0 : Int) (u0c1 : Int) (u0c2 : Int) (u0c3 : Int) (u0c4 : Int) (u0c5 : Option Addr × Nat × Nat) (u0c6 : Bool) (w0 : World) : evFn Try.prog 12 g12_ann #[.agg #[.int .i64 u0c0, .int .i64 u0c1, .int .i64 u0c2, .int .u64 u0c3, .int .i64 u0c4, .slice u0c5.1 u0c5.2.1 u0c5.2.2, .bool u0c6]] w0 = g12 u0c0 u0c1 u0c2 u0c3 u0c4 u0c5 u0c6 w0 := by kernel_rfl

theorem g12_call {u0c0 : Int} {u0c1 : Int} {u0c2 : Int} {u0c3 : Int} {u0c4 : Int} {u0c5 : Option Addr × Nat × Nat} {u0c6 : Bool} {w0 : World} {r : Value × World} (h : g12 u0c0 u0c1 u0c2 u0c3 u0c4 u0c5 u0c6 w0 = some r) : callF Try.prog 12 #[.agg #[.int .i64 u0c0, .int .i64 u0c1, .int .i64 u0c2, .int .u64 u0c3, .int .i64 u0c4, .slice u0c5.1 u0c5.2.1 u0c5.2.2, .bool u0c6]] w0 = some r :=
  callF_of_evFn (ann := g12_ann) Try.call12 (by kernel_rfl) ((g12_eq u0c0 u0c1 u0c2 u0c3 u0c4 u0c5 u0c6 w0).trans h)

/-! 20: penstock/penstockref15.SameRec (a: api.TxRec, b: api.TxRec) -/
def g20_ann : List (List Nat × List Nat) := []

noncomputable def g20 (u0c0 : Int) (u0c1 : Int) (u0c2 : Int) (u0c3 : Int) (u0c4 : Int) (u0c5 : Option Addr × Nat × Nat) (u0c6 : Bool) (u1c0 : Int) (u1c1 : Int) (u1c2 : Int) (u1c3 : Int) (u1c4 : Int) (u1c5 : Option Addr × Nat × Nat) (u1c6 : Bool) (w0 : World) : Option (Value × World) :=
(World.cell? (World.alloc (World.alloc w0 (.cells #[.int .i64 u0c0, .int .i64 u0c1, .int .i64 u0c2, .int .u64 u0c3, .int .i64 u0c4, .slice u0c5.1 u0c5.2.1 u0c5.2.2, .bool u0c6] 30)) (.cells #[.int .i64 u1c0, .int .i64 u1c1, .int .i64 u1c2, .int .u64 u1c3, .int .i64 u1c4, .slice u1c5.1 u1c5.2.1 u1c5.2.2, .bool u1c6] 30)) (⟨w0.heap.size, 0, none⟩)).bind fun v1 =>
(asI .i64 v1).bind fun n2 =>
(World.cell? (World.alloc (World.alloc w0 (.cells #[.int .i64 u0c0, .int .i64 u0c1, .int .i64 u0c2, .int .u64 u0c3, .int .i64 u0c4, .slice u0c5.1 u0c5.2.1 u0c5.2.2, .bool u0c6] 30)) (.cells #[.int .i64 u1c0, .int .i64 u1c1, .int .i64 u1c2, .int .u64 u1c3, .int .i64 u1c4, .slice u1c5.1 u1c5.2.1 u1c5.2.2, .bool u1c6] 30)) (⟨(World.alloc w0 (.cells #[.int .i64 u0c0, .int .i64 u0c1, .int .i64 u0c2, .int .u64 u0c3, .int .i64 u0c4, .slice u0c5.1 u0c5.2.1 u0c5.2.2, .bool u0c6] 30)).heap.size, 0, none⟩)).bind fun v3 =>
(asI .i64 v3).bind fun n4 =>
if ((n2 : Int) == n4) = true then
((World.cell? (World.alloc (World.alloc w0 (.cells #[.int .i64 u0c0, .int .i64 u0c1, .int .i64 u0c2, .int .u64 u0c3, .int .i64 u0c4, .slice u0c5.1 u0c5.2.1 u0c5.2.2, .bool u0c6] 30)) (.cells #[.int .i64 u1c0, .int .i64 u1c1, .int .i64 u1c2, .int .u64 u1c3, .int .i64 u1c4, .slice u1c5.1 u1c5.2.1 u1c5.2.2, .bool u1c6] 30)) (Addr.add (⟨w0.heap.size, 0, none⟩) 1)).bind fun v5 =>
(asI .i64 v5).bind fun n6 =>
(World.cell? (World.alloc (World.alloc w0 (.cells #[.int .i64 u0c0, .int .i64 u0c1, .int .i64 u0c2, .int .u64 u0c3, .int .i64 u0c4, .slice u0c5.1 u0c5.2.1 u0c5.2.2, .bool u0c6] 30)) (.cells #[.int .i64 u1c0, .int .i64 u1c1, .int .i64 u1c2, .int .u64 u1c3, .int .i64 u1c4, .slice u1c5.1 u1c5.2.1 u1c5.2.2, .bool u1c6] 30)) (Addr.add (⟨(World.alloc w0 (.cells #[.int .i64 u0c0, .int .i64 u0c1, .int .i64 u0c2, .int .u64 u0c3, .int .i64 u0c4, .slice u0c5.1 u0c5.2.1 u0c5.2.2, .bool u0c6] 30)).heap.size, 0, none⟩) 1)).bind fun v7 =>
(asI .i64 v7).bind fun n8 =>
if ((n6 : Int) == n8) = true then
((World.cell? (World.alloc (World.alloc w0 (.cells #[.int .i64 u0c0, .int .i64 u0c1, .int .i64 u0c2, .int .u64 u0c3, .int .i64 u0c4, .slice u0c5.1 u0c5.2.1 u0c5.2.2, .bool u0c6] 30)) (.cells #[.int .i64 u1c0, .int .i64 u1c1, .int .i64 u1c2, .int .u64 u1c3, .int .i64 u1c4, .slice u1c5.1 u1c5.2.1 u1c5.2.2, .bool u1c6] 30)) (Addr.add (⟨w0.heap.size, 0, none⟩) 2)).bind fun v9 =>
(asI .i64 v9).bind fun n10 =>
(World.cell? (World.alloc (World.alloc w0 (.cells #[.int .i64 u0c0, .int .i64 u0c1, .int .i64 u0c2, .int .u64 u0c3, .int .i64 u0c4, .slice u0c5.1 u0c5.2.1 u0c5.2.2, .bool u0c6] 30)) (.cells #[.int .i64 u1c0, .int .i64 u1c1, .int .i64 u1c2, .int .u64 u1c3, .int .i64 u1c4, .slice u1c5.1 u1c5.2.1 u1c5.2.2, .bool u1c6] 30)) (Addr.add (⟨(World.alloc w0 (.cells #[.int .i64 u0c0, .int .i64 u0c1, .int .i64 u0c2, .int .u64 u0c3, .int .i64 u0c4, .slice u0c5.1 u0c5.2.1 u0c5.2.2, .bool u0c6] 30)).heap.size, 0, none⟩) 2)).bind fun v11 =>
(asI .i64 v11).bind fun n12 =>
if ((n10 : Int) == n12) = true then
((World.cell? (World.alloc (World.alloc w0 (.cells #[.int .i64 u0c0, .int .i64 u0c1, .int .i64 u0c2, .int .u64 u0c3, .int .i64 u0c4, .slice u0c5.1 u0c5.2.1 u0c5.2.2, .bool u0c6] 30)) (.cells #[.int .i64 u1c0, .int .i64 u1c1, .int .i64 u1c2, .int .u64 u1c3, .int .i64 u1c4, .slice u1c5.1 u1c5.2.1 u1c5.2.2, .bool u1c6] 30)) (Addr.add (⟨w0.heap.size, 0, none⟩) 4)).bind fun v13 =>
(asI .i64 v13).bind fun n14 =>
(World.cell? (World.alloc (World.alloc w0 (.cells #[.int .i64 u0c0, .int .i64 u0c1, .int .i64 u0c2, .int .u64 u0c3, .int .i64 u0c4, .slice u0c5.1 u0c5.2.1 u0c5.2.2, .bool u0c6] 30)) (.cells #[.int .i64 u1c0, .int .i64 u1c1, .int .i64 u1c2, .int .u64 u1c3, .int .i64 u1c4, .slice u1c5.1 u1c5.2.1 u1c5.2.2, .bool u1c6] 30)) (Addr.add (⟨(World.alloc w0 (.cells #[.int .i64 u0c0, .int .i64 u0c1, .int .i64 u0c2, .int .u64 u0c3, .int .i64 u0c4, .slice u0c5.1 u0c5.2.1 u0c5.2.2, .bool u0c6] 30)).heap.size, 0, none⟩) 4)).bind fun v15 =>
(asI .i64 v15).bind fun n16 =>
if ((n14 : Int) == n16) = true then
((World.cell? (World.alloc (World.alloc w0 (.cells #[.int .i64 u0c0, .int .i64 u0c1, .int .i64 u0c2, .int .u64 u0c3, .int .i64 u0c4, .slice u0c5.1 u0c5.2.1 u0c5.2.2, .bool u0c6] 30)) (.cells #[.int .i64 u1c0, .int .i64 u1c1, .int .i64 u1c2, .int .u64 u1c3, .int .i64 u1c4, .slice u1c5.1 u1c5.2.1 u1c5.2.2, .bool u1c6] 30)) (Addr.add (⟨w0.heap.size, 0, none⟩) 3)).bind fun v17 =>
(asI .u64 v17).bind fun n18 =>
(World.cell? (World.alloc (World.alloc w0 (.cells #[.int .i64 u0c0, .int .i64 u0c1, .int .i64 u0c2, .int .u64 u0c3, .int .i64 u0c4, .slice u0c5.1 u0c5.2.1 u0c5.2.2, .bool u0c6] 30)) (.cells #[.int .i64 u1c0, .int .i64 u1c1, .int .i64 u1c2, .int .u64 u1c3, .int .i64 u1c4, .slice u1c5.1 u1c5.2.1 u1c5.2.2, .bool u1c6] 30)) (Addr.add (⟨(World.alloc w0 (.cells #[.int .i64 u0c0, .int .i64 u0c1, .int .i64 u0c2, .int .u64 u0c3, .int .i64 u0c4, .slice u0c5.1 u0c5.2.1 u0c5.2.2, .bool u0c6] 30)).heap.size, 0, none⟩) 3)).bind fun v19 =>
(asI .u64 v19).bind fun n20 =>
if ((n18 : Int) == n20) = true then
((World.cell? (World.alloc (World.alloc w0 (.cells #[.int .i64 u0c0, .int .i64 u0c1, .int .i64 u0c2, .int .u64 u0c3, .int .i64 u0c4, .slice u0c5.1 u0c5.2.1 u0c5.2.2, .bool u0c6] 30)) (.cells #[.int .i64 u1c0, .int .i64 u1c1, .int .i64 u1c2, .int .u64 u1c3, .int .i64 u1c4, .slice u1c5.1 u1c5.2.1 u1c5.2.2, .bool u1c6] 30)) (Addr.add (⟨w0.heap.size, 0, none⟩) 6)).bind fun v21 =>
(asB v21).bind fun b22 =>
(World.cell? (World.alloc (World.alloc w0 (.cells #[.int .i64 u0c0, .int .i64 u0c1, .int .i64 u0c2, .int .u64 u0c3, .int .i64 u0c4, .slice u0c5.1 u0c5.2.1 u0c5.2.2, .bool u0c6] 30)) (.cells #[.int .i64 u1c0, .int .i64 u1c1, .int .i64 u1c2, .int .u64 u1c3, .int .i64 u1c4, .slice u1c5.1 u1c5.2.1 u1c5.2.2, .bool u1c6] 30)) (Addr.add (⟨(World.alloc w0 (.cells #[.int .i64 u0c0, .int .i64 u0c1, .int .i64 u0c2, .int .u64 u0c3, .int .i64 u0c4, .slice u0c5.1 u0c5.2.1 u0c5.2.2, .bool u0c6] 30)).heap.size, 0, none⟩) 6)).bind fun v23 =>
(asB v23).bind fun b24 =>
if (b22 == b24) = true then
((World.cell? (World.alloc (World.alloc w0 (.cells #[.int .i64 u0c0, .int .i64 u0c1, .int .i64 u0c2, .int .u64 u0c3, .int .i64 u0c4, .slice u0c5.1 u0c5.2.1 u0c5.2.2, .bool u0c6] 30)) (.cells #[.int .i64 u1c0, .int .i64 u1c1, .int .i64 u1c2, .int .u64 u1c3, .int .i64 u1c4, .slice u1c5.1 u1c5.2.1 u1c5.2.2, .bool u1c6] 30)) (Addr.add (⟨w0.heap.size, 0, none⟩) 5)).bind fun v25 =>
(asSl v25).bind fun q26 =>
(World.cell? (World.alloc (World.alloc w0 (.cells #[.int .i64 u0c0, .int .i64 u0c1, .int .i64 u0c2, .int .u64 u0c3, .int .i64 u0c4, .slice u0c5.1 u0c5.2.1 u0c5.2.2, .bool u0c6] 30)) (.cells #[.int .i64 u1c0, .int .i64 u1c1, .int .i64 u1c2, .int .u64 u1c3, .int .i64 u1c4, .slice u1c5.1 u1c5.2.1 u1c5.2.2, .bool u1c6] 30)) (Addr.add (⟨(World.alloc w0 (.cells #[.int .i64 u0c0, .int .i64 u0c1, .int .i64 u0c2, .int .u64 u0c3, .int .i64 u0c4, .slice u0c5.1 u0c5.2.1 u0c5.2.2, .bool u0c6] 30)).heap.size, 0, none⟩) 5)).bind fun v27 =>
(asSl v27).bind fun q28 =>
(callF Try.prog 35 #[.slice q26.1 q26.2.1 q26.2.2, .slice q28.1 q28.2.1 q28.2.2] (World.alloc (World.alloc w0 (.cells #[.int .i64 u0c0, .int .i64 u0c1, .int .i64 u0c2, .int .u64 u0c3, .int .i64 u0c4, .slice u0c5.1 u0c5.2.1 u0c5.2.2, .bool u0c6] 30)) (.cells #[.int .i64 u1c0, .int .i64 u1c1, .int .i64 u1c2, .int .u64 u1c3, .int .i64 u1c4, .slice u1c5.1 u1c5.2.1 u1c5.2.2, .bool u1c6] 30))).bind fun r29 =>
(asB r29.1).bind fun b30 =>
some (.bool b30, r29.2))
else
(some (.bool false, (World.alloc (World.alloc w0 (.cells #[.int .i64 u0c0, .int .i64 u0c1, .int .i64 u0c2, .int .u64 u0c3, .int .i64 u0c4, .slice u0c5.1 u0c5.2.1 u0c5.2.2, .bool u0c6] 30)) (.cells #[.int .i64 u1c0, .int .i64 u1c1, .int .i64 u1c2, .int .u64 u1c3, .int .i64 u1c4, .slice u1c5.1 u1c5.2.1 u1c5.2.2, .bool u1c6] 30)))))
else
(some (.bool false, (World.alloc (World.alloc w0 (.cells #[.int .i64 u0c0, .int .i64 u0c1, .int .i64 u0c2, .int .u64 u0c3, .int .i64 u0c4, .slice u0c5.1 u0c5.2.1 u0c5.2.2, .bool u0c6] 30)) (.cells #[.int .i64 u1c0, .int .i64 u1c1, .int .i64 u1c2, .int .u64 u1c3, .int .i64 u1c4, .slice u1c5.1 u1c5.2.1 u1c5.2.2, .bool u1c6] 30)))))
else
(some (.bool false, (World.alloc (World.alloc w0 (.cells #[.int .i64 u0c0, .int .i64 u0c1, .int .i64 u0c2, .int .u64 u0c3, .int .i64 u0c4, .slice u0c5.1 u0c5.2.1 u0c5.2.2, .bool u0c6] 30)) (.cells #[.int .i64 u1c0, .int .i64 u1c1, .int .i64 u1c2, .int .u64 u1c3, .int .i64 u1c4, .slice u1c5.1 u1c5.2.1 u1c5.2.2, .bool u1c6] 30)))))
else
(some (.bool false, (World.alloc (World.alloc w0 (.cells #[.int .i64 u0c0, .int .i64 u0c1, .int .i64 u0c2, .int .u64 u0c3, .int .i64 u0c4, .slice u0c5.1 u0c5.2.1 u0c5.2.2, .bool u0c6] 30)) (.cells #[.int .i64 u1c0, .int .i64 u1c1, .int .i64 u1c2, .int .u64 u1c3, .int .i64 u1c4, .slice u1c5.1 u1c5.2.1 u1c5.2.2, .bool u1c6] 30)))))
else
(some (.bool false, (World.alloc (World.alloc w0 (.cells #[.int .i64 u0c0, .int .i64 u0c1, .int .i64 u0c2, .int .u64 u0c3, .int .i64 u0c4, .slice u0c5.1 u0c5.2.1 u0c5.2.2, .bool u0c6] 30)) (.cells #[.int .i64 u1c0, .int .i64 u1c1, .int .i64 u1c2, .int .u64 u1c3, .int .i64 u1c4, .slice u1c5.1 u1c5.2.1 u1c5.2.2, .bool u1c6] 30)))))
else
(some (.bool false, (World.alloc (World.alloc w0 (.cells #[.int .i64 u0c0, .int .i64 u0c1, .int .i64 u0c2, .int .u64 u0c3, .int .i64 u0c4, .slice u0c5.1 u0c5.2.1 u0c5.2.2, .bool u0c6] 30)) (.cells #[.int .i64 u1c0, .int .i64 u1c1, .int .i64 u1c2, .int .u64 u1c3, .int .i64 u1c4, .slice u1c5.1 u1c5.2.1 u1c5.2.2, .bool u1c6] 30))))

theorem g20_eq (u0c0 : Int) (u0c1 : Int) (u0c2 : Int) (u0c3 : Int) (u0c4 : Int) (u0c5 : Option Addr × Nat × Nat) (u0c6 : Bool) (u1c0 : Int) (u1c1 : Int) (u1c2 : Int) (u1c3 : Int) (u1c4 : Int) (u1c5 : Option Addr × Nat × Nat) (u1c6 : Bool) (w0 : World) : evFn Try.prog 20 g20_ann #[.agg #[.int .i64 u0c0, .int .i64 u0c1, .int .i64 u0c2, .int .u64 u0c3, .int .i64 u0c4, .slice u0c5.1 u0c5.2.1 u0c5.2.2, .bool u0c6], .agg #[.int .i64 u1c0, .int .i64 u1c1, .int .i64 u1c2, .int .u64 u1c3, .int .i64 u1c4, .slice u1c5.1 u1c5.2.1 u1c5.2.2, .bool u1c6]] w0 = g20 u0c0 u0c1 u0c2 u0c3 u0c4 u0c5 u0c6 u1c0 u1c1 u1c2 u1c3 u1c4 u1c5 u1c6 w0 := by kernel_rfl

theorem g20_call {u0c0 : Int} {u0c1 : Int} {u0c2 : Int} {u0c3 : Int} {u0c4 : Int} {u0c5 : Option Addr × Nat × Nat} {u0c6 : Bool} {u1c0 : Int} {u1c1 : Int} {u1c2 : Int} {u1c3 : Int} {u1c4 : Int} {u1c5 : Option Addr × Nat × Nat} {u1c6 : Bool} {w0 : World} {r : Value × World} (h : g20 u0c0 u0c1 u0c2 u0c3 u0c4 u0c5 u0c6 u1c0 u1c1 u1c2 u1c3 u1c4 u1c5 u1c6 w0 = some r) : callF Try.prog 20 #[.agg #[.int .i64 u0c0, .int .i64 u0c1, .int .i64 u0c2, .int .u64 u0c3, .int .i64 u0c4, .slice u0c5.1 u0c5.2.1 u0c5.2.2, .bool u0c6], .agg #[.int .i64 u1c0, .int .i64 u1c1, .int .i64 u1c2, .int .u64 u1c3, .int .i64 u1c4, .slice u1c5.1 u1c5.2.1 u1c5.2.2, .bool u1c6]] w0 = some r :=
  callF_of_evFn (ann := g20_ann) Try.call20 (by kernel_rfl) ((g20_eq u0c0 u0c1 u0c2 u0c3 u0c4 u0c5 u0c6 u1c0 u1c1 u1c2 u1c3 u1c4 u1c5 u1c6 w0).trans h)

/-! 27: penstock/penstockref15.DocEncode (r: api.TxRec) -/
def g27_ann : List (List Nat × List Nat) := []

noncomputable def g27 (u0c0 : Int) (u0c1 : Int) (u0c2 : Int) (u0c3 : Int) (u0c4 : Int) (u0c5 : Option Addr × Nat × Nat) (u0c6 : Bool) (w0 : World) : Option (Value × World) :=
(ldN (World.alloc w0 (.cells #[.int .i64 u0c0, .int .i64 u0c1, .int .i64 u0c2, .int .u64 u0c3, .int .i64 u0c4, .slice u0c5.1 u0c5.2.1 u0c5.2.2, .bool u0c6] 30)) (⟨w0.heap.size, 0, none⟩) 0 7).bind fun l1 =>
(asI .i64 (l1.getD 0 undef)).bind fun n2 =>
(asI .i64 (l1.getD 1 undef)).bind fun n3 =>
(asI .i64 (l1.getD 2 undef)).bind fun n4 =>
(asI .u64 (l1.getD 3 undef)).bind fun n5 =>
(asI .i64 (l1.getD 4 undef)).bind fun n6 =>
(asSl (l1.getD 5 undef)).bind fun q7 =>
(asB (l1.getD 6 undef)).bind fun b8 =>
(callF Try.prog 40 #[.agg #[.int .i64 n2, .int .i64 n3, .int .i64 n4, .int .u64 n5, .int .i64 n6, .slice q7.1 q7.2.1 q7.2.2, .bool b8]] (World.alloc w0 (.cells #[.int .i64 u0c0, .int .i64 u0c1, .int .i64 u0c2, .int .u64 u0c3, .int .i64 u0c4, .slice u0c5.1 u0c5.2.1 u0c5.2.2, .bool u0c6] 30))).bind fun r9 =>
(asB r9.1).bind fun b10 =>
if b10 = true then
(some (.tuple #[.slice none 0 0, .int .i64 1], r9.2))
else
((World.cell? r9.2 (⟨w0.heap.size, 0, none⟩)).bind fun v11 =>
(asI .i64 v11).bind fun n12 =>
(callF Try.prog 41 #[.int .i64 n12] r9.2).bind fun r13 =>
(asSl r13.1).bind fun q14 =>
(World.cell? r13.2 (Addr.add (⟨w0.heap.size, 0, none⟩) 1)).bind fun v15 =>
(asI .i64 v15).bind fun n16 =>
(callF Try.prog 41 #[.int .i64 n16] r13.2).bind fun r17 =>
(asSl r17.1).bind fun q18 =>
(callB Try.prog .append #[58, 58] 58 #[false, false] #[.slice q14.1 q14.2.1 q14.2.2, .slice q18.1 q18.2.1 q18.2.2] r17.2).bind fun r19 =>
(asSl r19.1).bind fun q20 =>
(World.cell? r19.2 (Addr.add (⟨w0.heap.size, 0, none⟩) 2)).bind fun v21 =>
(asI .i64 v21).bind fun n22 =>
(callF Try.prog 41 #[.int .i64 n22] r19.2).bind fun r23 =>
(asSl r23.1).bind fun q24 =>
(callB Try.prog .append #[58, 58] 58 #[false, false] #[.slice q20.1 q20.2.1 q20.2.2, .slice q24.1 q24.2.1 q24.2.2] r23.2).bind fun r25 =>
(asSl r25.1).bind fun q26 =>
(World.cell? r25.2 (Addr.add (⟨w0.heap.size, 0, none⟩) 4)).bind fun v27 =>
(asI .i64 v27).bind fun n28 =>
(callF Try.prog 41 #[.int .i64 n28] r25.2).bind fun r29 =>
(asSl r29.1).bind fun q30 =>
(callB Try.prog .append #[58, 58] 58 #[false, false] #[.slice q26.1 q26.2.1 q26.2.2, .slice q30.1 q30.2.1 q30.2.2] r29.2).bind fun r31 =>
(asSl r31.1).bind fun q32 =>
(World.cell? r31.2 (Addr.add (⟨w0.heap.size, 0, none⟩) 3)).bind fun v33 =>
(asI .u64 v33).bind fun n34 =>
(callF Try.prog 42 #[.int .u64 n34] r31.2).bind fun r35 =>
(asSl r35.1).bind fun q36 =>
(callB Try.prog .append #[58, 58] 58 #[false, false] #[.slice q32.1 q32.2.1 q32.2.2, .slice q36.1 q36.2.1 q36.2.2] r35.2).bind fun r37 =>
(asSl r37.1).bind fun q38 =>
(World.cell? r37.2 (Addr.add (⟨w0.heap.size, 0, none⟩) 5)).bind fun v39 =>
(asSl v39).bind fun q40 =>
(callF Try.prog 43 #[.slice q40.1 q40.2.1 q40.2.2] r37.2).bind fun r41 =>
(asSl r41.1).bind fun q42 =>
(callB Try.prog .append #[58, 58] 58 #[false, false] #[.slice q38.1 q38.2.1 q38.2.2, .slice q42.1 q42.2.1 q42.2.2] r41.2).bind fun r43 =>
(asSl r43.1).bind fun q44 =>
(World.cell? r43.2 (Addr.add (⟨w0.heap.size, 0, none⟩) 6)).bind fun v45 =>
(asB v45).bind fun b46 =>
(callF Try.prog 44 #[.bool b46] r43.2).bind fun r47 =>
(asSl r47.1).bind fun q48 =>
(callB Try.prog .append #[58, 58] 58 #[false, false] #[.slice q44.1 q44.2.1 q44.2.2, .slice q48.1 q48.2.1 q48.2.2] r47.2).bind fun r49 =>
(asSl r49.1).bind fun q50 =>
some (.tuple #[.slice q50.1 q50.2.1 q50.2.2, .int .i64 0], r49.2))

theorem g27_eq (u0c0 : Int) (u0c1 : Int) (u0c2 : Int) (u0c3 : Int) (u0c4 : Int) (u0c5 : Option Addr × Nat × Nat) (u0c6 : Bool) (w0 : World) : evFn Try.prog 27 g27_ann #[.agg #[.int .i64 u0c0, .int .i64 u0c1, .int .i64 u0c2, .int .u64 u0c3, .int .i64 u0c4, .slice u0c5.1 u0c5.2.1 u0c5.2.2, .bool u0c6]] w0 = g27 u0c0 u0c1 u0c2 u0c3 u0c4 u0c5 u0c6 w0 := by kernel_rfl

theorem g27_call {u0c0 : Int} {u0c1 : Int} {u0c2 : Int} {u0c3 : Int} {u0c4 : Int} {u0c5 : Option Addr × Nat × Nat} {u0c6 : Bool} {w0 : World} {r : Value × World} (h : g27 u0c0 u0c1 u0c2 u0c3 u0c4 u0c5 u0c6 w0 = some r) : callF Try.prog 27 #[.agg #[.int .i64 u0c0, .int .i64 u0c1, .int .i64 u0c2, .int .u64 u0c3, .int .i64 u0c4, .slice u0c5.1 u0c5.2.1 u0c5.2.2, .bool u0c6]] w0 = some r :=
  callF_of_evFn (ann := g27_ann) Try.call27 (by kernel_rfl) ((g27_eq u0c0 u0c1 u0c2 u0c3 u0c4 u0c5 u0c6 w0).trans h)

/-! 28: penstock/penstockref15.DocDecode (text: []uint8) -/
def g28_ann : List (List Nat × List Nat) := []

noncomputable def g28 (u0 : Option Addr × Nat × Nat) (w0 : World) : Option (Value × World) :=
(callF Try.prog 45 #[.pointer (some (⟨(World.alloc w0 (.cells #[.int .i64 0, .int .i64 0, .int .i64 0, .int .u64 0, .int .i64 0, .slice none 0 0, .bool false] 30)).heap.size, 0, none⟩))] (World.alloc (World.alloc (World.alloc w0 (.cells #[.int .i64 0, .int .i64 0, .int .i64 0, .int .u64 0, .int .i64 0, .slice none 0 0, .bool false] 30)) (.cells #[.slice u0.1 u0.2.1 u0.2.2, .int .i64 0, .int .i64 0] 90)) (.cells #[.int .i64 0, .int .i64 0, .int .i64 0, .int .u64 0, .int .i64 0, .slice none 0 0, .bool false] 30))).bind fun r1 =>
(asI .i64 r1.1).bind fun n2 =>
(st1 r1.2 (⟨(World.alloc (World.alloc w0 (.cells #[.int .i64 0, .int .i64 0, .int .i64 0, .int .u64 0, .int .i64 0, .slice none 0 0, .bool false] 30)) (.cells #[.slice u0.1 u0.2.1 u0.2.2, .int .i64 0, .int .i64 0] 90)).heap.size, 0, none⟩) (.int .i64 n2)).bind fun w3 =>
(callF Try.prog 45 #[.pointer (some (⟨(World.alloc w0 (.cells #[.int .i64 0, .int .i64 0, .int .i64 0, .int .u64 0, .int .i64 0, .slice none 0 0, .bool false] 30)).heap.size, 0, none⟩))] w3).bind fun r4 =>
(asI .i64 r4.1).bind fun n5 =>
(st1 r4.2 (Addr.add (⟨(World.alloc (World.alloc w0 (.cells #[.int .i64 0, .int .i64 0, .int .i64 0, .int .u64 0, .int .i64 0, .slice none 0 0, .bool false] 30)) (.cells #[.slice u0.1 u0.2.1 u0.2.2, .int .i64 0, .int .i64 0] 90)).heap.size, 0, none⟩) 1) (.int .i64 n5)).bind fun w6 =>
(callF Try.prog 45 #[.pointer (some (⟨(World.alloc w0 (.cells #[.int .i64 0, .int .i64 0, .int .i64 0, .int .u64 0, .int .i64 0, .slice none 0 0, .bool false] 30)).heap.size, 0, none⟩))] w6).bind fun r7 =>
(asI .i64 r7.1).bind fun n8 =>
(st1 r7.2 (Addr.add (⟨(World.alloc (World.alloc w0 (.cells #[.int .i64 0, .int .i64 0, .int .i64 0, .int .u64 0, .int .i64 0, .slice none 0 0, .bool false] 30)) (.cells #[.slice u0.1 u0.2.1 u0.2.2, .int .i64 0, .int .i64 0] 90)).heap.size, 0, none⟩) 2) (.int .i64 n8)).bind fun w9 =>
(callF Try.prog 45 #[.pointer (some (⟨(World.alloc w0 (.cells #[.int .i64 0, .int .i64 0, .int .i64 0, .int .u64 0, .int .i64 0, .slice none 0 0, .bool false] 30)).heap.size, 0, none⟩))] w9).bind fun r10 =>
(asI .i64 r10.1).bind fun n11 =>
(st1 r10.2 (Addr.add (⟨(World.alloc (World.alloc w0 (.cells #[.int .i64 0, .int .i64 0, .int .i64 0, .int .u64 0, .int .i64 0, .slice none 0 0, .bool false] 30)) (.cells #[.slice u0.1 u0.2.1 u0.2.2, .int .i64 0, .int .i64 0] 90)).heap.size, 0, none⟩) 4) (.int .i64 n11)).bind fun w12 =>
(callF Try.prog 46 #[.pointer (some (⟨(World.alloc w0 (.cells #[.int .i64 0, .int .i64 0, .int .i64 0, .int .u64 0, .int .i64 0, .slice none 0 0, .bool false] 30)).heap.size, 0, none⟩))] w12).bind fun r13 =>
(asI .u64 r13.1).bind fun n14 =>
(st1 r13.2 (Addr.add (⟨(World.alloc (World.alloc w0 (.cells #[.int .i64 0, .int .i64 0, .int .i64 0, .int .u64 0, .int .i64 0, .slice none 0 0, .bool false] 30)) (.cells #[.slice u0.1 u0.2.1 u0.2.2, .int .i64 0, .int .i64 0] 90)).heap.size, 0, none⟩) 3) (.int .u64 n14)).bind fun w15 =>
(callF Try.prog 47 #[.pointer (some (⟨(World.alloc w0 (.cells #[.int .i64 0, .int .i64 0, .int .i64 0, .int .u64 0, .int .i64 0, .slice none 0 0, .bool false] 30)).heap.size, 0, none⟩))] w15).bind fun r16 =>
(asSl r16.1).bind fun q17 =>
(st1 r16.2 (Addr.add (⟨(World.alloc (World.alloc w0 (.cells #[.int .i64 0, .int .i64 0, .int .i64 0, .int .u64 0, .int .i64 0, .slice none 0 0, .bool false] 30)) (.cells #[.slice u0.1 u0.2.1 u0.2.2, .int .i64 0, .int .i64 0] 90)).heap.size, 0, none⟩) 5) (.slice q17.1 q17.2.1 q17.2.2)).bind fun w18 =>
(callF Try.prog 48 #[.pointer (some (⟨(World.alloc w0 (.cells #[.int .i64 0, .int .i64 0, .int .i64 0, .int .u64 0, .int .i64 0, .slice none 0 0, .bool false] 30)).heap.size, 0, none⟩))] w18).bind fun r19 =>
(asB r19.1).bind fun b20 =>
(st1 r19.2 (Addr.add (⟨(World.alloc (World.alloc w0 (.cells #[.int .i64 0, .int .i64 0, .int .i64 0, .int .u64 0, .int .i64 0, .slice none 0 0, .bool false] 30)) (.cells #[.slice u0.1 u0.2.1 u0.2.2, .int .i64 0, .int .i64 0] 90)).heap.size, 0, none⟩) 6) (.bool b20)).bind fun w21 =>
(callF Try.prog 49 #[.pointer (some (⟨(World.alloc w0 (.cells #[.int .i64 0, .int .i64 0, .int .i64 0, .int .u64 0, .int .i64 0, .slice none 0 0, .bool false] 30)).heap.size, 0, none⟩))] w21).bind fun r22 =>
(asI .i64 r22.1).bind fun n23 =>
if ((n23 : Int) != 0) = true then
((stL r22.2 (⟨w0.heap.size, 0, none⟩) [.int .i64 0, .int .i64 0, .int .i64 0, .int .u64 0, .int .i64 0, .slice none 0 0, .bool false] 0).bind fun w24 =>
(ldN w24 (⟨w0.heap.size, 0, none⟩) 0 7).bind fun l25 =>
(asI .i64 (l25.getD 0 undef)).bind fun n26 =>
(asI .i64 (l25.getD 1 undef)).bind fun n27 =>
(asI .i64 (l25.getD 2 undef)).bind fun n28 =>
(asI .u64 (l25.getD 3 undef)).bind fun n29 =>
(asI .i64 (l25.getD 4 undef)).bind fun n30 =>
(asSl (l25.getD 5 undef)).bind fun q31 =>
(asB (l25.getD 6 undef)).bind fun b32 =>
some (.tuple #[.agg #[.int .i64 n26, .int .i64 n27, .int .i64 n28, .int .u64 n29, .int .i64 n30, .slice q31.1 q31.2.1 q31.2.2, .bool b32], .int .i64 n23], w24))
else
((ldN r22.2 (⟨(World.alloc (World.alloc w0 (.cells #[.int .i64 0, .int .i64 0, .int .i64 0, .int .u64 0, .int .i64 0, .slice none 0 0, .bool false] 30)) (.cells #[.slice u0.1 u0.2.1 u0.2.2, .int .i64 0, .int .i64 0] 90)).heap.size, 0, none⟩) 0 7).bind fun l33 =>
(asI .i64 (l33.getD 0 undef)).bind fun n34 =>
(asI .i64 (l33.getD 1 undef)).bind fun n35 =>
(asI .i64 (l33.getD 2 undef)).bind fun n36 =>
(asI .u64 (l33.getD 3 undef)).bind fun n37 =>
(asI .i64 (l33.getD 4 undef)).bind fun n38 =>
(asSl (l33.getD 5 undef)).bind fun q39 =>
(asB (l33.getD 6 undef)).bind fun b40 =>
(callF Try.prog 40 #[.agg #[.int .i64 n34, .int .i64 n35, .int .i64 n36, .int .u64 n37, .int .i64 n38, .slice q39.1 q39.2.1 q39.2.2, .bool b40]] r22.2).bind fun r41 =>
(asB r41.1).bind fun b42 =>
if b42 = true then
((stL r41.2 (⟨w0.heap.size, 0, none⟩) [.int .i64 0, .int .i64 0, .int .i64 0, .int .u64 0, .int .i64 0, .slice none 0 0, .bool false] 0).bind fun w43 =>
(ldN w43 (⟨w0.heap.size, 0, none⟩) 0 7).bind fun l44 =>
(asI .i64 (l44.getD 0 undef)).bind fun n45 =>
(asI .i64 (l44.getD 1 undef)).bind fun n46 =>
(asI .i64 (l44.getD 2 undef)).bind fun n47 =>
(asI .u64 (l44.getD 3 undef)).bind fun n48 =>
(asI .i64 (l44.getD 4 undef)).bind fun n49 =>
(asSl (l44.getD 5 undef)).bind fun q50 =>
(asB (l44.getD 6 undef)).bind fun b51 =>
some (.tuple #[.agg #[.int .i64 n45, .int .i64 n46, .int .i64 n47, .int .u64 n48, .int .i64 n49, .slice q50.1 q50.2.1 q50.2.2, .bool b51], .int .i64 1], w43))
else
((ldN r41.2 (⟨(World.alloc (World.alloc w0 (.cells #[.int .i64 0, .int .i64 0, .int .i64 0, .int .u64 0, .int .i64 0, .slice none 0 0, .bool false] 30)) (.cells #[.slice u0.1 u0.2.1 u0.2.2, .int .i64 0, .int .i64 0] 90)).heap.size, 0, none⟩) 0 7).bind fun l52 =>
(asI .i64 (l52.getD 0 undef)).bind fun n53 =>
(asI .i64 (l52.getD 1 undef)).bind fun n54 =>
(asI .i64 (l52.getD 2 undef)).bind fun n55 =>
(asI .u64 (l52.getD 3 undef)).bind fun n56 =>
(asI .i64 (l52.getD 4 undef)).bind fun n57 =>
(asSl (l52.getD 5 undef)).bind fun q58 =>
(asB (l52.getD 6 undef)).bind fun b59 =>
(stL r41.2 (⟨w0.heap.size, 0, none⟩) [.int .i64 n53, .int .i64 n54, .int .i64 n55, .int .u64 n56, .int .i64 n57, .slice q58.1 q58.2.1 q58.2.2, .bool b59] 0).bind fun w60 =>
(ldN w60 (⟨w0.heap.size, 0, none⟩) 0 7).bind fun l61 =>
(asI .i64 (l61.getD 0 undef)).bind fun n62 =>
(asI .i64 (l61.getD 1 undef)).bind fun n63 =>
(asI .i64 (l61.getD 2 undef)).bind fun n64 =>
(asI .u64 (l61.getD 3 undef)).bind fun n65 =>
(asI .i64 (l61.getD 4 undef)).bind fun n66 =>
(asSl (l61.getD 5 undef)).bind fun q67 =>
(asB (l61.getD 6 undef)).bind fun b68 =>
some (.tuple #[.agg #[.int .i64 n62, .int .i64 n63, .int .i64 n64, .int .u64 n65, .int .i64 n66, .slice q67.1 q67.2.1 q67.2.2, .bool b68], .int .i64 0], w60)))

theorem g28_eq (u0 : Option Addr × Nat × Nat) (w0 : World) : evFn Try.prog 28 g28_ann #[.slice u0.1 u0.2.1 u0.2.2] w0 = g28 u0 w0 := by kernel_rfl

theorem g28_call {u0 : Option Addr × Nat × Nat} {w0 : World} {r : Value × World} (h : g28 u0 w0 = some r) : callF Try.prog 28 #[.slice u0.1 u0.2.1 u0.2.2] w0 = some r :=
  callF_of_evFn (ann := g28_ann) Try.call28 (by kernel_rfl) ((g28_eq u0 w0).trans h)

/-! 29: penstock/txn.Encode (r: api.TxRec) -/
def g29_ann : List (List Nat × List Nat) := [([0, 1, 0, 1, 1, 1], [1, 4, 40, 41, 42])]

def g29_l23_cs (w0 : World) (p13 : Option Addr) (r12 : Value × World) : List (Nat × Value) := ([(1, .pointer (some (⟨w0.heap.size, 0, none⟩))), (4, .pointer p13), (40, .slice (some (⟨r12.2.heap.size, 0, none⟩)) 4 4), (41, .int .i64 4)] : List (Nat × Value))

/-- the round of a loop (penstock/txn.Encode) -/
noncomputable def g29_l23_b (r12 : Value × World) (p13 : Option Addr) (w0 : World) (s24 : Int) (w25 : World) : Option (Exit × (Int) × World) :=
if (decide ((s24 : Int) < 4)) = true then
((idxA (some (⟨r12.2.heap.size, 0, none⟩)) 4 1 s24).bind fun a26 =>
(World.cell? w25 a26).bind fun v27 =>
(asI .i64 v27).bind fun n28 =>
(callF Try.prog 51 #[.pointer p13, .int .i64 n28] w25).bind fun r29 =>
(asTup 0 r29.1).bind fun _ =>
some (.normal, (IntKind.i64.wrap (s24 + 1)), r29.2))
else
(some ((.exit 0), s24, w25))

noncomputable def g29_K30  : Exit → Env → World → Option (Value × World) :=
  retK Try.prog Try.f29.results.toList

noncomputable def g29_K31  : Exit → Env → World → Option (Value × World) :=
  seqK (ev Try.prog 66 29 g29_ann (cAt [1, 1, 1, 1] (bodyOf Try.f29)) [1, 1, 1, 1] g29_K30) g29_K30

noncomputable def g29_K32  : Exit → Env → World → Option (Value × World) :=
  blkK 0 g29_K31

/-- the loop, from a state on -/
noncomputable def g29_l23 (w0 : World) (p13 : Option Addr) (r12 : Value × World) (s : Int) (w : World) : Option (Value × World) :=
  loopM Try.prog 66 29 g29_ann (cAt [1, 1, 1, 0, 1, 0, 0] (bodyOf Try.f29)) [0, 1, 0, 1, 1, 1] g29_K32 ((g29_l23_cs w0 p13 r12) ++ sputs [(42, .i .i64)] s) w

/-- behind the loop, left by x0 -/
noncomputable def g29_l23_x0 (w0 : World) (p13 : Option Addr) (t33 : Int) (w34 : World) : Option (Value × World) :=
(World.cell? w34 (Addr.add (⟨w0.heap.size, 0, none⟩) 3)).bind fun v35 =>
(asI .u64 v35).bind fun n36 =>
(callF Try.prog 52 #[.pointer p13, .int .u64 n36] w34).bind fun r37 =>
(asTup 0 r37.1).bind fun _ =>
(World.cell? r37.2 (Addr.add (⟨w0.heap.size, 0, none⟩) 5)).bind fun v38 =>
(asSl v38).bind fun q39 =>
(callF Try.prog 53 #[.pointer p13, .slice q39.1 q39.2.1 q39.2.2] r37.2).bind fun r40 =>
(asTup 0 r40.1).bind fun _ =>
(World.cell? r40.2 (Addr.add (⟨w0.heap.size, 0, none⟩) 6)).bind fun v41 =>
(asB v41).bind fun b42 =>
(callF Try.prog 54 #[.pointer p13, .bool b42] r40.2).bind fun r43 =>
(asTup 0 r43.1).bind fun _ =>
(callF Try.prog 55 #[.pointer p13] r43.2).bind fun r44 =>
(asTup 2 r44.1).bind fun l45 =>
(asSl (l45.getD 0 undef)).bind fun q46 =>
(asI .i64 (l45.getD 1 undef)).bind fun n47 =>
some (.tuple #[.slice q46.1 q46.2.1 q46.2.2, .int .i64 n47], r44.2)

noncomputable def g29 (u0c0 : Int) (u0c1 : Int) (u0c2 : Int) (u0c3 : Int) (u0c4 : Int) (u0c5 : Option Addr × Nat × Nat) (u0c6 : Bool) (w0 : World) : Option (Value × World) :=
(World.cell? (World.alloc w0 (.cells #[.int .i64 u0c0, .int .i64 u0c1, .int .i64 u0c2, .int .u64 u0c3, .int .i64 u0c4, .slice u0c5.1 u0c5.2.1 u0c5.2.2, .bool u0c6] 30)) (⟨w0.heap.size, 0, none⟩)).bind fun v1 =>
(asI .i64 v1).bind fun n2 =>
if (decide ((n2 : Int) < 1)) = true then
(some (.tuple #[.slice none 0 0, .int .i64 1], (World.alloc w0 (.cells #[.int .i64 u0c0, .int .i64 u0c1, .int .i64 u0c2, .int .u64 u0c3, .int .i64 u0c4, .slice u0c5.1 u0c5.2.1 u0c5.2.2, .bool u0c6] 30))))
else
((World.cell? (World.alloc w0 (.cells #[.int .i64 u0c0, .int .i64 u0c1, .int .i64 u0c2, .int .u64 u0c3, .int .i64 u0c4, .slice u0c5.1 u0c5.2.1 u0c5.2.2, .bool u0c6] 30)) (⟨w0.heap.size, 0, none⟩)).bind fun v3 =>
(asI .i64 v3).bind fun n4 =>
if (decide ((n4 : Int) > 4)) = true then
(some (.tuple #[.slice none 0 0, .int .i64 1], (World.alloc w0 (.cells #[.int .i64 u0c0, .int .i64 u0c1, .int .i64 u0c2, .int .u64 u0c3, .int .i64 u0c4, .slice u0c5.1 u0c5.2.1 u0c5.2.2, .bool u0c6] 30))))
else
((World.cell? (World.alloc w0 (.cells #[.int .i64 u0c0, .int .i64 u0c1, .int .i64 u0c2, .int .u64 u0c3, .int .i64 u0c4, .slice u0c5.1 u0c5.2.1 u0c5.2.2, .bool u0c6] 30)) (Addr.add (⟨w0.heap.size, 0, none⟩) 1)).bind fun v5 =>
(asI .i64 v5).bind fun n6 =>
if (decide ((n6 : Int) < 0)) = true then
(some (.tuple #[.slice none 0 0, .int .i64 1], (World.alloc w0 (.cells #[.int .i64 u0c0, .int .i64 u0c1, .int .i64 u0c2, .int .u64 u0c3, .int .i64 u0c4, .slice u0c5.1 u0c5.2.1 u0c5.2.2, .bool u0c6] 30))))
else
((World.cell? (World.alloc w0 (.cells #[.int .i64 u0c0, .int .i64 u0c1, .int .i64 u0c2, .int .u64 u0c3, .int .i64 u0c4, .slice u0c5.1 u0c5.2.1 u0c5.2.2, .bool u0c6] 30)) (Addr.add (⟨w0.heap.size, 0, none⟩) 1)).bind fun v7 =>
(asI .i64 v7).bind fun n8 =>
if (decide ((n8 : Int) ≥ 8)) = true then
(some (.tuple #[.slice none 0 0, .int .i64 1], (World.alloc w0 (.cells #[.int .i64 u0c0, .int .i64 u0c1, .int .i64 u0c2, .int .u64 u0c3, .int .i64 u0c4, .slice u0c5.1 u0c5.2.1 u0c5.2.2, .bool u0c6] 30))))
else
((World.cell? (World.alloc w0 (.cells #[.int .i64 u0c0, .int .i64 u0c1, .int .i64 u0c2, .int .u64 u0c3, .int .i64 u0c4, .slice u0c5.1 u0c5.2.1 u0c5.2.2, .bool u0c6] 30)) (Addr.add (⟨w0.heap.size, 0, none⟩) 5)).bind fun v9 =>
(asSl v9).bind fun q10 =>
if (decide (((q10.2.1 : Int) : Int) > 6)) = true then
(some (.tuple #[.slice none 0 0, .int .i64 1], (World.alloc w0 (.cells #[.int .i64 u0c0, .int .i64 u0c1, .int .i64 u0c2, .int .u64 u0c3, .int .i64 u0c4, .slice u0c5.1 u0c5.2.1 u0c5.2.2, .bool u0c6] 30))))
else
((callF Try.prog 50 #[] (World.alloc w0 (.cells #[.int .i64 u0c0, .int .i64 u0c1, .int .i64 u0c2, .int .u64 u0c3, .int .i64 u0c4, .slice u0c5.1 u0c5.2.1 u0c5.2.2, .bool u0c6] 30))).bind fun r12 =>
(asP r12.1).bind fun p13 =>
(World.cell? r12.2 (⟨w0.heap.size, 0, none⟩)).bind fun v14 =>
(asI .i64 v14).bind fun n15 =>
(World.cell? r12.2 (Addr.add (⟨w0.heap.size, 0, none⟩) 1)).bind fun v16 =>
(asI .i64 v16).bind fun n17 =>
(World.cell? r12.2 (Addr.add (⟨w0.heap.size, 0, none⟩) 2)).bind fun v18 =>
(asI .i64 v18).bind fun n19 =>
(World.cell? r12.2 (Addr.add (⟨w0.heap.size, 0, none⟩) 4)).bind fun v20 =>
(asI .i64 v20).bind fun n21 =>
g29_l23 w0 p13 r12 0 (World.alloc r12.2 (.cells #[.int .i64 n15, .int .i64 n17, .int .i64 n19, .int .i64 n21] 3)))))))

theorem g29_eq (u0c0 : Int) (u0c1 : Int) (u0c2 : Int) (u0c3 : Int) (u0c4 : Int) (u0c5 : Option Addr × Nat × Nat) (u0c6 : Bool) (w0 : World) : evFn Try.prog 29 g29_ann #[.agg #[.int .i64 u0c0, .int .i64 u0c1, .int .i64 u0c2, .int .u64 u0c3, .int .i64 u0c4, .slice u0c5.1 u0c5.2.1 u0c5.2.2, .bool u0c6]] w0 = g29 u0c0 u0c1 u0c2 u0c3 u0c4 u0c5 u0c6 w0 := by kernel_rfl

theorem g29_call {u0c0 : Int} {u0c1 : Int} {u0c2 : Int} {u0c3 : Int} {u0c4 : Int} {u0c5 : Option Addr × Nat × Nat} {u0c6 : Bool} {w0 : World} {r : Value × World} (h : g29 u0c0 u0c1 u0c2 u0c3 u0c4 u0c5 u0c6 w0 = some r) : callF Try.prog 29 #[.agg #[.int .i64 u0c0, .int .i64 u0c1, .int .i64 u0c2, .int .u64 u0c3, .int .i64 u0c4, .slice u0c5.1 u0c5.2.1 u0c5.2.2, .bool u0c6]] w0 = some r :=
  callF_of_evFn (ann := g29_ann) Try.call29 (by kernel_rfl) ((g29_eq u0c0 u0c1 u0c2 u0c3 u0c4 u0c5 u0c6 w0).trans h)

theorem g29_l23_x0_of {w0 : World} {p13 : Option Addr} {r12 : Value × World} {s t : Int} {w w' : World} (h : loopS (g29_l23_b r12 p13 w0) s w = some (.exit 0, t, w')) : g29_l23 w0 p13 r12 s w = g29_l23_x0 w0 p13 t w' := by
  have h1 : g29_l23 w0 p13 r12 s w = loopM Try.prog 66 29 g29_ann (cAt [1, 1, 1, 0, 1, 0, 0] (bodyOf Try.f29)) [0, 1, 0, 1, 1, 1] g29_K32 ((g29_l23_cs w0 p13 r12) ++ sputs [(42, .i .i64)] s) w := by kernel_rfl
  have h2 : loopM Try.prog 66 29 g29_ann (cAt [1, 1, 1, 0, 1, 0, 0] (bodyOf Try.f29)) [0, 1, 0, 1, 1, 1] g29_K32 ((g29_l23_cs w0 p13 r12) ++ sputs [(42, .i .i64)] s) w = g29_K32 (.exit 0) (puts 66 ((g29_l23_cs w0 p13 r12) ++ sputs [(42, .i .i64)] t)) w' :=
    loop_rule (P := Try.prog) (N := 66) (f := 29) (ann := g29_ann) (body := (cAt [1, 1, 1, 0, 1, 0, 0] (bodyOf Try.f29))) (pt := [0, 1, 0, 1, 1, 1]) (K := g29_K32) (g29_l23_cs w0 p13 r12) [(42, .i .i64)] (b := g29_l23_b r12 p13 w0) (fun s w => by kernel_rfl) (by kernel_rfl) (by kernel_rfl) (by kernel_rfl) h
  have h3 : g29_K32 (.exit 0) (puts 66 ((g29_l23_cs w0 p13 r12) ++ sputs [(42, .i .i64)] t)) w' = g29_l23_x0 w0 p13 t w' := by kernel_rfl
  exact h1.trans (h2.trans h3)

/-! 30: penstock/penstockref03.Same (a: []uint8, b: []uint8) -/
def g30_ann : List (List Nat × List Nat) := [([0, 1, 0, 1, 1], [0, 1, 4, 5])]

def g30_l3_cs (u0 : Option Addr × Nat × Nat) (u1 : Option Addr × Nat × Nat) : List (Nat × Value) := ([(0, .slice u0.1 u0.2.1 u0.2.2), (1, .slice u1.1 u1.2.1 u1.2.2)] : List (Nat × Value))

/-- the round of a loop (penstock/penstockref03.Same) -/
noncomputable def g30_l3_b (u0 : Option Addr × Nat × Nat) (u1 : Option Addr × Nat × Nat) (s4 : Bool × Int) (w5 : World) : Option (Exit × (Bool × Int) × World) :=
if (decide ((s4.2 : Int) < (u0.2.1 : Int))) = true then
((idxA u0.1 u0.2.1 1 s4.2).bind fun a7 =>
(World.cell? (World.drew w5) a7).bind fun v8 =>
(asI .u8 v8).bind fun n9 =>
(idxA u1.1 u1.2.1 1 s4.2).bind fun a10 =>
(World.cell? (World.drew w5) a10).bind fun v11 =>
(asI .u8 v11).bind fun n12 =>
if ((n9 : Int) != n12) = true then
(some (.ret, (false, s4.2), (World.drew w5)))
else
(some (.normal, (s4.1, (IntKind.i64.wrap (s4.2 + 1))), (World.drew w5))))
else
(some ((.exit 0), (s4.1, s4.2), w5))

noncomputable def g30_K13  : Exit → Env → World → Option (Value × World) :=
  retK Try.prog Try.f30.results.toList

noncomputable def g30_K14  : Exit → Env → World → Option (Value × World) :=
  seqK (ev Try.prog 26 30 g30_ann (cAt [1, 1, 1] (bodyOf Try.f30)) [1, 1, 1] g30_K13) g30_K13

noncomputable def g30_K15  : Exit → Env → World → Option (Value × World) :=
  blkK 0 g30_K14

/-- the loop, from a state on -/
noncomputable def g30_l3 (u0 : Option Addr × Nat × Nat) (u1 : Option Addr × Nat × Nat) (s : Bool × Int) (w : World) : Option (Value × World) :=
  loopM Try.prog 26 30 g30_ann (cAt [1, 1, 0, 1, 0, 0] (bodyOf Try.f30)) [0, 1, 0, 1, 1] g30_K15 ((g30_l3_cs u0 u1) ++ sputs [(4, .b), (5, .i .i64)] s) w

/-- behind the loop, left by x0 -/
noncomputable def g30_l3_x0  (t16 : Bool × Int) (w17 : World) : Option (Value × World) :=
some (.bool true, w17)

/-- behind the loop, left by ret -/
noncomputable def g30_l3_ret  (t18 : Bool × Int) (w19 : World) : Option (Value × World) :=
some (.bool t18.1, w19)

noncomputable def g30 (u0 : Option Addr × Nat × Nat) (u1 : Option Addr × Nat × Nat) (w0 : World) : Option (Value × World) :=
if (((u0.2.1 : Int) : Int) != (u1.2.1 : Int)) = true then
(some (.bool false, w0))
else
(g30_l3 u0 u1 (false, 0) w0)

theorem g30_eq (u0 : Option Addr × Nat × Nat) (u1 : Option Addr × Nat × Nat) (w0 : World) : evFn Try.prog 30 g30_ann #[.slice u0.1 u0.2.1 u0.2.2, .slice u1.1 u1.2.1 u1.2.2] w0 = g30 u0 u1 w0 := by kernel_rfl

theorem g30_call {u0 : Option Addr × Nat × Nat} {u1 : Option Addr × Nat × Nat} {w0 : World} {r : Value × World} (h : g30 u0 u1 w0 = some r) : callF Try.prog 30 #[.slice u0.1 u0.2.1 u0.2.2, .slice u1.1 u1.2.1 u1.2.2] w0 = some r :=
  callF_of_evFn (ann := g30_ann) Try.call30 (by kernel_rfl) ((g30_eq u0 u1 w0).trans h)

theorem g30_l3_x0_of {u0 : Option Addr × Nat × Nat} {u1 : Option Addr × Nat × Nat} {s t : Bool × Int} {w w' : World} (h : loopS (g30_l3_b u0 u1) s w = some (.exit 0, t, w')) : g30_l3 u0 u1 s w = g30_l3_x0 t w' := by
  have h1 : g30_l3 u0 u1 s w = loopM Try.prog 26 30 g30_ann (cAt [1, 1, 0, 1, 0, 0] (bodyOf Try.f30)) [0, 1, 0, 1, 1] g30_K15 ((g30_l3_cs u0 u1) ++ sputs [(4, .b), (5, .i .i64)] s) w := by kernel_rfl
  have h2 : loopM Try.prog 26 30 g30_ann (cAt [1, 1, 0, 1, 0, 0] (bodyOf Try.f30)) [0, 1, 0, 1, 1] g30_K15 ((g30_l3_cs u0 u1) ++ sputs [(4, .b), (5, .i .i64)] s) w = g30_K15 (.exit 0) (puts 26 ((g30_l3_cs u0 u1) ++ sputs [(4, .b), (5, .i .i64)] t)) w' :=
    loop_rule (P := Try.prog) (N := 26) (f := 30) (ann := g30_ann) (body := (cAt [1, 1, 0, 1, 0, 0] (bodyOf Try.f30))) (pt := [0, 1, 0, 1, 1]) (K := g30_K15) (g30_l3_cs u0 u1) [(4, .b), (5, .i .i64)] (b := g30_l3_b u0 u1) (fun s w => by kernel_rfl) (by kernel_rfl) (by kernel_rfl) (by kernel_rfl) h
  have h3 : g30_K15 (.exit 0) (puts 26 ((g30_l3_cs u0 u1) ++ sputs [(4, .b), (5, .i .i64)] t)) w' = g30_l3_x0 t w' := by kernel_rfl
  exact h1.trans (h2.trans h3)

theorem g30_l3_ret_of {u0 : Option Addr × Nat × Nat} {u1 : Option Addr × Nat × Nat} {s t : Bool × Int} {w w' : World} (h : loopS (g30_l3_b u0 u1) s w = some (.ret, t, w')) : g30_l3 u0 u1 s w = g30_l3_ret t w' := by
  have h1 : g30_l3 u0 u1 s w = loopM Try.prog 26 30 g30_ann (cAt [1, 1, 0, 1, 0, 0] (bodyOf Try.f30)) [0, 1, 0, 1, 1] g30_K15 ((g30_l3_cs u0 u1) ++ sputs [(4, .b), (5, .i .i64)] s) w := by kernel_rfl
  have h2 : loopM Try.prog 26 30 g30_ann (cAt [1, 1, 0, 1, 0, 0] (bodyOf Try.f30)) [0, 1, 0, 1, 1] g30_K15 ((g30_l3_cs u0 u1) ++ sputs [(4, .b), (5, .i .i64)] s) w = g30_K15 (.ret) (puts 26 ((g30_l3_cs u0 u1) ++ sputs [(4, .b), (5, .i .i64)] t)) w' :=
    loop_rule (P := Try.prog) (N := 26) (f := 30) (ann := g30_ann) (body := (cAt [1, 1, 0, 1, 0, 0] (bodyOf Try.f30))) (pt := [0, 1, 0, 1, 1]) (K := g30_K15) (g30_l3_cs u0 u1) [(4, .b), (5, .i .i64)] (b := g30_l3_b u0 u1) (fun s w => by kernel_rfl) (by kernel_rfl) (by kernel_rfl) (by kernel_rfl) h
  have h3 : g30_K15 (.ret) (puts 26 ((g30_l3_cs u0 u1) ++ sputs [(4, .b), (5, .i .i64)] t)) w' = g30_l3_ret t w' := by kernel_rfl
  exact h1.trans (h2.trans h3)

/-! 31: penstock/txn.Decode (b: []uint8) -/
def g31_ann : List (List Nat × List Nat) := []

noncomputable def g31 (u0 : Option Addr × Nat × Nat) (w0 : World) : Option (Value × World) :=
(callF Try.prog 56 #[.slice u0.1 u0.2.1 u0.2.2] (World.alloc w0 (.cells #[.int .i64 0, .int .i64 0, .int .i64 0, .int .u64 0, .int .i64 0, .slice none 0 0, .bool false] 30))).bind fun r1 =>
(asP r1.1).bind fun p2 =>
(callF Try.prog 57 #[.pointer p2] r1.2).bind fun r3 =>
(asI .i64 r3.1).bind fun n4 =>
(callF Try.prog 57 #[.pointer p2] r3.2).bind fun r5 =>
(asI .i64 r5.1).bind fun n6 =>
(callF Try.prog 57 #[.pointer p2] r5.2).bind fun r7 =>
(asI .i64 r7.1).bind fun n8 =>
(callF Try.prog 57 #[.pointer p2] r7.2).bind fun r9 =>
(asI .i64 r9.1).bind fun n10 =>
(callF Try.prog 58 #[.pointer p2] r9.2).bind fun r11 =>
(asI .u64 r11.1).bind fun n12 =>
(callF Try.prog 59 #[.pointer p2] r11.2).bind fun r13 =>
(asSl r13.1).bind fun q14 =>
(callF Try.prog 60 #[.pointer p2] r13.2).bind fun r15 =>
(asB r15.1).bind fun b16 =>
(stL (World.alloc r15.2 (.cells #[.int .i64 0, .int .i64 0, .int .i64 0, .int .u64 0, .int .i64 0, .slice none 0 0, .bool false] 30)) (⟨r15.2.heap.size, 0, none⟩) [.int .i64 n4, .int .i64 n6, .int .i64 n8, .int .u64 n12, .int .i64 n10, .slice q14.1 q14.2.1 q14.2.2, .bool b16] 0).bind fun w17 =>
(callF Try.prog 61 #[.pointer p2] w17).bind fun r18 =>
(asI .i64 r18.1).bind fun n19 =>
if ((n19 : Int) != 0) = true then
((stL r18.2 (⟨w0.heap.size, 0, none⟩) [.int .i64 0, .int .i64 0, .int .i64 0, .int .u64 0, .int .i64 0, .slice none 0 0, .bool false] 0).bind fun w20 =>
(ldN w20 (⟨w0.heap.size, 0, none⟩) 0 7).bind fun l21 =>
(asI .i64 (l21.getD 0 undef)).bind fun n22 =>
(asI .i64 (l21.getD 1 undef)).bind fun n23 =>
(asI .i64 (l21.getD 2 undef)).bind fun n24 =>
(asI .u64 (l21.getD 3 undef)).bind fun n25 =>
(asI .i64 (l21.getD 4 undef)).bind fun n26 =>
(asSl (l21.getD 5 undef)).bind fun q27 =>
(asB (l21.getD 6 undef)).bind fun b28 =>
some (.tuple #[.agg #[.int .i64 n22, .int .i64 n23, .int .i64 n24, .int .u64 n25, .int .i64 n26, .slice q27.1 q27.2.1 q27.2.2, .bool b28], .int .i64 n19], w20))
else
((World.cell? r18.2 (⟨r15.2.heap.size, 0, none⟩)).bind fun v29 =>
(asI .i64 v29).bind fun n30 =>
if (decide ((n30 : Int) < 1)) = true then
((stL r18.2 (⟨w0.heap.size, 0, none⟩) [.int .i64 0, .int .i64 0, .int .i64 0, .int .u64 0, .int .i64 0, .slice none 0 0, .bool false] 0).bind fun w31 =>
(ldN w31 (⟨w0.heap.size, 0, none⟩) 0 7).bind fun l32 =>
(asI .i64 (l32.getD 0 undef)).bind fun n33 =>
(asI .i64 (l32.getD 1 undef)).bind fun n34 =>
(asI .i64 (l32.getD 2 undef)).bind fun n35 =>
(asI .u64 (l32.getD 3 undef)).bind fun n36 =>
(asI .i64 (l32.getD 4 undef)).bind fun n37 =>
(asSl (l32.getD 5 undef)).bind fun q38 =>
(asB (l32.getD 6 undef)).bind fun b39 =>
some (.tuple #[.agg #[.int .i64 n33, .int .i64 n34, .int .i64 n35, .int .u64 n36, .int .i64 n37, .slice q38.1 q38.2.1 q38.2.2, .bool b39], .int .i64 1], w31))
else
((World.cell? r18.2 (⟨r15.2.heap.size, 0, none⟩)).bind fun v40 =>
(asI .i64 v40).bind fun n41 =>
if (decide ((n41 : Int) > 4)) = true then
((stL r18.2 (⟨w0.heap.size, 0, none⟩) [.int .i64 0, .int .i64 0, .int .i64 0, .int .u64 0, .int .i64 0, .slice none 0 0, .bool false] 0).bind fun w42 =>
(ldN w42 (⟨w0.heap.size, 0, none⟩) 0 7).bind fun l43 =>
(asI .i64 (l43.getD 0 undef)).bind fun n44 =>
(asI .i64 (l43.getD 1 undef)).bind fun n45 =>
(asI .i64 (l43.getD 2 undef)).bind fun n46 =>
(asI .u64 (l43.getD 3 undef)).bind fun n47 =>
(asI .i64 (l43.getD 4 undef)).bind fun n48 =>
(asSl (l43.getD 5 undef)).bind fun q49 =>
(asB (l43.getD 6 undef)).bind fun b50 =>
some (.tuple #[.agg #[.int .i64 n44, .int .i64 n45, .int .i64 n46, .int .u64 n47, .int .i64 n48, .slice q49.1 q49.2.1 q49.2.2, .bool b50], .int .i64 1], w42))
else
((World.cell? r18.2 (Addr.add (⟨r15.2.heap.size, 0, none⟩) 1)).bind fun v51 =>
(asI .i64 v51).bind fun n52 =>
if (decide ((n52 : Int) < 0)) = true then
((stL r18.2 (⟨w0.heap.size, 0, none⟩) [.int .i64 0, .int .i64 0, .int .i64 0, .int .u64 0, .int .i64 0, .slice none 0 0, .bool false] 0).bind fun w53 =>
(ldN w53 (⟨w0.heap.size, 0, none⟩) 0 7).bind fun l54 =>
(asI .i64 (l54.getD 0 undef)).bind fun n55 =>
(asI .i64 (l54.getD 1 undef)).bind fun n56 =>
(asI .i64 (l54.getD 2 undef)).bind fun n57 =>
(asI .u64 (l54.getD 3 undef)).bind fun n58 =>
(asI .i64 (l54.getD 4 undef)).bind fun n59 =>
(asSl (l54.getD 5 undef)).bind fun q60 =>
(asB (l54.getD 6 undef)).bind fun b61 =>
some (.tuple #[.agg #[.int .i64 n55, .int .i64 n56, .int .i64 n57, .int .u64 n58, .int .i64 n59, .slice q60.1 q60.2.1 q60.2.2, .bool b61], .int .i64 1], w53))
else
((World.cell? r18.2 (Addr.add (⟨r15.2.heap.size, 0, none⟩) 1)).bind fun v62 =>
(asI .i64 v62).bind fun n63 =>
if (decide ((n63 : Int) ≥ 8)) = true then
((stL r18.2 (⟨w0.heap.size, 0, none⟩) [.int .i64 0, .int .i64 0, .int .i64 0, .int .u64 0, .int .i64 0, .slice none 0 0, .bool false] 0).bind fun w64 =>
(ldN w64 (⟨w0.heap.size, 0, none⟩) 0 7).bind fun l65 =>
(asI .i64 (l65.getD 0 undef)).bind fun n66 =>
(asI .i64 (l65.getD 1 undef)).bind fun n67 =>
(asI .i64 (l65.getD 2 undef)).bind fun n68 =>
(asI .u64 (l65.getD 3 undef)).bind fun n69 =>
(asI .i64 (l65.getD 4 undef)).bind fun n70 =>
(asSl (l65.getD 5 undef)).bind fun q71 =>
(asB (l65.getD 6 undef)).bind fun b72 =>
some (.tuple #[.agg #[.int .i64 n66, .int .i64 n67, .int .i64 n68, .int .u64 n69, .int .i64 n70, .slice q71.1 q71.2.1 q71.2.2, .bool b72], .int .i64 1], w64))
else
((World.cell? r18.2 (Addr.add (⟨r15.2.heap.size, 0, none⟩) 5)).bind fun v73 =>
(asSl v73).bind fun q74 =>
if (decide (((q74.2.1 : Int) : Int) > 6)) = true then
((stL r18.2 (⟨w0.heap.size, 0, none⟩) [.int .i64 0, .int .i64 0, .int .i64 0, .int .u64 0, .int .i64 0, .slice none 0 0, .bool false] 0).bind fun w76 =>
(ldN w76 (⟨w0.heap.size, 0, none⟩) 0 7).bind fun l77 =>
(asI .i64 (l77.getD 0 undef)).bind fun n78 =>
(asI .i64 (l77.getD 1 undef)).bind fun n79 =>
(asI .i64 (l77.getD 2 undef)).bind fun n80 =>
(asI .u64 (l77.getD 3 undef)).bind fun n81 =>
(asI .i64 (l77.getD 4 undef)).bind fun n82 =>
(asSl (l77.getD 5 undef)).bind fun q83 =>
(asB (l77.getD 6 undef)).bind fun b84 =>
some (.tuple #[.agg #[.int .i64 n78, .int .i64 n79, .int .i64 n80, .int .u64 n81, .int .i64 n82, .slice q83.1 q83.2.1 q83.2.2, .bool b84], .int .i64 1], w76))
else
((ldN r18.2 (⟨r15.2.heap.size, 0, none⟩) 0 7).bind fun l85 =>
(asI .i64 (l85.getD 0 undef)).bind fun n86 =>
(asI .i64 (l85.getD 1 undef)).bind fun n87 =>
(asI .i64 (l85.getD 2 undef)).bind fun n88 =>
(asI .u64 (l85.getD 3 undef)).bind fun n89 =>
(asI .i64 (l85.getD 4 undef)).bind fun n90 =>
(asSl (l85.getD 5 undef)).bind fun q91 =>
(asB (l85.getD 6 undef)).bind fun b92 =>
(stL r18.2 (⟨w0.heap.size, 0, none⟩) [.int .i64 n86, .int .i64 n87, .int .i64 n88, .int .u64 n89, .int .i64 n90, .slice q91.1 q91.2.1 q91.2.2, .bool b92] 0).bind fun w93 =>
(ldN w93 (⟨w0.heap.size, 0, none⟩) 0 7).bind fun l94 =>
(asI .i64 (l94.getD 0 undef)).bind fun n95 =>
(asI .i64 (l94.getD 1 undef)).bind fun n96 =>
(asI .i64 (l94.getD 2 undef)).bind fun n97 =>
(asI .u64 (l94.getD 3 undef)).bind fun n98 =>
(asI .i64 (l94.getD 4 undef)).bind fun n99 =>
(asSl (l94.getD 5 undef)).bind fun q100 =>
(asB (l94.getD 6 undef)).bind fun b101 =>
some (.tuple #[.agg #[.int .i64 n95, .int .i64 n96, .int .i64 n97, .int .u64 n98, .int .i64 n99, .slice q100.1 q100.2.1 q100.2.2, .bool b101], .int .i64 0], w93)))))))

theorem g31_eq (u0 : Option Addr × Nat × Nat) (w0 : World) : evFn Try.prog 31 g31_ann #[.slice u0.1 u0.2.1 u0.2.2] w0 = g31 u0 w0 := by kernel_rfl

theorem g31_call {u0 : Option Addr × Nat × Nat} {w0 : World} {r : Value × World} (h : g31 u0 w0 = some r) : callF Try.prog 31 #[.slice u0.1 u0.2.1 u0.2.2] w0 = some r :=
  callF_of_evFn (ann := g31_ann) Try.call31 (by kernel_rfl) ((g31_eq u0 w0).trans h)

/-! 35: penstock/penstockref03.SameInts (a: []int, b: []int) -/
def g35_ann : List (List Nat × List Nat) := [([0, 1, 0, 1, 1], [0, 1, 4, 5])]

def g35_l3_cs (u0 : Option Addr × Nat × Nat) (u1 : Option Addr × Nat × Nat) : List (Nat × Value) := ([(0, .slice u0.1 u0.2.1 u0.2.2), (1, .slice u1.1 u1.2.1 u1.2.2)] : List (Nat × Value))

/-- the round of a loop (penstock/penstockref03.SameInts) -/
noncomputable def g35_l3_b (u0 : Option Addr × Nat × Nat) (u1 : Option Addr × Nat × Nat) (s4 : Bool × Int) (w5 : World) : Option (Exit × (Bool × Int) × World) :=
if (decide ((s4.2 : Int) < (u0.2.1 : Int))) = true then
((idxA u0.1 u0.2.1 1 s4.2).bind fun a7 =>
(World.cell? (World.drew w5) a7).bind fun v8 =>
(asI .i64 v8).bind fun n9 =>
(idxA u1.1 u1.2.1 1 s4.2).bind fun a10 =>
(World.cell? (World.drew w5) a10).bind fun v11 =>
(asI .i64 v11).bind fun n12 =>
if ((n9 : Int) != n12) = true then
(some (.ret, (false, s4.2), (World.drew w5)))
else
(some (.normal, (s4.1, (IntKind.i64.wrap (s4.2 + 1))), (World.drew w5))))
else
(some ((.exit 0), (s4.1, s4.2), w5))

noncomputable def g35_K13  : Exit → Env → World → Option (Value × World) :=
  retK Try.prog Try.f35.results.toList

noncomputable def g35_K14  : Exit → Env → World → Option (Value × World) :=
  seqK (ev Try.prog 26 35 g35_ann (cAt [1, 1, 1] (bodyOf Try.f35)) [1, 1, 1] g35_K13) g35_K13

noncomputable def g35_K15  : Exit → Env → World → Option (Value × World) :=
  blkK 0 g35_K14

/-- the loop, from a state on -/
noncomputable def g35_l3 (u0 : Option Addr × Nat × Nat) (u1 : Option Addr × Nat × Nat) (s : Bool × Int) (w : World) : Option (Value × World) :=
  loopM Try.prog 26 35 g35_ann (cAt [1, 1, 0, 1, 0, 0] (bodyOf Try.f35)) [0, 1, 0, 1, 1] g35_K15 ((g35_l3_cs u0 u1) ++ sputs [(4, .b), (5, .i .i64)] s) w

/-- behind the loop, left by x0 -/
noncomputable def g35_l3_x0  (t16 : Bool × Int) (w17 : World) : Option (Value × World) :=
some (.bool true, w17)

/-- behind the loop, left by ret -/
noncomputable def g35_l3_ret  (t18 : Bool × Int) (w19 : World) : Option (Value × World) :=
some (.bool t18.1, w19)

noncomputable def g35 (u0 : Option Addr × Nat × Nat) (u1 : Option Addr × Nat × Nat) (w0 : World) : Option (Value × World) :=
if (((u0.2.1 : Int) : Int) != (u1.2.1 : Int)) = true then
(some (.bool false, w0))
else
(g35_l3 u0 u1 (false, 0) w0)

theorem g35_eq (u0 : Option Addr × Nat × Nat) (u1 : Option Addr × Nat × Nat) (w0 : World) : evFn Try.prog 35 g35_ann #[.slice u0.1 u0.2.1 u0.2.2, .slice u1.1 u1.2.1 u1.2.2] w0 = g35 u0 u1 w0 := by kernel_rfl

theorem g35_call {u0 : Option Addr × Nat × Nat} {u1 : Option Addr × Nat × Nat} {w0 : World} {r : Value × World} (h : g35 u0 u1 w0 = some r) : callF Try.prog 35 #[.slice u0.1 u0.2.1 u0.2.2, .slice u1.1 u1.2.1 u1.2.2] w0 = some r :=
  callF_of_evFn (ann := g35_ann) Try.call35 (by kernel_rfl) ((g35_eq u0 u1 w0).trans h)

theorem g35_l3_x0_of {u0 : Option Addr × Nat × Nat} {u1 : Option Addr × Nat × Nat} {s t : Bool × Int} {w w' : World} (h : loopS (g35_l3_b u0 u1) s w = some (.exit 0, t, w')) : g35_l3 u0 u1 s w = g35_l3_x0 t w' := by
  have h1 : g35_l3 u0 u1 s w = loopM Try.prog 26 35 g35_ann (cAt [1, 1, 0, 1, 0, 0] (bodyOf Try.f35)) [0, 1, 0, 1, 1] g35_K15 ((g35_l3_cs u0 u1) ++ sputs [(4, .b), (5, .i .i64)] s) w := by kernel_rfl
  have h2 : loopM Try.prog 26 35 g35_ann (cAt [1, 1, 0, 1, 0, 0] (bodyOf Try.f35)) [0, 1, 0, 1, 1] g35_K15 ((g35_l3_cs u0 u1) ++ sputs [(4, .b), (5, .i .i64)] s) w = g35_K15 (.exit 0) (puts 26 ((g35_l3_cs u0 u1) ++ sputs [(4, .b), (5, .i .i64)] t)) w' :=
    loop_rule (P := Try.prog) (N := 26) (f := 35) (ann := g35_ann) (body := (cAt [1, 1, 0, 1, 0, 0] (bodyOf Try.f35))) (pt := [0, 1, 0, 1, 1]) (K := g35_K15) (g35_l3_cs u0 u1) [(4, .b), (5, .i .i64)] (b := g35_l3_b u0 u1) (fun s w => by kernel_rfl) (by kernel_rfl) (by kernel_rfl) (by kernel_rfl) h
  have h3 : g35_K15 (.exit 0) (puts 26 ((g35_l3_cs u0 u1) ++ sputs [(4, .b), (5, .i .i64)] t)) w' = g35_l3_x0 t w' := by kernel_rfl
  exact h1.trans (h2.trans h3)

theorem g35_l3_ret_of {u0 : Option Addr × Nat × Nat} {u1 : Option Addr × Nat × Nat} {s t : Bool × Int} {w w' : World} (h : loopS (g35_l3_b u0 u1) s w = some (.ret, t, w')) : g35_l3 u0 u1 s w = g35_l3_ret t w' := by
  have h1 : g35_l3 u0 u1 s w = loopM Try.prog 26 35 g35_ann (cAt [1, 1, 0, 1, 0, 0] (bodyOf Try.f35)) [0, 1, 0, 1, 1] g35_K15 ((g35_l3_cs u0 u1) ++ sputs [(4, .b), (5, .i .i64)] s) w := by kernel_rfl
  have h2 : loopM Try.prog 26 35 g35_ann (cAt [1, 1, 0, 1, 0, 0] (bodyOf Try.f35)) [0, 1, 0, 1, 1] g35_K15 ((g35_l3_cs u0 u1) ++ sputs [(4, .b), (5, .i .i64)] s) w = g35_K15 (.ret) (puts 26 ((g35_l3_cs u0 u1) ++ sputs [(4, .b), (5, .i .i64)] t)) w' :=
    loop_rule (P := Try.prog) (N := 26) (f := 35) (ann := g35_ann) (body := (cAt [1, 1, 0, 1, 0, 0] (bodyOf Try.f35))) (pt := [0, 1, 0, 1, 1]) (K := g35_K15) (g35_l3_cs u0 u1) [(4, .b), (5, .i .i64)] (b := g35_l3_b u0 u1) (fun s w => by kernel_rfl) (by kernel_rfl) (by kernel_rfl) (by kernel_rfl) h
  have h3 : g35_K15 (.ret) (puts 26 ((g35_l3_cs u0 u1) ++ sputs [(4, .b), (5, .i .i64)] t)) w' = g35_l3_ret t w' := by kernel_rfl
  exact h1.trans (h2.trans h3)

/-! 40: penstock/penstockref15.bad (r: api.TxRec) -/
def g40_ann : List (List Nat × List Nat) := []

noncomputable def g40 (u0c0 : Int) (u0c1 : Int) (u0c2 : Int) (u0c3 : Int) (u0c4 : Int) (u0c5 : Option Addr × Nat × Nat) (u0c6 : Bool) (w0 : World) : Option (Value × World) :=
(World.cell? (World.alloc w0 (.cells #[.int .i64 u0c0, .int .i64 u0c1, .int .i64 u0c2, .int .u64 u0c3, .int .i64 u0c4, .slice u0c5.1 u0c5.2.1 u0c5.2.2, .bool u0c6] 30)) (⟨w0.heap.size, 0, none⟩)).bind fun v1 =>
(asI .i64 v1).bind fun n2 =>
if (decide ((n2 : Int) < 1)) = true then
(some (.bool true, (World.alloc w0 (.cells #[.int .i64 u0c0, .int .i64 u0c1, .int .i64 u0c2, .int .u64 u0c3, .int .i64 u0c4, .slice u0c5.1 u0c5.2.1 u0c5.2.2, .bool u0c6] 30))))
else
((World.cell? (World.alloc w0 (.cells #[.int .i64 u0c0, .int .i64 u0c1, .int .i64 u0c2, .int .u64 u0c3, .int .i64 u0c4, .slice u0c5.1 u0c5.2.1 u0c5.2.2, .bool u0c6] 30)) (⟨w0.heap.size, 0, none⟩)).bind fun v3 =>
(asI .i64 v3).bind fun n4 =>
if (decide ((n4 : Int) > 4)) = true then
(some (.bool true, (World.alloc w0 (.cells #[.int .i64 u0c0, .int .i64 u0c1, .int .i64 u0c2, .int .u64 u0c3, .int .i64 u0c4, .slice u0c5.1 u0c5.2.1 u0c5.2.2, .bool u0c6] 30))))
else
((World.cell? (World.alloc w0 (.cells #[.int .i64 u0c0, .int .i64 u0c1, .int .i64 u0c2, .int .u64 u0c3, .int .i64 u0c4, .slice u0c5.1 u0c5.2.1 u0c5.2.2, .bool u0c6] 30)) (Addr.add (⟨w0.heap.size, 0, none⟩) 1)).bind fun v5 =>
(asI .i64 v5).bind fun n6 =>
if (decide ((n6 : Int) < 0)) = true then
(some (.bool true, (World.alloc w0 (.cells #[.int .i64 u0c0, .int .i64 u0c1, .int .i64 u0c2, .int .u64 u0c3, .int .i64 u0c4, .slice u0c5.1 u0c5.2.1 u0c5.2.2, .bool u0c6] 30))))
else
((World.cell? (World.alloc w0 (.cells #[.int .i64 u0c0, .int .i64 u0c1, .int .i64 u0c2, .int .u64 u0c3, .int .i64 u0c4, .slice u0c5.1 u0c5.2.1 u0c5.2.2, .bool u0c6] 30)) (Addr.add (⟨w0.heap.size, 0, none⟩) 1)).bind fun v7 =>
(asI .i64 v7).bind fun n8 =>
if (decide ((n8 : Int) > 7)) = true then
(some (.bool true, (World.alloc w0 (.cells #[.int .i64 u0c0, .int .i64 u0c1, .int .i64 u0c2, .int .u64 u0c3, .int .i64 u0c4, .slice u0c5.1 u0c5.2.1 u0c5.2.2, .bool u0c6] 30))))
else
((World.cell? (World.alloc w0 (.cells #[.int .i64 u0c0, .int .i64 u0c1, .int .i64 u0c2, .int .u64 u0c3, .int .i64 u0c4, .slice u0c5.1 u0c5.2.1 u0c5.2.2, .bool u0c6] 30)) (Addr.add (⟨w0.heap.size, 0, none⟩) 5)).bind fun v9 =>
(asSl v9).bind fun q10 =>
some (.bool (decide (((q10.2.1 : Int) : Int) > 6)), (World.alloc w0 (.cells #[.int .i64 u0c0, .int .i64 u0c1, .int .i64 u0c2, .int .u64 u0c3, .int .i64 u0c4, .slice u0c5.1 u0c5.2.1 u0c5.2.2, .bool u0c6] 30)))))))

theorem g40_eq (u0c0 : Int) (u0c1 : Int) (u0c2 : Int) (u0c3 : Int) (u0c4 : Int) (u0c5 : Option Addr × Nat × Nat) (u0c6 : Bool) (w0 : World) : evFn Try.prog 40 g40_ann #[.agg #[.int .i64 u0c0, .int .i64 u0c1, .int .i64 u0c2, .int .u64 u0c3, .int .i64 u0c4, .slice u0c5.1 u0c5.2.1 u0c5.2.2, .bool u0c6]] w0 = g40 u0c0 u0c1 u0c2 u0c3 u0c4 u0c5 u0c6 w0 := by kernel_rfl

theorem g40_call {u0c0 : Int} {u0c1 : Int} {u0c2 : Int} {u0c3 : Int} {u0c4 : Int} {u0c5 : Option Addr × Nat × Nat} {u0c6 : Bool} {w0 : World} {r : Value × World} (h : g40 u0c0 u0c1 u0c2 u0c3 u0c4 u0c5 u0c6 w0 = some r) : callF Try.prog 40 #[.agg #[.int .i64 u0c0, .int .i64 u0c1, .int .i64 u0c2, .int .u64 u0c3, .int .i64 u0c4, .slice u0c5.1 u0c5.2.1 u0c5.2.2, .bool u0c6]] w0 = some r :=
  callF_of_evFn (ann := g40_ann) Try.call40 (by kernel_rfl) ((g40_eq u0c0 u0c1 u0c2 u0c3 u0c4 u0c5 u0c6 w0).trans h)

/-! 41: penstock/penstockref03.Int (n: int) -/
def g41_ann : List (List Nat × List Nat) := []

noncomputable def g41 (u0 : Int) (w0 : World) : Option (Value × World) :=
(callF Try.prog 67 #[.int .i64 u0] w0).bind fun r1 =>
(asI .u64 r1.1).bind fun n2 =>
(callF Try.prog 42 #[.int .u64 n2] r1.2).bind fun r3 =>
(asSl r3.1).bind fun q4 =>
some (.slice q4.1 q4.2.1 q4.2.2, r3.2)

theorem g41_eq (u0 : Int) (w0 : World) : evFn Try.prog 41 g41_ann #[.int .i64 u0] w0 = g41 u0 w0 := by kernel_rfl

theorem g41_call {u0 : Int} {w0 : World} {r : Value × World} (h : g41 u0 w0 = some r) : callF Try.prog 41 #[.int .i64 u0] w0 = some r :=
  callF_of_evFn (ann := g41_ann) Try.call41 (by kernel_rfl) ((g41_eq u0 w0).trans h)

/-! 42: penstock/penstockref03.Uint (n: uint64) -/
def g42_ann : List (List Nat × List Nat) := [([0, 1, 1], [0, 2, 3])]

def g42_l1_cs  : List (Nat × Value) := ([] : List (Nat × Value))

/-- the round of a loop (penstock/penstockref03.Uint) -/
noncomputable def g42_l1_b  (s2 : Int × (Option Addr × Nat × Nat) × (Option Addr × Nat × Nat)) (w3 : World) : Option (Exit × (Int × (Option Addr × Nat × Nat) × (Option Addr × Nat × Nat)) × World) :=
if (((IntKind.u64.wrap (Int.tdiv s2.1 128)) : Int) == 0) = true then
((callB Try.prog .append #[58, 58] 58 #[false, false] #[.slice s2.2.2.1 s2.2.2.2.1 s2.2.2.2.2, .slice (some (⟨w3.heap.size, 0, none⟩)) 1 1] (World.alloc w3 (.cells #[.int .u8 (IntKind.u8.wrap (Int.tmod s2.1 128))] 5))).bind fun r4 =>
(asSl r4.1).bind fun q5 =>
some (.ret, ((IntKind.u64.wrap (Int.tdiv s2.1 128)), (q5.1, q5.2.1, q5.2.2), (q5.1, q5.2.1, q5.2.2)), r4.2))
else
((callB Try.prog .append #[58, 58] 58 #[false, false] #[.slice s2.2.2.1 s2.2.2.2.1 s2.2.2.2.2, .slice (some (⟨w3.heap.size, 0, none⟩)) 1 1] (World.alloc w3 (.cells #[.int .u8 (IntKind.u8.wrap (IntKind.u64.wrap ((Int.tmod s2.1 128) + 128)))] 5))).bind fun r6 =>
(asSl r6.1).bind fun q7 =>
some (.normal, ((IntKind.u64.wrap (Int.tdiv s2.1 128)), (s2.2.1.1, s2.2.1.2.1, s2.2.1.2.2), (q7.1, q7.2.1, q7.2.2)), r6.2))

noncomputable def g42_K8  : Exit → Env → World → Option (Value × World) :=
  retK Try.prog Try.f42.results.toList

noncomputable def g42_K9  : Exit → Env → World → Option (Value × World) :=
  blkK 0 g42_K8

/-- the loop, from a state on -/
noncomputable def g42_l1  (s : Int × (Option Addr × Nat × Nat) × (Option Addr × Nat × Nat)) (w : World) : Option (Value × World) :=
  loopM Try.prog 23 42 g42_ann (cAt [1, 1, 0, 0] (bodyOf Try.f42)) [0, 1, 1] g42_K9 (g42_l1_cs ++ sputs [(0, .i .u64), (2, .sl), (3, .sl)] s) w

/-- behind the loop, left by ret -/
noncomputable def g42_l1_ret  (t10 : Int × (Option Addr × Nat × Nat) × (Option Addr × Nat × Nat)) (w11 : World) : Option (Value × World) :=
some (.slice t10.2.1.1 t10.2.1.2.1 t10.2.1.2.2, w11)

noncomputable def g42 (u0 : Int) (w0 : World) : Option (Value × World) :=
g42_l1 (u0, (none, 0, 0), (none, 0, 0)) w0

theorem g42_eq (u0 : Int) (w0 : World) : evFn Try.prog 42 g42_ann #[.int .u64 u0] w0 = g42 u0 w0 := by kernel_rfl

theorem g42_call {u0 : Int} {w0 : World} {r : Value × World} (h : g42 u0 w0 = some r) : callF Try.prog 42 #[.int .u64 u0] w0 = some r :=
  callF_of_evFn (ann := g42_ann) Try.call42 (by kernel_rfl) ((g42_eq u0 w0).trans h)

theorem g42_l1_ret_of  {s t : Int × (Option Addr × Nat × Nat) × (Option Addr × Nat × Nat)} {w w' : World} (h : loopS (g42_l1_b) s w = some (.ret, t, w')) : g42_l1 s w = g42_l1_ret t w' := by
  have h1 : g42_l1 s w = loopM Try.prog 23 42 g42_ann (cAt [1, 1, 0, 0] (bodyOf Try.f42)) [0, 1, 1] g42_K9 (g42_l1_cs ++ sputs [(0, .i .u64), (2, .sl), (3, .sl)] s) w := by kernel_rfl
  have h2 : loopM Try.prog 23 42 g42_ann (cAt [1, 1, 0, 0] (bodyOf Try.f42)) [0, 1, 1] g42_K9 (g42_l1_cs ++ sputs [(0, .i .u64), (2, .sl), (3, .sl)] s) w = g42_K9 (.ret) (puts 23 (g42_l1_cs ++ sputs [(0, .i .u64), (2, .sl), (3, .sl)] t)) w' :=
    loop_rule (P := Try.prog) (N := 23) (f := 42) (ann := g42_ann) (body := (cAt [1, 1, 0, 0] (bodyOf Try.f42))) (pt := [0, 1, 1]) (K := g42_K9) g42_l1_cs [(0, .i .u64), (2, .sl), (3, .sl)] (b := g42_l1_b) (fun s w => by kernel_rfl) (by kernel_rfl) (by kernel_rfl) (by kernel_rfl) h
  have h3 : g42_K9 (.ret) (puts 23 (g42_l1_cs ++ sputs [(0, .i .u64), (2, .sl), (3, .sl)] t)) w' = g42_l1_ret t w' := by kernel_rfl
  exact h1.trans (h2.trans h3)

/-! 43: penstock/penstockref03.Ints (l: []int) -/
def g43_ann : List (List Nat × List Nat) := [([0, 1, 0, 1, 1], [0, 3, 4])]

def g43_l4_cs (u0 : Option Addr × Nat × Nat) : List (Nat × Value) := ([(0, .slice u0.1 u0.2.1 u0.2.2)] : List (Nat × Value))

/-- the round of a loop (penstock/penstockref03.Ints) -/
noncomputable def g43_l4_b (u0 : Option Addr × Nat × Nat) (s5 : (Option Addr × Nat × Nat) × Int) (w6 : World) : Option (Exit × ((Option Addr × Nat × Nat) × Int) × World) :=
if (decide ((s5.2 : Int) < (u0.2.1 : Int))) = true then
((idxA u0.1 u0.2.1 1 s5.2).bind fun a8 =>
(World.cell? w6 a8).bind fun v9 =>
(asI .i64 v9).bind fun n10 =>
(callF Try.prog 41 #[.int .i64 n10] w6).bind fun r11 =>
(asSl r11.1).bind fun q12 =>
(callB Try.prog .append #[58, 58] 58 #[false, false] #[.slice s5.1.1 s5.1.2.1 s5.1.2.2, .slice q12.1 q12.2.1 q12.2.2] r11.2).bind fun r13 =>
(asSl r13.1).bind fun q14 =>
some (.normal, ((q14.1, q14.2.1, q14.2.2), (IntKind.i64.wrap (s5.2 + 1))), r13.2))
else
(some ((.exit 0), ((s5.1.1, s5.1.2.1, s5.1.2.2), s5.2), w6))

noncomputable def g43_K15  : Exit → Env → World → Option (Value × World) :=
  retK Try.prog Try.f43.results.toList

noncomputable def g43_K16  : Exit → Env → World → Option (Value × World) :=
  seqK (ev Try.prog 23 43 g43_ann (cAt [1, 1, 1] (bodyOf Try.f43)) [1, 1, 1] g43_K15) g43_K15

noncomputable def g43_K17  : Exit → Env → World → Option (Value × World) :=
  blkK 0 g43_K16

/-- the loop, from a state on -/
noncomputable def g43_l4 (u0 : Option Addr × Nat × Nat) (s : (Option Addr × Nat × Nat) × Int) (w : World) : Option (Value × World) :=
  loopM Try.prog 23 43 g43_ann (cAt [1, 1, 0, 1, 0, 0] (bodyOf Try.f43)) [0, 1, 0, 1, 1] g43_K17 ((g43_l4_cs u0) ++ sputs [(3, .sl), (4, .i .i64)] s) w

/-- behind the loop, left by x0 -/
noncomputable def g43_l4_x0  (t18 : (Option Addr × Nat × Nat) × Int) (w19 : World) : Option (Value × World) :=
some (.slice t18.1.1 t18.1.2.1 t18.1.2.2, w19)

noncomputable def g43 (u0 : Option Addr × Nat × Nat) (w0 : World) : Option (Value × World) :=
(callF Try.prog 42 #[.int .u64 (IntKind.u64.wrap (u0.2.1 : Int))] w0).bind fun r2 =>
(asSl r2.1).bind fun q3 =>
g43_l4 u0 ((q3.1, q3.2.1, q3.2.2), 0) r2.2

theorem g43_eq (u0 : Option Addr × Nat × Nat) (w0 : World) : evFn Try.prog 43 g43_ann #[.slice u0.1 u0.2.1 u0.2.2] w0 = g43 u0 w0 := by kernel_rfl

theorem g43_call {u0 : Option Addr × Nat × Nat} {w0 : World} {r : Value × World} (h : g43 u0 w0 = some r) : callF Try.prog 43 #[.slice u0.1 u0.2.1 u0.2.2] w0 = some r :=
  callF_of_evFn (ann := g43_ann) Try.call43 (by kernel_rfl) ((g43_eq u0 w0).trans h)

theorem g43_l4_x0_of {u0 : Option Addr × Nat × Nat} {s t : (Option Addr × Nat × Nat) × Int} {w w' : World} (h : loopS (g43_l4_b u0) s w = some (.exit 0, t, w')) : g43_l4 u0 s w = g43_l4_x0 t w' := by
  have h1 : g43_l4 u0 s w = loopM Try.prog 23 43 g43_ann (cAt [1, 1, 0, 1, 0, 0] (bodyOf Try.f43)) [0, 1, 0, 1, 1] g43_K17 ((g43_l4_cs u0) ++ sputs [(3, .sl), (4, .i .i64)] s) w := by kernel_rfl
  have h2 : loopM Try.prog 23 43 g43_ann (cAt [1, 1, 0, 1, 0, 0] (bodyOf Try.f43)) [0, 1, 0, 1, 1] g43_K17 ((g43_l4_cs u0) ++ sputs [(3, .sl), (4, .i .i64)] s) w = g43_K17 (.exit 0) (puts 23 ((g43_l4_cs u0) ++ sputs [(3, .sl), (4, .i .i64)] t)) w' :=
    loop_rule (P := Try.prog) (N := 23) (f := 43) (ann := g43_ann) (body := (cAt [1, 1, 0, 1, 0, 0] (bodyOf Try.f43))) (pt := [0, 1, 0, 1, 1]) (K := g43_K17) (g43_l4_cs u0) [(3, .sl), (4, .i .i64)] (b := g43_l4_b u0) (fun s w => by kernel_rfl) (by kernel_rfl) (by kernel_rfl) (by kernel_rfl) h
  have h3 : g43_K17 (.exit 0) (puts 23 ((g43_l4_cs u0) ++ sputs [(3, .sl), (4, .i .i64)] t)) w' = g43_l4_x0 t w' := by kernel_rfl
  exact h1.trans (h2.trans h3)

/-! 44: penstock/penstockref03.Flag (is: bool) -/
def g44_ann : List (List Nat × List Nat) := []

noncomputable def g44 (u0 : Bool) (w0 : World) : Option (Value × World) :=
if u0 = true then
(some (.slice (some (⟨w0.heap.size, 0, none⟩)) 1 1, (World.alloc w0 (.cells #[.int .u8 1] 5))))
else
(some (.slice (some (⟨w0.heap.size, 0, none⟩)) 1 1, (World.alloc w0 (.cells #[.int .u8 0] 5))))

theorem g44_eq (u0 : Bool) (w0 : World) : evFn Try.prog 44 g44_ann #[.bool u0] w0 = g44 u0 w0 := by kernel_rfl

theorem g44_call {u0 : Bool} {w0 : World} {r : Value × World} (h : g44 u0 w0 = some r) : callF Try.prog 44 #[.bool u0] w0 = some r :=
  callF_of_evFn (ann := g44_ann) Try.call44 (by kernel_rfl) ((g44_eq u0 w0).trans h)

/-! 45: (*penstock/penstockref03.Reader).Int (r: *penstockref03.Reader) -/
def g45_ann : List (List Nat × List Nat) := []

noncomputable def g45 (u0 : Option Addr) (w0 : World) : Option (Value × World) :=
(callF Try.prog 46 #[.pointer u0] w0).bind fun r1 =>
(asI .u64 r1.1).bind fun n2 =>
(callF Try.prog 68 #[.int .u64 n2] r1.2).bind fun r3 =>
(asI .i64 r3.1).bind fun n4 =>
some (.int .i64 n4, r3.2)

theorem g45_eq (u0 : Option Addr) (w0 : World) : evFn Try.prog 45 g45_ann #[.pointer u0] w0 = g45 u0 w0 := by kernel_rfl

theorem g45_call {u0 : Option Addr} {w0 : World} {r : Value × World} (h : g45 u0 w0 = some r) : callF Try.prog 45 #[.pointer u0] w0 = some r :=
  callF_of_evFn (ann := g45_ann) Try.call45 (by kernel_rfl) ((g45_eq u0 w0).trans h)

/-! 46: (*penstock/penstockref03.Reader).Uint (r: *penstockref03.Reader) -/
def g46_ann : List (List Nat × List Nat) := [([0, 1, 0, 1, 1, 1], [0, 2, 3, 4])]

def g46_l4_cs (u0 : Option Addr) : List (Nat × Value) := ([(0, .pointer u0)] : List (Nat × Value))

/-- the round of a loop ((*penstock/penstockref03.Reader).Uint) -/
noncomputable def g46_l4_b (u0 : Option Addr) (s5 : Int × Int × Int) (w6 : World) : Option (Exit × (Int × Int × Int) × World) :=
if (decide ((s5.2.2 : Int) < 10)) = true then
(u0.bind fun a7 =>
(World.cell? (World.drew w6) (Addr.add a7 1)).bind fun v8 =>
(asI .i64 v8).bind fun n9 =>
u0.bind fun a10 =>
(World.cell? (World.drew w6) a10).bind fun v11 =>
(asSl v11).bind fun q12 =>
if (decide (((IntKind.i64.wrap (n9 + s5.2.2)) : Int) ≥ (q12.2.1 : Int))) = true then
((callF Try.prog 69 #[.pointer u0, .int .i64 6] (World.drew w6)).bind fun r14 =>
(asTup 0 r14.1).bind fun _ =>
some (.ret, (0, s5.2.1, s5.2.2), r14.2))
else
(u0.bind fun a15 =>
(World.cell? (World.drew (World.drew w6)) a15).bind fun v16 =>
(asSl v16).bind fun q17 =>
u0.bind fun a18 =>
(World.cell? (World.drew (World.drew w6)) (Addr.add a18 1)).bind fun v19 =>
(asI .i64 v19).bind fun n20 =>
(idxA q17.1 q17.2.1 1 (IntKind.i64.wrap (n20 + s5.2.2))).bind fun a21 =>
(World.cell? (World.drew (World.drew w6)) a21).bind fun v22 =>
(asI .u8 v22).bind fun n23 =>
if ((s5.2.2 : Int) == 9) = true then
(if (decide (((IntKind.u64.wrap n23) : Int) > 1)) = true then
((callF Try.prog 69 #[.pointer u0, .int .i64 7] (World.drew (World.drew w6))).bind fun r24 =>
(asTup 0 r24.1).bind fun _ =>
some (.ret, (0, s5.2.1, s5.2.2), r24.2))
else
(if (decide ((s5.2.2 : Int) > 0)) = true then
(if (((IntKind.u64.wrap n23) : Int) == 0) = true then
((callF Try.prog 69 #[.pointer u0, .int .i64 7] (World.drew (World.drew w6))).bind fun r25 =>
(asTup 0 r25.1).bind fun _ =>
some (.ret, (0, s5.2.1, s5.2.2), r25.2))
else
(if ((IntKind.u64.wrap (IntKind.i64.wrap (7 * s5.2.2))) : Int) < 0 then
(none)
else
(if (decide (((IntKind.u64.wrap n23) : Int) < 128)) = true then
(u0.bind fun a26 =>
(World.cell? (World.drew (World.drew w6)) (Addr.add a26 1)).bind fun v27 =>
(asI .i64 v27).bind fun n28 =>
u0.bind fun a29 =>
(st1 (World.drew (World.drew w6)) (Addr.add a29 1) (.int .i64 (IntKind.i64.wrap ((IntKind.i64.wrap (n28 + s5.2.2)) + 1)))).bind fun w30 =>
some (.ret, ((IntKind.u64.wrap (s5.2.1 + (IntKind.u64.wrap ((Int.tmod (IntKind.u64.wrap n23) 128) * 2 ^ (min (Int.toNat (IntKind.u64.wrap (IntKind.i64.wrap (7 * s5.2.2)))) 64))))), (IntKind.u64.wrap (s5.2.1 + (IntKind.u64.wrap ((Int.tmod (IntKind.u64.wrap n23) 128) * 2 ^ (min (Int.toNat (IntKind.u64.wrap (IntKind.i64.wrap (7 * s5.2.2)))) 64))))), s5.2.2), w30))
else
(some (.normal, (s5.1, (IntKind.u64.wrap (s5.2.1 + (IntKind.u64.wrap ((Int.tmod (IntKind.u64.wrap n23) 128) * 2 ^ (min (Int.toNat (IntKind.u64.wrap (IntKind.i64.wrap (7 * s5.2.2)))) 64))))), (IntKind.i64.wrap (s5.2.2 + 1))), (World.drew (World.drew w6)))))))
else
(if ((IntKind.u64.wrap (IntKind.i64.wrap (7 * s5.2.2))) : Int) < 0 then
(none)
else
(if (decide (((IntKind.u64.wrap n23) : Int) < 128)) = true then
(u0.bind fun a31 =>
(World.cell? (World.drew (World.drew w6)) (Addr.add a31 1)).bind fun v32 =>
(asI .i64 v32).bind fun n33 =>
u0.bind fun a34 =>
(st1 (World.drew (World.drew w6)) (Addr.add a34 1) (.int .i64 (IntKind.i64.wrap ((IntKind.i64.wrap (n33 + s5.2.2)) + 1)))).bind fun w35 =>
some (.ret, ((IntKind.u64.wrap (s5.2.1 + (IntKind.u64.wrap ((Int.tmod (IntKind.u64.wrap n23) 128) * 2 ^ (min (Int.toNat (IntKind.u64.wrap (IntKind.i64.wrap (7 * s5.2.2)))) 64))))), (IntKind.u64.wrap (s5.2.1 + (IntKind.u64.wrap ((Int.tmod (IntKind.u64.wrap n23) 128) * 2 ^ (min (Int.toNat (IntKind.u64.wrap (IntKind.i64.wrap (7 * s5.2.2)))) 64))))), s5.2.2), w35))
else
(some (.normal, (s5.1, (IntKind.u64.wrap (s5.2.1 + (IntKind.u64.wrap ((Int.tmod (IntKind.u64.wrap n23) 128) * 2 ^ (min (Int.toNat (IntKind.u64.wrap (IntKind.i64.wrap (7 * s5.2.2)))) 64))))), (IntKind.i64.wrap (s5.2.2 + 1))), (World.drew (World.drew w6))))))))
else
(if (decide ((s5.2.2 : Int) > 0)) = true then
(if (((IntKind.u64.wrap n23) : Int) == 0) = true then
((callF Try.prog 69 #[.pointer u0, .int .i64 7] (World.drew (World.drew w6))).bind fun r36 =>
(asTup 0 r36.1).bind fun _ =>
some (.ret, (0, s5.2.1, s5.2.2), r36.2))
else
(if ((IntKind.u64.wrap (IntKind.i64.wrap (7 * s5.2.2))) : Int) < 0 then
(none)
else
(if (decide (((IntKind.u64.wrap n23) : Int) < 128)) = true then
(u0.bind fun a37 =>
(World.cell? (World.drew (World.drew w6)) (Addr.add a37 1)).bind fun v38 =>
(asI .i64 v38).bind fun n39 =>
u0.bind fun a40 =>
(st1 (World.drew (World.drew w6)) (Addr.add a40 1) (.int .i64 (IntKind.i64.wrap ((IntKind.i64.wrap (n39 + s5.2.2)) + 1)))).bind fun w41 =>
some (.ret, ((IntKind.u64.wrap (s5.2.1 + (IntKind.u64.wrap ((Int.tmod (IntKind.u64.wrap n23) 128) * 2 ^ (min (Int.toNat (IntKind.u64.wrap (IntKind.i64.wrap (7 * s5.2.2)))) 64))))), (IntKind.u64.wrap (s5.2.1 + (IntKind.u64.wrap ((Int.tmod (IntKind.u64.wrap n23) 128) * 2 ^ (min (Int.toNat (IntKind.u64.wrap (IntKind.i64.wrap (7 * s5.2.2)))) 64))))), s5.2.2), w41))
else
(some (.normal, (s5.1, (IntKind.u64.wrap (s5.2.1 + (IntKind.u64.wrap ((Int.tmod (IntKind.u64.wrap n23) 128) * 2 ^ (min (Int.toNat (IntKind.u64.wrap (IntKind.i64.wrap (7 * s5.2.2)))) 64))))), (IntKind.i64.wrap (s5.2.2 + 1))), (World.drew (World.drew w6)))))))
else
(if ((IntKind.u64.wrap (IntKind.i64.wrap (7 * s5.2.2))) : Int) < 0 then
(none)
else
(if (decide (((IntKind.u64.wrap n23) : Int) < 128)) = true then
(u0.bind fun a42 =>
(World.cell? (World.drew (World.drew w6)) (Addr.add a42 1)).bind fun v43 =>
(asI .i64 v43).bind fun n44 =>
u0.bind fun a45 =>
(st1 (World.drew (World.drew w6)) (Addr.add a45 1) (.int .i64 (IntKind.i64.wrap ((IntKind.i64.wrap (n44 + s5.2.2)) + 1)))).bind fun w46 =>
some (.ret, ((IntKind.u64.wrap (s5.2.1 + (IntKind.u64.wrap ((Int.tmod (IntKind.u64.wrap n23) 128) * 2 ^ (min (Int.toNat (IntKind.u64.wrap (IntKind.i64.wrap (7 * s5.2.2)))) 64))))), (IntKind.u64.wrap (s5.2.1 + (IntKind.u64.wrap ((Int.tmod (IntKind.u64.wrap n23) 128) * 2 ^ (min (Int.toNat (IntKind.u64.wrap (IntKind.i64.wrap (7 * s5.2.2)))) 64))))), s5.2.2), w46))
else
(some (.normal, (s5.1, (IntKind.u64.wrap (s5.2.1 + (IntKind.u64.wrap ((Int.tmod (IntKind.u64.wrap n23) 128) * 2 ^ (min (Int.toNat (IntKind.u64.wrap (IntKind.i64.wrap (7 * s5.2.2)))) 64))))), (IntKind.i64.wrap (s5.2.2 + 1))), (World.drew (World.drew w6)))))))))
else
(some ((.exit 0), (s5.1, s5.2.1, s5.2.2), w6))

noncomputable def g46_K47  : Exit → Env → World → Option (Value × World) :=
  retK Try.prog Try.f46.results.toList

noncomputable def g46_K48  : Exit → Env → World → Option (Value × World) :=
  seqK (ev Try.prog 81 46 g46_ann (cAt [1, 1, 1, 1] (bodyOf Try.f46)) [1, 1, 1, 1] g46_K47) g46_K47

noncomputable def g46_K49  : Exit → Env → World → Option (Value × World) :=
  blkK 0 g46_K48

/-- the loop, from a state on -/
noncomputable def g46_l4 (u0 : Option Addr) (s : Int × Int × Int) (w : World) : Option (Value × World) :=
  loopM Try.prog 81 46 g46_ann (cAt [1, 1, 1, 0, 1, 0, 0] (bodyOf Try.f46)) [0, 1, 0, 1, 1, 1] g46_K49 ((g46_l4_cs u0) ++ sputs [(2, .i .u64), (3, .i .u64), (4, .i .i64)] s) w

/-- behind the loop, left by x0 -/
noncomputable def g46_l4_x0 (u0 : Option Addr) (t50 : Int × Int × Int) (w51 : World) : Option (Value × World) :=
(callF Try.prog 69 #[.pointer u0, .int .i64 7] w51).bind fun r52 =>
(asTup 0 r52.1).bind fun _ =>
some (.int .u64 0, r52.2)

/-- behind the loop, left by ret -/
noncomputable def g46_l4_ret  (t53 : Int × Int × Int) (w54 : World) : Option (Value × World) :=
some (.int .u64 t53.1, w54)

noncomputable def g46 (u0 : Option Addr) (w0 : World) : Option (Value × World) :=
u0.bind fun a1 =>
(World.cell? w0 (Addr.add a1 2)).bind fun v2 =>
(asI .i64 v2).bind fun n3 =>
if ((n3 : Int) != 0) = true then
(some (.int .u64 0, w0))
else
(g46_l4 u0 (0, 0, 0) w0)

theorem g46_eq (u0 : Option Addr) (w0 : World) : evFn Try.prog 46 g46_ann #[.pointer u0] w0 = g46 u0 w0 := by kernel_rfl

theorem g46_call {u0 : Option Addr} {w0 : World} {r : Value × World} (h : g46 u0 w0 = some r) : callF Try.prog 46 #[.pointer u0] w0 = some r :=
  callF_of_evFn (ann := g46_ann) Try.call46 (by kernel_rfl) ((g46_eq u0 w0).trans h)

theorem g46_l4_x0_of {u0 : Option Addr} {s t : Int × Int × Int} {w w' : World} (h : loopS (g46_l4_b u0) s w = some (.exit 0, t, w')) : g46_l4 u0 s w = g46_l4_x0 u0 t w' := by
  have h1 : g46_l4 u0 s w = loopM Try.prog 81 46 g46_ann (cAt [1, 1, 1, 0, 1, 0, 0] (bodyOf Try.f46)) [0, 1, 0, 1, 1, 1] g46_K49 ((g46_l4_cs u0) ++ sputs [(2, .i .u64), (3, .i .u64), (4, .i .i64)] s) w := by kernel_rfl
  have h2 : loopM Try.prog 81 46 g46_ann (cAt [1, 1, 1, 0, 1, 0, 0] (bodyOf Try.f46)) [0, 1, 0, 1, 1, 1] g46_K49 ((g46_l4_cs u0) ++ sputs [(2, .i .u64), (3, .i .u64), (4, .i .i64)] s) w = g46_K49 (.exit 0) (puts 81 ((g46_l4_cs u0) ++ sputs [(2, .i .u64), (3, .i .u64), (4, .i .i64)] t)) w' :=
    loop_rule (P := Try.prog) (N := 81) (f := 46) (ann := g46_ann) (body := (cAt [1, 1, 1, 0, 1, 0, 0] (bodyOf Try.f46))) (pt := [0, 1, 0, 1, 1, 1]) (K := g46_K49) (g46_l4_cs u0) [(2, .i .u64), (3, .i .u64), (4, .i .i64)] (b := g46_l4_b u0) (fun s w => by kernel_rfl) (by kernel_rfl) (by kernel_rfl) (by kernel_rfl) h
  have h3 : g46_K49 (.exit 0) (puts 81 ((g46_l4_cs u0) ++ sputs [(2, .i .u64), (3, .i .u64), (4, .i .i64)] t)) w' = g46_l4_x0 u0 t w' := by kernel_rfl
  exact h1.trans (h2.trans h3)

theorem g46_l4_ret_of {u0 : Option Addr} {s t : Int × Int × Int} {w w' : World} (h : loopS (g46_l4_b u0) s w = some (.ret, t, w')) : g46_l4 u0 s w = g46_l4_ret t w' := by
  have h1 : g46_l4 u0 s w = loopM Try.prog 81 46 g46_ann (cAt [1, 1, 1, 0, 1, 0, 0] (bodyOf Try.f46)) [0, 1, 0, 1, 1, 1] g46_K49 ((g46_l4_cs u0) ++ sputs [(2, .i .u64), (3, .i .u64), (4, .i .i64)] s) w := by kernel_rfl
  have h2 : loopM Try.prog 81 46 g46_ann (cAt [1, 1, 1, 0, 1, 0, 0] (bodyOf Try.f46)) [0, 1, 0, 1, 1, 1] g46_K49 ((g46_l4_cs u0) ++ sputs [(2, .i .u64), (3, .i .u64), (4, .i .i64)] s) w = g46_K49 (.ret) (puts 81 ((g46_l4_cs u0) ++ sputs [(2, .i .u64), (3, .i .u64), (4, .i .i64)] t)) w' :=
    loop_rule (P := Try.prog) (N := 81) (f := 46) (ann := g46_ann) (body := (cAt [1, 1, 1, 0, 1, 0, 0] (bodyOf Try.f46))) (pt := [0, 1, 0, 1, 1, 1]) (K := g46_K49) (g46_l4_cs u0) [(2, .i .u64), (3, .i .u64), (4, .i .i64)] (b := g46_l4_b u0) (fun s w => by kernel_rfl) (by kernel_rfl) (by kernel_rfl) (by kernel_rfl) h
  have h3 : g46_K49 (.ret) (puts 81 ((g46_l4_cs u0) ++ sputs [(2, .i .u64), (3, .i .u64), (4, .i .i64)] t)) w' = g46_l4_ret t w' := by kernel_rfl
  exact h1.trans (h2.trans h3)

/-! 47: (*penstock/penstockref03.Reader).Ints (r: *penstockref03.Reader) -/
def g47_ann : List (List Nat × List Nat) := [([0, 1, 0, 1, 1, 1, 1, 1], [0, 3, 4, 5])]

def g47_l12_cs (u0 : Option Addr) (n2 : Int) : List (Nat × Value) := ([(0, .pointer u0), (3, .int .u64 n2)] : List (Nat × Value))

/-- the round of a loop ((*penstock/penstockref03.Reader).Ints) -/
noncomputable def g47_l12_b (n2 : Int) (u0 : Option Addr) (s13 : (Option Addr × Nat × Nat) × Int) (w14 : World) : Option (Exit × ((Option Addr × Nat × Nat) × Int) × World) :=
if (decide ((s13.2 : Int) < (IntKind.i64.wrap n2))) = true then
(u0.bind fun a15 =>
(World.cell? w14 (Addr.add a15 2)).bind fun v16 =>
(asI .i64 v16).bind fun n17 =>
if ((n17 : Int) == 0) = true then
((callF Try.prog 45 #[.pointer u0] w14).bind fun r18 =>
(asI .i64 r18.1).bind fun n19 =>
(callB Try.prog .append #[28, 28] 28 #[false, false] #[.slice s13.1.1 s13.1.2.1 s13.1.2.2, .slice (some (⟨r18.2.heap.size, 0, none⟩)) 1 1] (World.alloc r18.2 (.cells #[.int .i64 n19] 3))).bind fun r20 =>
(asSl r20.1).bind fun q21 =>
some (.normal, ((q21.1, q21.2.1, q21.2.2), (IntKind.i64.wrap (s13.2 + 1))), r20.2))
else
(some ((.exit 0), ((s13.1.1, s13.1.2.1, s13.1.2.2), s13.2), w14)))
else
(some ((.exit 0), ((s13.1.1, s13.1.2.1, s13.1.2.2), s13.2), w14))

noncomputable def g47_K22  : Exit → Env → World → Option (Value × World) :=
  retK Try.prog Try.f47.results.toList

noncomputable def g47_K23  : Exit → Env → World → Option (Value × World) :=
  seqK (ev Try.prog 48 47 g47_ann (cAt [1, 1, 1, 1, 1, 1] (bodyOf Try.f47)) [1, 1, 1, 1, 1, 1] g47_K22) g47_K22

noncomputable def g47_K24  : Exit → Env → World → Option (Value × World) :=
  blkK 0 g47_K23

/-- the loop, from a state on -/
noncomputable def g47_l12 (u0 : Option Addr) (n2 : Int) (s : (Option Addr × Nat × Nat) × Int) (w : World) : Option (Value × World) :=
  loopM Try.prog 48 47 g47_ann (cAt [1, 1, 1, 1, 1, 0, 1, 0, 0] (bodyOf Try.f47)) [0, 1, 0, 1, 1, 1, 1, 1] g47_K24 ((g47_l12_cs u0 n2) ++ sputs [(4, .sl), (5, .i .i64)] s) w

/-- behind the loop, left by x0 -/
noncomputable def g47_l12_x0 (u0 : Option Addr) (t25 : (Option Addr × Nat × Nat) × Int) (w26 : World) : Option (Value × World) :=
u0.bind fun a27 =>
(World.cell? w26 (Addr.add a27 2)).bind fun v28 =>
(asI .i64 v28).bind fun n29 =>
if ((n29 : Int) != 0) = true then
(some (.slice none 0 0, w26))
else
(some (.slice t25.1.1 t25.1.2.1 t25.1.2.2, w26))

noncomputable def g47_j3 (u0 : Option Addr) (n2 : Int) (w8 : World) : Option (Value × World) :=
u0.bind fun a9 =>
(World.cell? w8 (Addr.add a9 2)).bind fun v10 =>
(asI .i64 v10).bind fun n11 =>
if ((n11 : Int) != 0) = true then
(some (.slice none 0 0, w8))
else
(g47_l12 u0 n2 ((none, 0, 0), 0) w8)

noncomputable def g47 (u0 : Option Addr) (w0 : World) : Option (Value × World) :=
(callF Try.prog 46 #[.pointer u0] w0).bind fun r1 =>
(asI .u64 r1.1).bind fun n2 =>
u0.bind fun a4 =>
(World.cell? r1.2 (Addr.add a4 2)).bind fun v5 =>
(asI .i64 v5).bind fun n6 =>
if ((n6 : Int) == 0) = true then
(if (decide ((n2 : Int) > 4096)) = true then
((callF Try.prog 69 #[.pointer u0, .int .i64 2] r1.2).bind fun r7 =>
(asTup 0 r7.1).bind fun _ =>
g47_j3 u0 n2 r7.2)
else
(g47_j3 u0 n2 r1.2))
else
(g47_j3 u0 n2 r1.2)

theorem g47_eq (u0 : Option Addr) (w0 : World) : evFn Try.prog 47 g47_ann #[.pointer u0] w0 = g47 u0 w0 := by kernel_rfl

theorem g47_call {u0 : Option Addr} {w0 : World} {r : Value × World} (h : g47 u0 w0 = some r) : callF Try.prog 47 #[.pointer u0] w0 = some r :=
  callF_of_evFn (ann := g47_ann) Try.call47 (by kernel_rfl) ((g47_eq u0 w0).trans h)

theorem g47_l12_x0_of {u0 : Option Addr} {n2 : Int} {s t : (Option Addr × Nat × Nat) × Int} {w w' : World} (h : loopS (g47_l12_b n2 u0) s w = some (.exit 0, t, w')) : g47_l12 u0 n2 s w = g47_l12_x0 u0 t w' := by
  have h1 : g47_l12 u0 n2 s w = loopM Try.prog 48 47 g47_ann (cAt [1, 1, 1, 1, 1, 0, 1, 0, 0] (bodyOf Try.f47)) [0, 1, 0, 1, 1, 1, 1, 1] g47_K24 ((g47_l12_cs u0 n2) ++ sputs [(4, .sl), (5, .i .i64)] s) w := by kernel_rfl
  have h2 : loopM Try.prog 48 47 g47_ann (cAt [1, 1, 1, 1, 1, 0, 1, 0, 0] (bodyOf Try.f47)) [0, 1, 0, 1, 1, 1, 1, 1] g47_K24 ((g47_l12_cs u0 n2) ++ sputs [(4, .sl), (5, .i .i64)] s) w = g47_K24 (.exit 0) (puts 48 ((g47_l12_cs u0 n2) ++ sputs [(4, .sl), (5, .i .i64)] t)) w' :=
    loop_rule (P := Try.prog) (N := 48) (f := 47) (ann := g47_ann) (body := (cAt [1, 1, 1, 1, 1, 0, 1, 0, 0] (bodyOf Try.f47))) (pt := [0, 1, 0, 1, 1, 1, 1, 1]) (K := g47_K24) (g47_l12_cs u0 n2) [(4, .sl), (5, .i .i64)] (b := g47_l12_b n2 u0) (fun s w => by kernel_rfl) (by kernel_rfl) (by kernel_rfl) (by kernel_rfl) h
  have h3 : g47_K24 (.exit 0) (puts 48 ((g47_l12_cs u0 n2) ++ sputs [(4, .sl), (5, .i .i64)] t)) w' = g47_l12_x0 u0 t w' := by kernel_rfl
  exact h1.trans (h2.trans h3)

/-! 48: (*penstock/penstockref03.Reader).Flag (r: *penstockref03.Reader) -/
def g48_ann : List (List Nat × List Nat) := []

noncomputable def g48 (u0 : Option Addr) (w0 : World) : Option (Value × World) :=
(callF Try.prog 46 #[.pointer u0] w0).bind fun r1 =>
(asI .u64 r1.1).bind fun n2 =>
if (decide ((n2 : Int) > 1)) = true then
((callF Try.prog 69 #[.pointer u0, .int .i64 7] r1.2).bind fun r3 =>
(asTup 0 r3.1).bind fun _ =>
some (.bool false, r3.2))
else
(some (.bool ((n2 : Int) == 1), r1.2))

theorem g48_eq (u0 : Option Addr) (w0 : World) : evFn Try.prog 48 g48_ann #[.pointer u0] w0 = g48 u0 w0 := by kernel_rfl

theorem g48_call {u0 : Option Addr} {w0 : World} {r : Value × World} (h : g48 u0 w0 = some r) : callF Try.prog 48 #[.pointer u0] w0 = some r :=
  callF_of_evFn (ann := g48_ann) Try.call48 (by kernel_rfl) ((g48_eq u0 w0).trans h)

/-! 49: (*penstock/penstockref03.Reader).End (r: *penstockref03.Reader) -/
def g49_ann : List (List Nat × List Nat) := []

noncomputable def g49 (u0 : Option Addr) (w0 : World) : Option (Value × World) :=
u0.bind fun a1 =>
(World.cell? (World.drew w0) (Addr.add a1 2)).bind fun v2 =>
(asI .i64 v2).bind fun n3 =>
if ((n3 : Int) == 0) = true then
(u0.bind fun a4 =>
(World.cell? (World.drew w0) (Addr.add a4 1)).bind fun v5 =>
(asI .i64 v5).bind fun n6 =>
u0.bind fun a7 =>
(World.cell? (World.drew w0) a7).bind fun v8 =>
(asSl v8).bind fun q9 =>
if (decide ((n6 : Int) < (q9.2.1 : Int))) = true then
(some (.int .i64 6, (World.drew w0)))
else
(u0.bind fun a11 =>
(World.cell? (World.drew w0) (Addr.add a11 2)).bind fun v12 =>
(asI .i64 v12).bind fun n13 =>
some (.int .i64 n13, (World.drew w0))))
else
(u0.bind fun a14 =>
(World.cell? (World.drew w0) (Addr.add a14 2)).bind fun v15 =>
(asI .i64 v15).bind fun n16 =>
some (.int .i64 n16, (World.drew w0)))

theorem g49_eq (u0 : Option Addr) (w0 : World) : evFn Try.prog 49 g49_ann #[.pointer u0] w0 = g49 u0 w0 := by kernel_rfl

theorem g49_call {u0 : Option Addr} {w0 : World} {r : Value × World} (h : g49 u0 w0 = some r) : callF Try.prog 49 #[.pointer u0] w0 = some r :=
  callF_of_evFn (ann := g49_ann) Try.call49 (by kernel_rfl) ((g49_eq u0 w0).trans h)

/-! 50: penstock/codec.NewWriter () -/
def g50_ann : List (List Nat × List Nat) := []

noncomputable def g50  (w0 : World) : Option (Value × World) :=
some (.pointer (some (⟨w0.heap.size, 0, none⟩)), (World.alloc w0 (.cells #[.slice none 0 0, .int .i64 0] 110)))

theorem g50_eq  (w0 : World) : evFn Try.prog 50 g50_ann #[] w0 = g50 w0 := by kernel_rfl

theorem g50_call  {w0 : World} {r : Value × World} (h : g50 w0 = some r) : callF Try.prog 50 #[] w0 = some r :=
  callF_of_evFn (ann := g50_ann) Try.call50 (by kernel_rfl) ((g50_eq  w0).trans h)

/-! 51: (*penstock/codec.Writer).Int (w: *codec.Writer, n: int) -/
def g51_ann : List (List Nat × List Nat) := []

noncomputable def g51 (u0 : Option Addr) (u1 : Int) (w0 : World) : Option (Value × World) :=
(callF Try.prog 52 #[.pointer u0, .int .u64 (IntKind.u64.wrap ((BitVec.ofInt 64 (IntKind.u64.wrap ((IntKind.u64.wrap u1) * 2 ^ (min (Int.toNat 1) 64))) ^^^ BitVec.ofInt 64 (IntKind.u64.wrap (Int.fdiv u1 (2 ^ (min (Int.toNat 63) 64))))).toNat : Nat))] w0).bind fun r1 =>
(asTup 0 r1.1).bind fun _ =>
some (.tuple #[], r1.2)

theorem g51_eq (u0 : Option Addr) (u1 : Int) (w0 : World) : evFn Try.prog 51 g51_ann #[.pointer u0, .int .i64 u1] w0 = g51 u0 u1 w0 := by kernel_rfl

theorem g51_call {u0 : Option Addr} {u1 : Int} {w0 : World} {r : Value × World} (h : g51 u0 u1 w0 = some r) : callF Try.prog 51 #[.pointer u0, .int .i64 u1] w0 = some r :=
  callF_of_evFn (ann := g51_ann) Try.call51 (by kernel_rfl) ((g51_eq u0 u1 w0).trans h)

/-! 52: (*penstock/codec.Writer).Uint (w: *codec.Writer, n: uint64) -/
def g52_ann : List (List Nat × List Nat) := [([0, 0, 1], [0, 1])]

def g52_l1_cs (u0 : Option Addr) : List (Nat × Value) := ([(0, .pointer u0)] : List (Nat × Value))

/-- the round of a loop ((*penstock/codec.Writer).Uint) -/
noncomputable def g52_l1_b (u0 : Option Addr) (s2 : Int) (w3 : World) : Option (Exit × (Int) × World) :=
if (decide ((s2 : Int) > 127)) = true then
(u0.bind fun a4 =>
(World.cell? w3 a4).bind fun v5 =>
(asSl v5).bind fun q6 =>
(callB Try.prog .append #[58, 58] 58 #[false, false] #[.slice q6.1 q6.2.1 q6.2.2, .slice (some (⟨w3.heap.size, 0, none⟩)) 1 1] (World.alloc w3 (.cells #[.int .u8 (IntKind.u8.wrap ((BitVec.ofInt 8 (IntKind.u8.wrap s2) ||| BitVec.ofInt 8 128).toNat : Nat))] 5))).bind fun r7 =>
(asSl r7.1).bind fun q8 =>
u0.bind fun a9 =>
(st1 r7.2 a9 (.slice q8.1 q8.2.1 q8.2.2)).bind fun w10 =>
some (.normal, (Int.fdiv s2 (2 ^ (min (Int.toNat 7) 64))), w10))
else
(some ((.exit 0), s2, w3))

noncomputable def g52_K11  : Exit → Env → World → Option (Value × World) :=
  retK Try.prog Try.f52.results.toList

noncomputable def g52_K12  : Exit → Env → World → Option (Value × World) :=
  seqK (ev Try.prog 33 52 g52_ann (cAt [1, 1] (bodyOf Try.f52)) [1, 1] g52_K11) g52_K11

noncomputable def g52_K13  : Exit → Env → World → Option (Value × World) :=
  blkK 0 g52_K12

/-- the loop, from a state on -/
noncomputable def g52_l1 (u0 : Option Addr) (s : Int) (w : World) : Option (Value × World) :=
  loopM Try.prog 33 52 g52_ann (cAt [1, 0, 0, 0] (bodyOf Try.f52)) [0, 0, 1] g52_K13 ((g52_l1_cs u0) ++ sputs [(1, .i .u64)] s) w

/-- behind the loop, left by x0 -/
noncomputable def g52_l1_x0 (u0 : Option Addr) (t14 : Int) (w15 : World) : Option (Value × World) :=
u0.bind fun a16 =>
(World.cell? w15 a16).bind fun v17 =>
(asSl v17).bind fun q18 =>
(callB Try.prog .append #[58, 58] 58 #[false, false] #[.slice q18.1 q18.2.1 q18.2.2, .slice (some (⟨w15.heap.size, 0, none⟩)) 1 1] (World.alloc w15 (.cells #[.int .u8 (IntKind.u8.wrap t14)] 5))).bind fun r19 =>
(asSl r19.1).bind fun q20 =>
u0.bind fun a21 =>
(st1 r19.2 a21 (.slice q20.1 q20.2.1 q20.2.2)).bind fun w22 =>
some (.tuple #[], w22)

noncomputable def g52 (u0 : Option Addr) (u1 : Int) (w0 : World) : Option (Value × World) :=
if (u0.isNone) = true then
(some (.tuple #[], w0))
else
(g52_l1 u0 u1 w0)

theorem g52_eq (u0 : Option Addr) (u1 : Int) (w0 : World) : evFn Try.prog 52 g52_ann #[.pointer u0, .int .u64 u1] w0 = g52 u0 u1 w0 := by kernel_rfl

theorem g52_call {u0 : Option Addr} {u1 : Int} {w0 : World} {r : Value × World} (h : g52 u0 u1 w0 = some r) : callF Try.prog 52 #[.pointer u0, .int .u64 u1] w0 = some r :=
  callF_of_evFn (ann := g52_ann) Try.call52 (by kernel_rfl) ((g52_eq u0 u1 w0).trans h)

theorem g52_l1_x0_of {u0 : Option Addr} {s t : Int} {w w' : World} (h : loopS (g52_l1_b u0) s w = some (.exit 0, t, w')) : g52_l1 u0 s w = g52_l1_x0 u0 t w' := by
  have h1 : g52_l1 u0 s w = loopM Try.prog 33 52 g52_ann (cAt [1, 0, 0, 0] (bodyOf Try.f52)) [0, 0, 1] g52_K13 ((g52_l1_cs u0) ++ sputs [(1, .i .u64)] s) w := by kernel_rfl
  have h2 : loopM Try.prog 33 52 g52_ann (cAt [1, 0, 0, 0] (bodyOf Try.f52)) [0, 0, 1] g52_K13 ((g52_l1_cs u0) ++ sputs [(1, .i .u64)] s) w = g52_K13 (.exit 0) (puts 33 ((g52_l1_cs u0) ++ sputs [(1, .i .u64)] t)) w' :=
    loop_rule (P := Try.prog) (N := 33) (f := 52) (ann := g52_ann) (body := (cAt [1, 0, 0, 0] (bodyOf Try.f52))) (pt := [0, 0, 1]) (K := g52_K13) (g52_l1_cs u0) [(1, .i .u64)] (b := g52_l1_b u0) (fun s w => by kernel_rfl) (by kernel_rfl) (by kernel_rfl) (by kernel_rfl) h
  have h3 : g52_K13 (.exit 0) (puts 33 ((g52_l1_cs u0) ++ sputs [(1, .i .u64)] t)) w' = g52_l1_x0 u0 t w' := by kernel_rfl
  exact h1.trans (h2.trans h3)

/-! 53: (*penstock/codec.Writer).Ints (w: *codec.Writer, l: []int) -/
def g53_ann : List (List Nat × List Nat) := [([0, 1, 1], [0, 11, 12, 13])]

def g53_l4_cs (u0 : Option Addr) (u1 : Option Addr × Nat × Nat) : List (Nat × Value) := ([(0, .pointer u0), (11, .slice u1.1 u1.2.1 u1.2.2), (12, .int .i64 (u1.2.1 : Int))] : List (Nat × Value))

/-- the round of a loop ((*penstock/codec.Writer).Ints) -/
noncomputable def g53_l4_b (u1 : Option Addr × Nat × Nat) (u0 : Option Addr) (s5 : Int) (w6 : World) : Option (Exit × (Int) × World) :=
if (decide ((s5 : Int) < (u1.2.1 : Int))) = true then
((idxA u1.1 u1.2.1 1 s5).bind fun a7 =>
(World.cell? w6 a7).bind fun v8 =>
(asI .i64 v8).bind fun n9 =>
(callF Try.prog 51 #[.pointer u0, .int .i64 n9] w6).bind fun r10 =>
(asTup 0 r10.1).bind fun _ =>
some (.normal, (IntKind.i64.wrap (s5 + 1)), r10.2))
else
(some ((.exit 0), s5, w6))

noncomputable def g53_K11  : Exit → Env → World → Option (Value × World) :=
  retK Try.prog Try.f53.results.toList

noncomputable def g53_K12  : Exit → Env → World → Option (Value × World) :=
  blkK 0 g53_K11

/-- the loop, from a state on -/
noncomputable def g53_l4 (u0 : Option Addr) (u1 : Option Addr × Nat × Nat) (s : Int) (w : World) : Option (Value × World) :=
  loopM Try.prog 21 53 g53_ann (cAt [1, 1, 0, 0] (bodyOf Try.f53)) [0, 1, 1] g53_K12 ((g53_l4_cs u0 u1) ++ sputs [(13, .i .i64)] s) w

/-- behind the loop, left by x0 -/
noncomputable def g53_l4_x0  (t13 : Int) (w14 : World) : Option (Value × World) :=
some (.tuple #[], w14)

noncomputable def g53 (u0 : Option Addr) (u1 : Option Addr × Nat × Nat) (w0 : World) : Option (Value × World) :=
(callF Try.prog 52 #[.pointer u0, .int .u64 (IntKind.u64.wrap (u1.2.1 : Int))] w0).bind fun r2 =>
(asTup 0 r2.1).bind fun _ =>
g53_l4 u0 u1 0 r2.2

theorem g53_eq (u0 : Option Addr) (u1 : Option Addr × Nat × Nat) (w0 : World) : evFn Try.prog 53 g53_ann #[.pointer u0, .slice u1.1 u1.2.1 u1.2.2] w0 = g53 u0 u1 w0 := by kernel_rfl

theorem g53_call {u0 : Option Addr} {u1 : Option Addr × Nat × Nat} {w0 : World} {r : Value × World} (h : g53 u0 u1 w0 = some r) : callF Try.prog 53 #[.pointer u0, .slice u1.1 u1.2.1 u1.2.2] w0 = some r :=
  callF_of_evFn (ann := g53_ann) Try.call53 (by kernel_rfl) ((g53_eq u0 u1 w0).trans h)

theorem g53_l4_x0_of {u0 : Option Addr} {u1 : Option Addr × Nat × Nat} {s t : Int} {w w' : World} (h : loopS (g53_l4_b u1 u0) s w = some (.exit 0, t, w')) : g53_l4 u0 u1 s w = g53_l4_x0 t w' := by
  have h1 : g53_l4 u0 u1 s w = loopM Try.prog 21 53 g53_ann (cAt [1, 1, 0, 0] (bodyOf Try.f53)) [0, 1, 1] g53_K12 ((g53_l4_cs u0 u1) ++ sputs [(13, .i .i64)] s) w := by kernel_rfl
  have h2 : loopM Try.prog 21 53 g53_ann (cAt [1, 1, 0, 0] (bodyOf Try.f53)) [0, 1, 1] g53_K12 ((g53_l4_cs u0 u1) ++ sputs [(13, .i .i64)] s) w = g53_K12 (.exit 0) (puts 21 ((g53_l4_cs u0 u1) ++ sputs [(13, .i .i64)] t)) w' :=
    loop_rule (P := Try.prog) (N := 21) (f := 53) (ann := g53_ann) (body := (cAt [1, 1, 0, 0] (bodyOf Try.f53))) (pt := [0, 1, 1]) (K := g53_K12) (g53_l4_cs u0 u1) [(13, .i .i64)] (b := g53_l4_b u1 u0) (fun s w => by kernel_rfl) (by kernel_rfl) (by kernel_rfl) (by kernel_rfl) h
  have h3 : g53_K12 (.exit 0) (puts 21 ((g53_l4_cs u0 u1) ++ sputs [(13, .i .i64)] t)) w' = g53_l4_x0 t w' := by kernel_rfl
  exact h1.trans (h2.trans h3)

/-! 54: (*penstock/codec.Writer).Flag (w: *codec.Writer, b: bool) -/
def g54_ann : List (List Nat × List Nat) := []

noncomputable def g54 (u0 : Option Addr) (u1 : Bool) (w0 : World) : Option (Value × World) :=
if u1 = true then
((callF Try.prog 52 #[.pointer u0, .int .u64 1] w0).bind fun r1 =>
(asTup 0 r1.1).bind fun _ =>
some (.tuple #[], r1.2))
else
((callF Try.prog 52 #[.pointer u0, .int .u64 0] w0).bind fun r2 =>
(asTup 0 r2.1).bind fun _ =>
some (.tuple #[], r2.2))

theorem g54_eq (u0 : Option Addr) (u1 : Bool) (w0 : World) : evFn Try.prog 54 g54_ann #[.pointer u0, .bool u1] w0 = g54 u0 u1 w0 := by kernel_rfl

theorem g54_call {u0 : Option Addr} {u1 : Bool} {w0 : World} {r : Value × World} (h : g54 u0 u1 w0 = some r) : callF Try.prog 54 #[.pointer u0, .bool u1] w0 = some r :=
  callF_of_evFn (ann := g54_ann) Try.call54 (by kernel_rfl) ((g54_eq u0 u1 w0).trans h)

/-! 55: (*penstock/codec.Writer).Out (w: *codec.Writer) -/
def g55_ann : List (List Nat × List Nat) := []

noncomputable def g55 (u0 : Option Addr) (w0 : World) : Option (Value × World) :=
if (u0.isNone) = true then
(some (.tuple #[.slice none 0 0, .int .i64 5], w0))
else
(u0.bind fun a1 =>
(World.cell? w0 (Addr.add a1 1)).bind fun v2 =>
(asI .i64 v2).bind fun n3 =>
if ((n3 : Int) != 0) = true then
(u0.bind fun a4 =>
(World.cell? (World.drew w0) (Addr.add a4 1)).bind fun v5 =>
(asI .i64 v5).bind fun n6 =>
some (.tuple #[.slice none 0 0, .int .i64 n6], (World.drew w0)))
else
(u0.bind fun a7 =>
(World.cell? w0 a7).bind fun v8 =>
(asSl v8).bind fun q9 =>
(callB Try.prog .append #[58, 58] 58 #[true, false] #[.slice none 0 0, .slice q9.1 q9.2.1 q9.2.2] w0).bind fun r10 =>
(asSl r10.1).bind fun q11 =>
some (.tuple #[.slice q11.1 q11.2.1 q11.2.2, .int .i64 0], r10.2)))

theorem g55_eq (u0 : Option Addr) (w0 : World) : evFn Try.prog 55 g55_ann #[.pointer u0] w0 = g55 u0 w0 := by kernel_rfl

theorem g55_call {u0 : Option Addr} {w0 : World} {r : Value × World} (h : g55 u0 w0 = some r) : callF Try.prog 55 #[.pointer u0] w0 = some r :=
  callF_of_evFn (ann := g55_ann) Try.call55 (by kernel_rfl) ((g55_eq u0 w0).trans h)

/-! 56: penstock/codec.NewReader (b: []uint8) -/
def g56_ann : List (List Nat × List Nat) := []

noncomputable def g56 (u0 : Option Addr × Nat × Nat) (w0 : World) : Option (Value × World) :=
(callB Try.prog .append #[58, 58] 58 #[true, false] #[.slice none 0 0, .slice u0.1 u0.2.1 u0.2.2] w0).bind fun r1 =>
(asSl r1.1).bind fun q2 =>
some (.pointer (some (⟨r1.2.heap.size, 0, none⟩)), (World.alloc r1.2 (.cells #[.slice q2.1 q2.2.1 q2.2.2, .int .i64 0, .int .i64 0] 112)))

theorem g56_eq (u0 : Option Addr × Nat × Nat) (w0 : World) : evFn Try.prog 56 g56_ann #[.slice u0.1 u0.2.1 u0.2.2] w0 = g56 u0 w0 := by kernel_rfl

theorem g56_call {u0 : Option Addr × Nat × Nat} {w0 : World} {r : Value × World} (h : g56 u0 w0 = some r) : callF Try.prog 56 #[.slice u0.1 u0.2.1 u0.2.2] w0 = some r :=
  callF_of_evFn (ann := g56_ann) Try.call56 (by kernel_rfl) ((g56_eq u0 w0).trans h)

/-! 57: (*penstock/codec.Reader).Int (r: *codec.Reader) -/
def g57_ann : List (List Nat × List Nat) := []

noncomputable def g57 (u0 : Option Addr) (w0 : World) : Option (Value × World) :=
(callF Try.prog 58 #[.pointer u0] w0).bind fun r1 =>
(asI .u64 r1.1).bind fun n2 =>
some (.int .i64 (IntKind.i64.wrap ((BitVec.ofInt 64 (IntKind.i64.wrap (Int.fdiv n2 (2 ^ (min (Int.toNat 1) 64)))) ^^^ BitVec.ofInt 64 (IntKind.i64.wrap (0 - (IntKind.i64.wrap (IntKind.u64.wrap ((BitVec.ofInt 64 n2 &&& BitVec.ofInt 64 1).toNat : Nat)))))).toNat : Nat)), r1.2)

theorem g57_eq (u0 : Option Addr) (w0 : World) : evFn Try.prog 57 g57_ann #[.pointer u0] w0 = g57 u0 w0 := by kernel_rfl

theorem g57_call {u0 : Option Addr} {w0 : World} {r : Value × World} (h : g57 u0 w0 = some r) : callF Try.prog 57 #[.pointer u0] w0 = some r :=
  callF_of_evFn (ann := g57_ann) Try.call57 (by kernel_rfl) ((g57_eq u0 w0).trans h)

/-! 58: (*penstock/codec.Reader).Uint (r: *codec.Reader) -/
def g58_ann : List (List Nat × List Nat) := [([0, 1, 1, 1, 1, 1], [0, 3, 2, 4, 5])]

def g58_l7_cs (u0 : Option Addr) (n6 : Int) : List (Nat × Value) := ([(0, .pointer u0), (3, .int .i64 n6)] : List (Nat × Value))

/-- the round of a loop ((*penstock/codec.Reader).Uint) -/
noncomputable def g58_l7_b (u0 : Option Addr) (n6 : Int) (s8 : Int × Int × Int) (w9 : World) : Option (Exit × (Int × Int × Int) × World) :=
u0.bind fun a10 =>
(World.cell? (World.drew w9) (Addr.add a10 1)).bind fun v11 =>
(asI .i64 v11).bind fun n12 =>
u0.bind fun a13 =>
(World.cell? (World.drew w9) a13).bind fun v14 =>
(asSl v14).bind fun q15 =>
if ((n12 : Int) == (q15.2.1 : Int)) = true then
(u0.bind fun a17 =>
(st1 (World.drew w9) (Addr.add a17 1) (.int .i64 n6)).bind fun w18 =>
(callF Try.prog 70 #[.pointer u0, .int .i64 6] w18).bind fun r19 =>
(asTup 0 r19.1).bind fun _ =>
some (.ret, (0, s8.2.1, s8.2.2), r19.2))
else
(u0.bind fun a20 =>
(World.cell? (World.drew (World.drew w9)) a20).bind fun v21 =>
(asSl v21).bind fun q22 =>
u0.bind fun a23 =>
(World.cell? (World.drew (World.drew w9)) (Addr.add a23 1)).bind fun v24 =>
(asI .i64 v24).bind fun n25 =>
(idxA q22.1 q22.2.1 1 n25).bind fun a26 =>
(World.cell? (World.drew (World.drew w9)) a26).bind fun v27 =>
(asI .u8 v27).bind fun n28 =>
u0.bind fun a29 =>
(World.cell? (World.drew (World.drew w9)) (Addr.add a29 1)).bind fun v30 =>
(asI .i64 v30).bind fun n31 =>
u0.bind fun a32 =>
(st1 (World.drew (World.drew w9)) (Addr.add a32 1) (.int .i64 (IntKind.i64.wrap (n31 + 1)))).bind fun w33 =>
if ((s8.2.2 : Int) == 63) = true then
(if (decide ((n28 : Int) > 1)) = true then
(u0.bind fun a34 =>
(st1 w33 (Addr.add a34 1) (.int .i64 n6)).bind fun w35 =>
(callF Try.prog 70 #[.pointer u0, .int .i64 7] w35).bind fun r36 =>
(asTup 0 r36.1).bind fun _ =>
some (.ret, (0, s8.2.1, s8.2.2), r36.2))
else
(if ((n28 : Int) == 0) = true then
(if (decide ((s8.2.2 : Int) > 0)) = true then
(u0.bind fun a37 =>
(st1 w33 (Addr.add a37 1) (.int .i64 n6)).bind fun w38 =>
(callF Try.prog 70 #[.pointer u0, .int .i64 7] w38).bind fun r39 =>
(asTup 0 r39.1).bind fun _ =>
some (.ret, (0, s8.2.1, s8.2.2), r39.2))
else
(if (s8.2.2 : Int) < 0 then
(none)
else
(if (decide ((n28 : Int) < 128)) = true then
(some (.ret, ((IntKind.u64.wrap ((BitVec.ofInt 64 s8.2.1 ||| BitVec.ofInt 64 (IntKind.u64.wrap ((IntKind.u64.wrap (IntKind.u8.wrap ((BitVec.ofInt 8 n28 &&& BitVec.ofInt 8 127).toNat : Nat))) * 2 ^ (min (Int.toNat s8.2.2) 64)))).toNat : Nat)), (IntKind.u64.wrap ((BitVec.ofInt 64 s8.2.1 ||| BitVec.ofInt 64 (IntKind.u64.wrap ((IntKind.u64.wrap (IntKind.u8.wrap ((BitVec.ofInt 8 n28 &&& BitVec.ofInt 8 127).toNat : Nat))) * 2 ^ (min (Int.toNat s8.2.2) 64)))).toNat : Nat)), s8.2.2), w33))
else
(some (.normal, (s8.1, (IntKind.u64.wrap ((BitVec.ofInt 64 s8.2.1 ||| BitVec.ofInt 64 (IntKind.u64.wrap ((IntKind.u64.wrap (IntKind.u8.wrap ((BitVec.ofInt 8 n28 &&& BitVec.ofInt 8 127).toNat : Nat))) * 2 ^ (min (Int.toNat s8.2.2) 64)))).toNat : Nat)), (IntKind.i64.wrap (s8.2.2 + 7))), w33)))))
else
(if (s8.2.2 : Int) < 0 then
(none)
else
(if (decide ((n28 : Int) < 128)) = true then
(some (.ret, ((IntKind.u64.wrap ((BitVec.ofInt 64 s8.2.1 ||| BitVec.ofInt 64 (IntKind.u64.wrap ((IntKind.u64.wrap (IntKind.u8.wrap ((BitVec.ofInt 8 n28 &&& BitVec.ofInt 8 127).toNat : Nat))) * 2 ^ (min (Int.toNat s8.2.2) 64)))).toNat : Nat)), (IntKind.u64.wrap ((BitVec.ofInt 64 s8.2.1 ||| BitVec.ofInt 64 (IntKind.u64.wrap ((IntKind.u64.wrap (IntKind.u8.wrap ((BitVec.ofInt 8 n28 &&& BitVec.ofInt 8 127).toNat : Nat))) * 2 ^ (min (Int.toNat s8.2.2) 64)))).toNat : Nat)), s8.2.2), w33))
else
(some (.normal, (s8.1, (IntKind.u64.wrap ((BitVec.ofInt 64 s8.2.1 ||| BitVec.ofInt 64 (IntKind.u64.wrap ((IntKind.u64.wrap (IntKind.u8.wrap ((BitVec.ofInt 8 n28 &&& BitVec.ofInt 8 127).toNat : Nat))) * 2 ^ (min (Int.toNat s8.2.2) 64)))).toNat : Nat)), (IntKind.i64.wrap (s8.2.2 + 7))), w33))))))
else
(if ((n28 : Int) == 0) = true then
(if (decide ((s8.2.2 : Int) > 0)) = true then
(u0.bind fun a40 =>
(st1 w33 (Addr.add a40 1) (.int .i64 n6)).bind fun w41 =>
(callF Try.prog 70 #[.pointer u0, .int .i64 7] w41).bind fun r42 =>
(asTup 0 r42.1).bind fun _ =>
some (.ret, (0, s8.2.1, s8.2.2), r42.2))
else
(if (s8.2.2 : Int) < 0 then
(none)
else
(if (decide ((n28 : Int) < 128)) = true then
(some (.ret, ((IntKind.u64.wrap ((BitVec.ofInt 64 s8.2.1 ||| BitVec.ofInt 64 (IntKind.u64.wrap ((IntKind.u64.wrap (IntKind.u8.wrap ((BitVec.ofInt 8 n28 &&& BitVec.ofInt 8 127).toNat : Nat))) * 2 ^ (min (Int.toNat s8.2.2) 64)))).toNat : Nat)), (IntKind.u64.wrap ((BitVec.ofInt 64 s8.2.1 ||| BitVec.ofInt 64 (IntKind.u64.wrap ((IntKind.u64.wrap (IntKind.u8.wrap ((BitVec.ofInt 8 n28 &&& BitVec.ofInt 8 127).toNat : Nat))) * 2 ^ (min (Int.toNat s8.2.2) 64)))).toNat : Nat)), s8.2.2), w33))
else
(some (.normal, (s8.1, (IntKind.u64.wrap ((BitVec.ofInt 64 s8.2.1 ||| BitVec.ofInt 64 (IntKind.u64.wrap ((IntKind.u64.wrap (IntKind.u8.wrap ((BitVec.ofInt 8 n28 &&& BitVec.ofInt 8 127).toNat : Nat))) * 2 ^ (min (Int.toNat s8.2.2) 64)))).toNat : Nat)), (IntKind.i64.wrap (s8.2.2 + 7))), w33)))))
else
(if (s8.2.2 : Int) < 0 then
(none)
else
(if (decide ((n28 : Int) < 128)) = true then
(some (.ret, ((IntKind.u64.wrap ((BitVec.ofInt 64 s8.2.1 ||| BitVec.ofInt 64 (IntKind.u64.wrap ((IntKind.u64.wrap (IntKind.u8.wrap ((BitVec.ofInt 8 n28 &&& BitVec.ofInt 8 127).toNat : Nat))) * 2 ^ (min (Int.toNat s8.2.2) 64)))).toNat : Nat)), (IntKind.u64.wrap ((BitVec.ofInt 64 s8.2.1 ||| BitVec.ofInt 64 (IntKind.u64.wrap ((IntKind.u64.wrap (IntKind.u8.wrap ((BitVec.ofInt 8 n28 &&& BitVec.ofInt 8 127).toNat : Nat))) * 2 ^ (min (Int.toNat s8.2.2) 64)))).toNat : Nat)), s8.2.2), w33))
else
(some (.normal, (s8.1, (IntKind.u64.wrap ((BitVec.ofInt 64 s8.2.1 ||| BitVec.ofInt 64 (IntKind.u64.wrap ((IntKind.u64.wrap (IntKind.u8.wrap ((BitVec.ofInt 8 n28 &&& BitVec.ofInt 8 127).toNat : Nat))) * 2 ^ (min (Int.toNat s8.2.2) 64)))).toNat : Nat)), (IntKind.i64.wrap (s8.2.2 + 7))), w33))))))

noncomputable def g58_K43  : Exit → Env → World → Option (Value × World) :=
  retK Try.prog Try.f58.results.toList

noncomputable def g58_K44  : Exit → Env → World → Option (Value × World) :=
  blkK 0 g58_K43

/-- the loop, from a state on -/
noncomputable def g58_l7 (u0 : Option Addr) (n6 : Int) (s : Int × Int × Int) (w : World) : Option (Value × World) :=
  loopM Try.prog 85 58 g58_ann (cAt [1, 1, 1, 1, 1, 0, 0] (bodyOf Try.f58)) [0, 1, 1, 1, 1, 1] g58_K44 ((g58_l7_cs u0 n6) ++ sputs [(2, .i .u64), (4, .i .u64), (5, .i .i64)] s) w

/-- behind the loop, left by ret -/
noncomputable def g58_l7_ret  (t45 : Int × Int × Int) (w46 : World) : Option (Value × World) :=
some (.int .u64 t45.1, w46)

noncomputable def g58 (u0 : Option Addr) (w0 : World) : Option (Value × World) :=
if (u0.isNone) = true then
(some (.int .u64 0, w0))
else
(u0.bind fun a1 =>
(World.cell? w0 (Addr.add a1 2)).bind fun v2 =>
(asI .i64 v2).bind fun n3 =>
if ((n3 : Int) != 0) = true then
(some (.int .u64 0, w0))
else
(u0.bind fun a4 =>
(World.cell? w0 (Addr.add a4 1)).bind fun v5 =>
(asI .i64 v5).bind fun n6 =>
g58_l7 u0 n6 (0, 0, 0) w0))

theorem g58_eq (u0 : Option Addr) (w0 : World) : evFn Try.prog 58 g58_ann #[.pointer u0] w0 = g58 u0 w0 := by kernel_rfl

theorem g58_call {u0 : Option Addr} {w0 : World} {r : Value × World} (h : g58 u0 w0 = some r) : callF Try.prog 58 #[.pointer u0] w0 = some r :=
  callF_of_evFn (ann := g58_ann) Try.call58 (by kernel_rfl) ((g58_eq u0 w0).trans h)

theorem g58_l7_ret_of {u0 : Option Addr} {n6 : Int} {s t : Int × Int × Int} {w w' : World} (h : loopS (g58_l7_b u0 n6) s w = some (.ret, t, w')) : g58_l7 u0 n6 s w = g58_l7_ret t w' := by
  have h1 : g58_l7 u0 n6 s w = loopM Try.prog 85 58 g58_ann (cAt [1, 1, 1, 1, 1, 0, 0] (bodyOf Try.f58)) [0, 1, 1, 1, 1, 1] g58_K44 ((g58_l7_cs u0 n6) ++ sputs [(2, .i .u64), (4, .i .u64), (5, .i .i64)] s) w := by kernel_rfl
  have h2 : loopM Try.prog 85 58 g58_ann (cAt [1, 1, 1, 1, 1, 0, 0] (bodyOf Try.f58)) [0, 1, 1, 1, 1, 1] g58_K44 ((g58_l7_cs u0 n6) ++ sputs [(2, .i .u64), (4, .i .u64), (5, .i .i64)] s) w = g58_K44 (.ret) (puts 85 ((g58_l7_cs u0 n6) ++ sputs [(2, .i .u64), (4, .i .u64), (5, .i .i64)] t)) w' :=
    loop_rule (P := Try.prog) (N := 85) (f := 58) (ann := g58_ann) (body := (cAt [1, 1, 1, 1, 1, 0, 0] (bodyOf Try.f58))) (pt := [0, 1, 1, 1, 1, 1]) (K := g58_K44) (g58_l7_cs u0 n6) [(2, .i .u64), (4, .i .u64), (5, .i .i64)] (b := g58_l7_b u0 n6) (fun s w => by kernel_rfl) (by kernel_rfl) (by kernel_rfl) (by kernel_rfl) h
  have h3 : g58_K44 (.ret) (puts 85 ((g58_l7_cs u0 n6) ++ sputs [(2, .i .u64), (4, .i .u64), (5, .i .i64)] t)) w' = g58_l7_ret t w' := by kernel_rfl
  exact h1.trans (h2.trans h3)

/-! 59: (*penstock/codec.Reader).Ints (r: *codec.Reader) -/
def g59_ann : List (List Nat × List Nat) := [([0, 1, 0, 1, 1, 1, 1], [0, 12, 2, 4, 13])]

def g59_l4_cs (u0 : Option Addr) (n2 : Int) : List (Nat × Value) := ([(0, .pointer u0), (12, .int .u64 n2)] : List (Nat × Value))

/-- the round of a loop ((*penstock/codec.Reader).Ints) -/
noncomputable def g59_l4_b (n2 : Int) (u0 : Option Addr) (s5 : (Option Addr × Nat × Nat) × (Option Addr × Nat × Nat) × Int) (w6 : World) : Option (Exit × ((Option Addr × Nat × Nat) × (Option Addr × Nat × Nat) × Int) × World) :=
if (decide ((s5.2.2 : Int) < n2)) = true then
((callF Try.prog 57 #[.pointer u0] w6).bind fun r7 =>
(asI .i64 r7.1).bind fun n8 =>
u0.bind fun a9 =>
(World.cell? r7.2 (Addr.add a9 2)).bind fun v10 =>
(asI .i64 v10).bind fun n11 =>
if ((n11 : Int) != 0) = true then
(some (.ret, ((none, 0, 0), (s5.2.1.1, s5.2.1.2.1, s5.2.1.2.2), s5.2.2), r7.2))
else
((callB Try.prog .append #[28, 28] 28 #[false, false] #[.slice s5.2.1.1 s5.2.1.2.1 s5.2.1.2.2, .slice (some (⟨r7.2.heap.size, 0, none⟩)) 1 1] (World.alloc r7.2 (.cells #[.int .i64 n8] 3))).bind fun r12 =>
(asSl r12.1).bind fun q13 =>
some (.normal, ((s5.1.1, s5.1.2.1, s5.1.2.2), (q13.1, q13.2.1, q13.2.2), (IntKind.u64.wrap (s5.2.2 + 1))), r12.2)))
else
(some ((.exit 0), ((s5.1.1, s5.1.2.1, s5.1.2.2), (s5.2.1.1, s5.2.1.2.1, s5.2.1.2.2), s5.2.2), w6))

noncomputable def g59_K14  : Exit → Env → World → Option (Value × World) :=
  retK Try.prog Try.f59.results.toList

noncomputable def g59_K15  : Exit → Env → World → Option (Value × World) :=
  seqK (ev Try.prog 28 59 g59_ann (cAt [1, 1, 1, 1, 1] (bodyOf Try.f59)) [1, 1, 1, 1, 1] g59_K14) g59_K14

noncomputable def g59_K16  : Exit → Env → World → Option (Value × World) :=
  blkK 0 g59_K15

/-- the loop, from a state on -/
noncomputable def g59_l4 (u0 : Option Addr) (n2 : Int) (s : (Option Addr × Nat × Nat) × (Option Addr × Nat × Nat) × Int) (w : World) : Option (Value × World) :=
  loopM Try.prog 28 59 g59_ann (cAt [1, 1, 1, 1, 0, 1, 0, 0] (bodyOf Try.f59)) [0, 1, 0, 1, 1, 1, 1] g59_K16 ((g59_l4_cs u0 n2) ++ sputs [(2, .sl), (4, .sl), (13, .i .u64)] s) w

/-- behind the loop, left by x0 -/
noncomputable def g59_l4_x0  (t17 : (Option Addr × Nat × Nat) × (Option Addr × Nat × Nat) × Int) (w18 : World) : Option (Value × World) :=
some (.slice t17.2.1.1 t17.2.1.2.1 t17.2.1.2.2, w18)

/-- behind the loop, left by ret -/
noncomputable def g59_l4_ret  (t19 : (Option Addr × Nat × Nat) × (Option Addr × Nat × Nat) × Int) (w20 : World) : Option (Value × World) :=
some (.slice t19.1.1 t19.1.2.1 t19.1.2.2, w20)

noncomputable def g59 (u0 : Option Addr) (w0 : World) : Option (Value × World) :=
(callF Try.prog 58 #[.pointer u0] w0).bind fun r1 =>
(asI .u64 r1.1).bind fun n2 =>
if (decide ((n2 : Int) > 4096)) = true then
((callF Try.prog 70 #[.pointer u0, .int .i64 2] r1.2).bind fun r3 =>
(asTup 0 r3.1).bind fun _ =>
some (.slice none 0 0, r3.2))
else
(g59_l4 u0 n2 ((none, 0, 0), (none, 0, 0), 0) r1.2)

theorem g59_eq (u0 : Option Addr) (w0 : World) : evFn Try.prog 59 g59_ann #[.pointer u0] w0 = g59 u0 w0 := by kernel_rfl

theorem g59_call {u0 : Option Addr} {w0 : World} {r : Value × World} (h : g59 u0 w0 = some r) : callF Try.prog 59 #[.pointer u0] w0 = some r :=
  callF_of_evFn (ann := g59_ann) Try.call59 (by kernel_rfl) ((g59_eq u0 w0).trans h)

theorem g59_l4_x0_of {u0 : Option Addr} {n2 : Int} {s t : (Option Addr × Nat × Nat) × (Option Addr × Nat × Nat) × Int} {w w' : World} (h : loopS (g59_l4_b n2 u0) s w = some (.exit 0, t, w')) : g59_l4 u0 n2 s w = g59_l4_x0 t w' := by
  have h1 : g59_l4 u0 n2 s w = loopM Try.prog 28 59 g59_ann (cAt [1, 1, 1, 1, 0, 1, 0, 0] (bodyOf Try.f59)) [0, 1, 0, 1, 1, 1, 1] g59_K16 ((g59_l4_cs u0 n2) ++ sputs [(2, .sl), (4, .sl), (13, .i .u64)] s) w := by kernel_rfl
  have h2 : loopM Try.prog 28 59 g59_ann (cAt [1, 1, 1, 1, 0, 1, 0, 0] (bodyOf Try.f59)) [0, 1, 0, 1, 1, 1, 1] g59_K16 ((g59_l4_cs u0 n2) ++ sputs [(2, .sl), (4, .sl), (13, .i .u64)] s) w = g59_K16 (.exit 0) (puts 28 ((g59_l4_cs u0 n2) ++ sputs [(2, .sl), (4, .sl), (13, .i .u64)] t)) w' :=
    loop_rule (P := Try.prog) (N := 28) (f := 59) (ann := g59_ann) (body := (cAt [1, 1, 1, 1, 0, 1, 0, 0] (bodyOf Try.f59))) (pt := [0, 1, 0, 1, 1, 1, 1]) (K := g59_K16) (g59_l4_cs u0 n2) [(2, .sl), (4, .sl), (13, .i .u64)] (b := g59_l4_b n2 u0) (fun s w => by kernel_rfl) (by kernel_rfl) (by kernel_rfl) (by kernel_rfl) h
  have h3 : g59_K16 (.exit 0) (puts 28 ((g59_l4_cs u0 n2) ++ sputs [(2, .sl), (4, .sl), (13, .i .u64)] t)) w' = g59_l4_x0 t w' := by kernel_rfl
  exact h1.trans (h2.trans h3)

theorem g59_l4_ret_of {u0 : Option Addr} {n2 : Int} {s t : (Option Addr × Nat × Nat) × (Option Addr × Nat × Nat) × Int} {w w' : World} (h : loopS (g59_l4_b n2 u0) s w = some (.ret, t, w')) : g59_l4 u0 n2 s w = g59_l4_ret t w' := by
  have h1 : g59_l4 u0 n2 s w = loopM Try.prog 28 59 g59_ann (cAt [1, 1, 1, 1, 0, 1, 0, 0] (bodyOf Try.f59)) [0, 1, 0, 1, 1, 1, 1] g59_K16 ((g59_l4_cs u0 n2) ++ sputs [(2, .sl), (4, .sl), (13, .i .u64)] s) w := by kernel_rfl
  have h2 : loopM Try.prog 28 59 g59_ann (cAt [1, 1, 1, 1, 0, 1, 0, 0] (bodyOf Try.f59)) [0, 1, 0, 1, 1, 1, 1] g59_K16 ((g59_l4_cs u0 n2) ++ sputs [(2, .sl), (4, .sl), (13, .i .u64)] s) w = g59_K16 (.ret) (puts 28 ((g59_l4_cs u0 n2) ++ sputs [(2, .sl), (4, .sl), (13, .i .u64)] t)) w' :=
    loop_rule (P := Try.prog) (N := 28) (f := 59) (ann := g59_ann) (body := (cAt [1, 1, 1, 1, 0, 1, 0, 0] (bodyOf Try.f59))) (pt := [0, 1, 0, 1, 1, 1, 1]) (K := g59_K16) (g59_l4_cs u0 n2) [(2, .sl), (4, .sl), (13, .i .u64)] (b := g59_l4_b n2 u0) (fun s w => by kernel_rfl) (by kernel_rfl) (by kernel_rfl) (by kernel_rfl) h
  have h3 : g59_K16 (.ret) (puts 28 ((g59_l4_cs u0 n2) ++ sputs [(2, .sl), (4, .sl), (13, .i .u64)] t)) w' = g59_l4_ret t w' := by kernel_rfl
  exact h1.trans (h2.trans h3)

/-! 60: (*penstock/codec.Reader).Flag (r: *codec.Reader) -/
def g60_ann : List (List Nat × List Nat) := []

noncomputable def g60 (u0 : Option Addr) (w0 : World) : Option (Value × World) :=
(callF Try.prog 58 #[.pointer u0] w0).bind fun r1 =>
(asI .u64 r1.1).bind fun n2 =>
if (decide ((n2 : Int) > 1)) = true then
((callF Try.prog 70 #[.pointer u0, .int .i64 7] r1.2).bind fun r3 =>
(asTup 0 r3.1).bind fun _ =>
some (.bool false, r3.2))
else
(some (.bool ((n2 : Int) == 1), r1.2))

theorem g60_eq (u0 : Option Addr) (w0 : World) : evFn Try.prog 60 g60_ann #[.pointer u0] w0 = g60 u0 w0 := by kernel_rfl

theorem g60_call {u0 : Option Addr} {w0 : World} {r : Value × World} (h : g60 u0 w0 = some r) : callF Try.prog 60 #[.pointer u0] w0 = some r :=
  callF_of_evFn (ann := g60_ann) Try.call60 (by kernel_rfl) ((g60_eq u0 w0).trans h)

/-! 61: (*penstock/codec.Reader).End (r: *codec.Reader) -/
def g61_ann : List (List Nat × List Nat) := []

noncomputable def g61 (u0 : Option Addr) (w0 : World) : Option (Value × World) :=
if (u0.isNone) = true then
(some (.int .i64 5, w0))
else
(u0.bind fun a1 =>
(World.cell? (World.drew w0) (Addr.add a1 2)).bind fun v2 =>
(asI .i64 v2).bind fun n3 =>
if ((n3 : Int) == 0) = true then
(u0.bind fun a4 =>
(World.cell? (World.drew w0) (Addr.add a4 1)).bind fun v5 =>
(asI .i64 v5).bind fun n6 =>
u0.bind fun a7 =>
(World.cell? (World.drew w0) a7).bind fun v8 =>
(asSl v8).bind fun q9 =>
if (decide ((n6 : Int) < (q9.2.1 : Int))) = true then
(some (.int .i64 6, (World.drew w0)))
else
(u0.bind fun a11 =>
(World.cell? (World.drew w0) (Addr.add a11 2)).bind fun v12 =>
(asI .i64 v12).bind fun n13 =>
some (.int .i64 n13, (World.drew w0))))
else
(u0.bind fun a14 =>
(World.cell? (World.drew w0) (Addr.add a14 2)).bind fun v15 =>
(asI .i64 v15).bind fun n16 =>
some (.int .i64 n16, (World.drew w0))))

theorem g61_eq (u0 : Option Addr) (w0 : World) : evFn Try.prog 61 g61_ann #[.pointer u0] w0 = g61 u0 w0 := by kernel_rfl

theorem g61_call {u0 : Option Addr} {w0 : World} {r : Value × World} (h : g61 u0 w0 = some r) : callF Try.prog 61 #[.pointer u0] w0 = some r :=
  callF_of_evFn (ann := g61_ann) Try.call61 (by kernel_rfl) ((g61_eq u0 w0).trans h)

/-! 67: penstock/penstockref03.Zig (n: int) -/
def g67_ann : List (List Nat × List Nat) := []

noncomputable def g67 (u0 : Int) (w0 : World) : Option (Value × World) :=
if (decide ((u0 : Int) ≥ 0)) = true then
(some (.int .u64 (IntKind.u64.wrap (2 * (IntKind.u64.wrap u0))), w0))
else
(some (.int .u64 (IntKind.u64.wrap ((IntKind.u64.wrap (2 * (IntKind.u64.wrap (IntKind.i64.wrap (0 - (IntKind.i64.wrap (u0 + 1))))))) + 1)), w0))

theorem g67_eq (u0 : Int) (w0 : World) : evFn Try.prog 67 g67_ann #[.int .i64 u0] w0 = g67 u0 w0 := by kernel_rfl

theorem g67_call {u0 : Int} {w0 : World} {r : Value × World} (h : g67 u0 w0 = some r) : callF Try.prog 67 #[.int .i64 u0] w0 = some r :=
  callF_of_evFn (ann := g67_ann) Try.call67 (by kernel_rfl) ((g67_eq u0 w0).trans h)

/-! 68: penstock/penstockref03.Zag (n: uint64) -/
def g68_ann : List (List Nat × List Nat) := []

noncomputable def g68 (u0 : Int) (w0 : World) : Option (Value × World) :=
if (((Int.tmod u0 2) : Int) == 0) = true then
(some (.int .i64 (IntKind.i64.wrap (IntKind.u64.wrap (Int.tdiv u0 2))), w0))
else
(some (.int .i64 (IntKind.i64.wrap ((IntKind.i64.wrap (0 - (IntKind.i64.wrap (IntKind.u64.wrap (Int.tdiv u0 2))))) - 1)), w0))

theorem g68_eq (u0 : Int) (w0 : World) : evFn Try.prog 68 g68_ann #[.int .u64 u0] w0 = g68 u0 w0 := by kernel_rfl

theorem g68_call {u0 : Int} {w0 : World} {r : Value × World} (h : g68 u0 w0 = some r) : callF Try.prog 68 #[.int .u64 u0] w0 = some r :=
  callF_of_evFn (ann := g68_ann) Try.call68 (by kernel_rfl) ((g68_eq u0 w0).trans h)

/-! 69: (*penstock/penstockref03.Reader).fail (r: *penstockref03.Reader, e: int) -/
def g69_ann : List (List Nat × List Nat) := []

noncomputable def g69 (u0 : Option Addr) (u1 : Int) (w0 : World) : Option (Value × World) :=
u0.bind fun a1 =>
(World.cell? w0 (Addr.add a1 2)).bind fun v2 =>
(asI .i64 v2).bind fun n3 =>
if ((n3 : Int) == 0) = true then
(u0.bind fun a4 =>
(st1 w0 (Addr.add a4 2) (.int .i64 u1)).bind fun w5 =>
some (.tuple #[], w5))
else
(some (.tuple #[], w0))

theorem g69_eq (u0 : Option Addr) (u1 : Int) (w0 : World) : evFn Try.prog 69 g69_ann #[.pointer u0, .int .i64 u1] w0 = g69 u0 u1 w0 := by kernel_rfl

theorem g69_call {u0 : Option Addr} {u1 : Int} {w0 : World} {r : Value × World} (h : g69 u0 u1 w0 = some r) : callF Try.prog 69 #[.pointer u0, .int .i64 u1] w0 = some r :=
  callF_of_evFn (ann := g69_ann) Try.call69 (by kernel_rfl) ((g69_eq u0 u1 w0).trans h)

/-! 70: (*penstock/codec.Reader).fail (r: *codec.Reader, e: api.Errno) -/
def g70_ann : List (List Nat × List Nat) := []

noncomputable def g70 (u0 : Option Addr) (u1 : Int) (w0 : World) : Option (Value × World) :=
u0.bind fun a1 =>
(World.cell? w0 (Addr.add a1 2)).bind fun v2 =>
(asI .i64 v2).bind fun n3 =>
if ((n3 : Int) == 0) = true then
(u0.bind fun a4 =>
(st1 w0 (Addr.add a4 2) (.int .i64 u1)).bind fun w5 =>
some (.tuple #[], w5))
else
(some (.tuple #[], w0))

theorem g70_eq (u0 : Option Addr) (u1 : Int) (w0 : World) : evFn Try.prog 70 g70_ann #[.pointer u0, .int .i64 u1] w0 = g70 u0 u1 w0 := by kernel_rfl

theorem g70_call {u0 : Option Addr} {u1 : Int} {w0 : World} {r : Value × World} (h : g70 u0 u1 w0 = some r) : callF Try.prog 70 #[.pointer u0, .int .i64 u1] w0 = some r :=
  callF_of_evFn (ann := g70_ann) Try.call70 (by kernel_rfl) ((g70_eq u0 u1 w0).trans h)

end Go.Proofs.Ytlcojbodcbjkaaa
