/-
  GateF3: lemmas on what Go functions of this seat come to (for whatever arguments, as each says). No condition but those that stand in each lemma.
-/
import Derived.Test.YtniibeofggdfoaaGateF2
namespace Go.Proofs.Ytniibeofggdfoaa
open Go Go.Ev
set_option maxRecDepth 100000
set_option linter.unusedVariables false
/-! 9: penstock/penstocklaw01.GateNone (n: uint64, i: int) -/
def g9_ann : List (List Nat × List Nat) := []

noncomputable def g9 (u0 : Int) (u1 : Int) (w0 : World) : Option (Value × World) :=
(callF Try.prog 13 #[.pointer none, .int .u64 u0] w0).bind fun r1 =>
(asTup 2 r1.1).bind fun l2 =>
(asI .u64 (l2.getD 0 undef)).bind fun n3 =>
(asB (l2.getD 1 undef)).bind fun b4 =>
(callF Try.prog 16 #[.pointer none] r1.2).bind fun r5 =>
(asTup 2 r5.1).bind fun l6 =>
(asI .u64 (l6.getD 0 undef)).bind fun n7 =>
(asB (l6.getD 1 undef)).bind fun b8 =>
(callF Try.prog 17 #[.pointer none, .int .u64 u0] r5.2).bind fun r9 =>
(asTup 0 r9.1).bind fun _ =>
(callF Try.prog 12 #[.pointer none] r9.2).bind fun r10 =>
(asTup 2 r10.1).bind fun l11 =>
(asI .u64 (l11.getD 0 undef)).bind fun n12 =>
(asI .u64 (l11.getD 1 undef)).bind fun n13 =>
(callF Try.prog 26 #[.pointer none] r10.2).bind fun r14 =>
(asTup 2 r14.1).bind fun l15 =>
(asI .u64 (l15.getD 0 undef)).bind fun n16 =>
(asB (l15.getD 1 undef)).bind fun b17 =>
(callF Try.prog 11 #[] r14.2).bind fun r18 =>
(asB r18.1).bind fun b19 =>
if b19 = true then
(if (!b4) = true then
(if (!b8) = true then
(if ((n12 : Int) == 0) = true then
(if ((n13 : Int) == 0) = true then
((callF Try.prog 27 #[.pointer none, .int .u64 u0] r18.2).bind fun r20 =>
(asI .u64 r20.1).bind fun n21 =>
if ((n21 : Int) == 0) = true then
(if (!b17) = true then
((callF Try.prog 19 #[.pointer none, .int .i64 u1] r20.2).bind fun r22 =>
(asB r22.1).bind fun b23 =>
if (!b23) = true then
((callF Try.prog 21 #[.pointer none, .int .i64 u1] r22.2).bind fun r24 =>
(asB r24.1).bind fun b25 =>
if (!b25) = true then
((callF Try.prog 23 #[.pointer none, .int .i64 u1] r24.2).bind fun r26 =>
(asB r26.1).bind fun b27 =>
if (!b27) = true then
((callF Try.prog 20 #[.pointer none] r26.2).bind fun r28 =>
(asI .i64 r28.1).bind fun n29 =>
some (.bool ((n29 : Int) == 0), r28.2))
else
(some (.bool false, r26.2)))
else
(some (.bool false, r24.2)))
else
(some (.bool false, r22.2)))
else
(some (.bool false, r20.2)))
else
(some (.bool false, r20.2)))
else
(some (.bool false, r18.2)))
else
(some (.bool false, r18.2)))
else
(some (.bool false, r18.2)))
else
(some (.bool false, r18.2)))
else
(some (.bool false, r18.2))

theorem g9_eq (u0 : Int) (u1 : Int) (w0 : World) : evFn Try.prog 9 g9_ann #[.int .u64 u0, .int .i64 u1] w0 = g9 u0 u1 w0 := by kernel_rfl

theorem g9_call {u0 : Int} {u1 : Int} {w0 : World} {r : Value × World} (h : g9 u0 u1 w0 = some r) : callF Try.prog 9 #[.int .u64 u0, .int .i64 u1] w0 = some r :=
  callF_of_evFn (ann := g9_ann) Try.call9 (by kernel_rfl) ((g9_eq u0 u1 w0).trans h)

/-! 26: (*penstock/gate.Once).Value (o: *gate.Once) -/
def g26_ann : List (List Nat × List Nat) := []

noncomputable def g26 (u0 : Option Addr) (w0 : World) : Option (Value × World) :=
if (u0.isNone) = true then
(some (.tuple #[.int .u64 0, .bool false], w0))
else
(u0.bind fun a1 =>
(callF Try.prog 33 #[.pointer (some (Addr.add a1 3))] w0).bind fun r2 =>
(asB r2.1).bind fun b3 =>
if (!b3) = true then
(some (.tuple #[.int .u64 0, .bool false], r2.2))
else
(u0.bind fun a4 =>
(World.cell? r2.2 (Addr.add a4 4)).bind fun v5 =>
(asI .u64 v5).bind fun n6 =>
some (.tuple #[.int .u64 n6, .bool true], r2.2)))

theorem g26_eq (u0 : Option Addr) (w0 : World) : evFn Try.prog 26 g26_ann #[.pointer u0] w0 = g26 u0 w0 := by kernel_rfl

theorem g26_call {u0 : Option Addr} {w0 : World} {r : Value × World} (h : g26 u0 w0 = some r) : callF Try.prog 26 #[.pointer u0] w0 = some r :=
  callF_of_evFn (ann := g26_ann) Try.call26 (by kernel_rfl) ((g26_eq u0 w0).trans h)

/-! 27: (*penstock/gate.Once).Do (o: *gate.Once, v: uint64) -/
def g27_ann : List (List Nat × List Nat) := []

noncomputable def g27 (u0 : Option Addr) (u1 : Int) (w0 : World) : Option (Value × World) :=
(World.cell? (World.alloc (World.alloc w0 (.cells #[.pointer u0] 65)) (.cells #[.int .u64 u1] 22)) (⟨w0.heap.size, 0, none⟩)).bind fun v1 =>
(asP v1).bind fun p2 =>
if (p2.isNone) = true then
(some (.int .u64 0, (World.alloc (World.alloc w0 (.cells #[.pointer u0] 65)) (.cells #[.int .u64 u1] 22))))
else
((World.cell? (World.alloc (World.alloc w0 (.cells #[.pointer u0] 65)) (.cells #[.int .u64 u1] 22)) (⟨w0.heap.size, 0, none⟩)).bind fun v3 =>
(asP v3).bind fun p4 =>
p4.bind fun a5 =>
(callF Try.prog 34 #[.pointer (some a5), .func (.func 35) #[] #[.pointer (some (⟨(World.alloc w0 (.cells #[.pointer u0] 65)).heap.size, 0, none⟩)), .pointer (some (⟨w0.heap.size, 0, none⟩))]] (World.alloc (World.alloc w0 (.cells #[.pointer u0] 65)) (.cells #[.int .u64 u1] 22))).bind fun r6 =>
(asTup 0 r6.1).bind fun _ =>
(World.cell? r6.2 (⟨w0.heap.size, 0, none⟩)).bind fun v7 =>
(asP v7).bind fun p8 =>
p8.bind fun a9 =>
(World.cell? r6.2 (Addr.add a9 4)).bind fun v10 =>
(asI .u64 v10).bind fun n11 =>
some (.int .u64 n11, r6.2))

theorem g27_eq (u0 : Option Addr) (u1 : Int) (w0 : World) : evFn Try.prog 27 g27_ann #[.pointer u0, .int .u64 u1] w0 = g27 u0 u1 w0 := by kernel_rfl

theorem g27_call {u0 : Option Addr} {u1 : Int} {w0 : World} {r : Value × World} (h : g27 u0 u1 w0 = some r) : callF Try.prog 27 #[.pointer u0, .int .u64 u1] w0 = some r :=
  callF_of_evFn (ann := g27_ann) Try.call27 (by kernel_rfl) ((g27_eq u0 u1 w0).trans h)

end Go.Proofs.Ytniibeofggdfoaa
