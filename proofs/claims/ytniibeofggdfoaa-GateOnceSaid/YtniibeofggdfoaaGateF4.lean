/-
  GateF4: lemmas on what Go functions of this seat come to (for whatever arguments, as each says). No condition but those that stand in each lemma.
-/
import Derived.Test.YtniibeofggdfoaaGateC
namespace Go.Proofs.Ytniibeofggdfoaa
open Go Go.Ev
set_option maxRecDepth 100000
set_option linter.unusedVariables false
/-! 8: penstock/penstocklaw01.GateOnce (l: []uint64) -/
def g8_ann : List (List Nat × List Nat) := [([0, 1, 0, 1, 1, 1, 1], [0, 3, 24, 25, 2, 26])]

def g8_l8_cs (u0 : Option Addr × Nat × Nat) (w0 : World) : List (Nat × Value) := ([(0, .slice u0.1 u0.2.1 u0.2.2), (3, .pointer (some (⟨w0.heap.size, 0, none⟩))), (24, .slice u0.1 u0.2.1 u0.2.2), (25, .int .i64 (u0.2.1 : Int))] : List (Nat × Value))

/-- the round of a loop (penstock/penstocklaw01.GateOnce) -/
noncomputable def g8_l8_b (u0 : Option Addr × Nat × Nat) (w0 : World) (s9 : Bool × Int) (w10 : World) : Option (Exit × (Bool × Int) × World) :=
if (decide ((s9.2 : Int) < (u0.2.1 : Int))) = true then
((idxA u0.1 u0.2.1 1 s9.2).bind fun a11 =>
(World.cell? w10 a11).bind fun v12 =>
(asI .u64 v12).bind fun n13 =>
(idxA u0.1 u0.2.1 1 0).bind fun a14 =>
if (ahd (Region.schedule true (opsOf (cAt [1, 1, 1, 1, 0, 1, 0, 0, 1, 1, 0, 0, 1, 0, 0] (bodyOf Try.f8))) (World.tape w10 (World.drawn w10) (.order 8 8))) 2 5 && true) = true then
((callF Try.prog 27 #[.pointer (some (⟨w0.heap.size, 0, none⟩)), .int .u64 n13] (World.drew w10)).bind fun r15 =>
(asI .u64 r15.1).bind fun n16 =>
(World.cell? r15.2 a14).bind fun v17 =>
(asI .u64 v17).bind fun n18 =>
if ((n16 : Int) != n18) = true then
(some (.ret, (false, s9.2), r15.2))
else
((callF Try.prog 26 #[.pointer (some (⟨w0.heap.size, 0, none⟩))] r15.2).bind fun r19 =>
(asTup 2 r19.1).bind fun l20 =>
(asI .u64 (l20.getD 0 undef)).bind fun n21 =>
(asB (l20.getD 1 undef)).bind fun b22 =>
if (!b22) = true then
(some (.ret, (false, s9.2), r19.2))
else
((idxA u0.1 u0.2.1 1 0).bind fun a23 =>
(World.cell? r19.2 a23).bind fun v24 =>
(asI .u64 v24).bind fun n25 =>
if ((n21 : Int) != n25) = true then
(some (.ret, (false, s9.2), r19.2))
else
(if (decide ((s9.2 : Int) < 0)) = true then
(some (.ret, (false, s9.2), r19.2))
else
(some (.normal, (s9.1, (IntKind.i64.wrap (s9.2 + 1))), r19.2))))))
else
((World.cell? (World.drew w10) a14).bind fun v26 =>
(asI .u64 v26).bind fun n27 =>
(callF Try.prog 27 #[.pointer (some (⟨w0.heap.size, 0, none⟩)), .int .u64 n13] (World.drew w10)).bind fun r28 =>
(asI .u64 r28.1).bind fun n29 =>
if ((n29 : Int) != n27) = true then
(some (.ret, (false, s9.2), r28.2))
else
((callF Try.prog 26 #[.pointer (some (⟨w0.heap.size, 0, none⟩))] r28.2).bind fun r30 =>
(asTup 2 r30.1).bind fun l31 =>
(asI .u64 (l31.getD 0 undef)).bind fun n32 =>
(asB (l31.getD 1 undef)).bind fun b33 =>
if (!b33) = true then
(some (.ret, (false, s9.2), r30.2))
else
((idxA u0.1 u0.2.1 1 0).bind fun a34 =>
(World.cell? r30.2 a34).bind fun v35 =>
(asI .u64 v35).bind fun n36 =>
if ((n32 : Int) != n36) = true then
(some (.ret, (false, s9.2), r30.2))
else
(if (decide ((s9.2 : Int) < 0)) = true then
(some (.ret, (false, s9.2), r30.2))
else
(some (.normal, (s9.1, (IntKind.i64.wrap (s9.2 + 1))), r30.2)))))))
else
(some ((.exit 0), (s9.1, s9.2), w10))

noncomputable def g8_K37  : Exit → Env → World → Option (Value × World) :=
  retK Try.prog Try.f8.results.toList

noncomputable def g8_K38  : Exit → Env → World → Option (Value × World) :=
  seqK (ev Try.prog 57 8 g8_ann (cAt [1, 1, 1, 1, 1] (bodyOf Try.f8)) [1, 1, 1, 1, 1] g8_K37) g8_K37

noncomputable def g8_K39  : Exit → Env → World → Option (Value × World) :=
  blkK 0 g8_K38

/-- the loop, from a state on -/
noncomputable def g8_l8 (u0 : Option Addr × Nat × Nat) (w0 : World) (s : Bool × Int) (w : World) : Option (Value × World) :=
  loopM Try.prog 57 8 g8_ann (cAt [1, 1, 1, 1, 0, 1, 0, 0] (bodyOf Try.f8)) [0, 1, 0, 1, 1, 1, 1] g8_K39 ((g8_l8_cs u0 w0) ++ sputs [(2, .b), (26, .i .i64)] s) w

/-- behind the loop, left by x0 -/
noncomputable def g8_l8_x0  (t40 : Bool × Int) (w41 : World) : Option (Value × World) :=
some (.bool true, w41)

/-- behind the loop, left by ret -/
noncomputable def g8_l8_ret  (t42 : Bool × Int) (w43 : World) : Option (Value × World) :=
some (.bool t42.1, w43)

noncomputable def g8 (u0 : Option Addr × Nat × Nat) (w0 : World) : Option (Value × World) :=
(callF Try.prog 26 #[.pointer (some (⟨w0.heap.size, 0, none⟩))] (World.alloc w0 (.cells #[.int .u32 0, .int .i32 0, .int .u32 0, .int .u32 0, .int .u64 0] 77))).bind fun r1 =>
(asTup 2 r1.1).bind fun l2 =>
(asI .u64 (l2.getD 0 undef)).bind fun n3 =>
(asB (l2.getD 1 undef)).bind fun b4 =>
(callF Try.prog 11 #[] r1.2).bind fun r5 =>
(asB r5.1).bind fun b6 =>
if (!b6) = true then
(some (.bool false, r5.2))
else
(if b4 = true then
(some (.bool false, r5.2))
else
(if ((n3 : Int) != 0) = true then
(some (.bool false, r5.2))
else
(g8_l8 u0 w0 (false, 0) r5.2)))

theorem g8_eq (u0 : Option Addr × Nat × Nat) (w0 : World) : evFn Try.prog 8 g8_ann #[.slice u0.1 u0.2.1 u0.2.2] w0 = g8 u0 w0 := by kernel_rfl

theorem g8_call {u0 : Option Addr × Nat × Nat} {w0 : World} {r : Value × World} (h : g8 u0 w0 = some r) : callF Try.prog 8 #[.slice u0.1 u0.2.1 u0.2.2] w0 = some r :=
  callF_of_evFn (ann := g8_ann) Try.call8 (by kernel_rfl) ((g8_eq u0 w0).trans h)

theorem g8_l8_x0_of {u0 : Option Addr × Nat × Nat} {w0 : World} {s t : Bool × Int} {w w' : World} (h : loopS (g8_l8_b u0 w0) s w = some (.exit 0, t, w')) : g8_l8 u0 w0 s w = g8_l8_x0 t w' := by
  have h1 : g8_l8 u0 w0 s w = loopM Try.prog 57 8 g8_ann (cAt [1, 1, 1, 1, 0, 1, 0, 0] (bodyOf Try.f8)) [0, 1, 0, 1, 1, 1, 1] g8_K39 ((g8_l8_cs u0 w0) ++ sputs [(2, .b), (26, .i .i64)] s) w := by kernel_rfl
  have h2 : loopM Try.prog 57 8 g8_ann (cAt [1, 1, 1, 1, 0, 1, 0, 0] (bodyOf Try.f8)) [0, 1, 0, 1, 1, 1, 1] g8_K39 ((g8_l8_cs u0 w0) ++ sputs [(2, .b), (26, .i .i64)] s) w = g8_K39 (.exit 0) (puts 57 ((g8_l8_cs u0 w0) ++ sputs [(2, .b), (26, .i .i64)] t)) w' :=
    loop_rule (P := Try.prog) (N := 57) (f := 8) (ann := g8_ann) (body := (cAt [1, 1, 1, 1, 0, 1, 0, 0] (bodyOf Try.f8))) (pt := [0, 1, 0, 1, 1, 1, 1]) (K := g8_K39) (g8_l8_cs u0 w0) [(2, .b), (26, .i .i64)] (b := g8_l8_b u0 w0) (fun s w => by kernel_rfl) (by kernel_rfl) (by kernel_rfl) (by kernel_rfl) h
  have h3 : g8_K39 (.exit 0) (puts 57 ((g8_l8_cs u0 w0) ++ sputs [(2, .b), (26, .i .i64)] t)) w' = g8_l8_x0 t w' := by kernel_rfl
  exact h1.trans (h2.trans h3)

theorem g8_l8_ret_of {u0 : Option Addr × Nat × Nat} {w0 : World} {s t : Bool × Int} {w w' : World} (h : loopS (g8_l8_b u0 w0) s w = some (.ret, t, w')) : g8_l8 u0 w0 s w = g8_l8_ret t w' := by
  have h1 : g8_l8 u0 w0 s w = loopM Try.prog 57 8 g8_ann (cAt [1, 1, 1, 1, 0, 1, 0, 0] (bodyOf Try.f8)) [0, 1, 0, 1, 1, 1, 1] g8_K39 ((g8_l8_cs u0 w0) ++ sputs [(2, .b), (26, .i .i64)] s) w := by kernel_rfl
  have h2 : loopM Try.prog 57 8 g8_ann (cAt [1, 1, 1, 1, 0, 1, 0, 0] (bodyOf Try.f8)) [0, 1, 0, 1, 1, 1, 1] g8_K39 ((g8_l8_cs u0 w0) ++ sputs [(2, .b), (26, .i .i64)] s) w = g8_K39 (.ret) (puts 57 ((g8_l8_cs u0 w0) ++ sputs [(2, .b), (26, .i .i64)] t)) w' :=
    loop_rule (P := Try.prog) (N := 57) (f := 8) (ann := g8_ann) (body := (cAt [1, 1, 1, 1, 0, 1, 0, 0] (bodyOf Try.f8))) (pt := [0, 1, 0, 1, 1, 1, 1]) (K := g8_K39) (g8_l8_cs u0 w0) [(2, .b), (26, .i .i64)] (b := g8_l8_b u0 w0) (fun s w => by kernel_rfl) (by kernel_rfl) (by kernel_rfl) (by kernel_rfl) h
  have h3 : g8_K39 (.ret) (puts 57 ((g8_l8_cs u0 w0) ++ sputs [(2, .b), (26, .i .i64)] t)) w' = g8_l8_ret t w' := by kernel_rfl
  exact h1.trans (h2.trans h3)

/-! 26: (*penstock/gate.Once).Value (o: *gate.Once) -/
def g26_ann : List (List Nat × List Nat) := []

noncomputable def g26 (u0 : Option Addr) (w0 : World) : Option (Value × World) :=
if (u0.isNone) = true then
(some (.tuple #[.int .u64 0, .bool false], w0))
else
(u0.bind fun a1 =>
(callF Try.prog 33 #[.pointer (some (Addr.add a1 3))] w0).bind fun r2 =>
(asB r2.1).bind fun b3 =>
if (!b3) = true then
(some (.tuple #[.int .u64 0, .bool false], r2.2))
else
(u0.bind fun a4 =>
(World.cell? r2.2 (Addr.add a4 4)).bind fun v5 =>
(asI .u64 v5).bind fun n6 =>
some (.tuple #[.int .u64 n6, .bool true], r2.2)))

theorem g26_eq (u0 : Option Addr) (w0 : World) : evFn Try.prog 26 g26_ann #[.pointer u0] w0 = g26 u0 w0 := by kernel_rfl

theorem g26_call {u0 : Option Addr} {w0 : World} {r : Value × World} (h : g26 u0 w0 = some r) : callF Try.prog 26 #[.pointer u0] w0 = some r :=
  callF_of_evFn (ann := g26_ann) Try.call26 (by kernel_rfl) ((g26_eq u0 w0).trans h)

/-! 27: (*penstock/gate.Once).Do (o: *gate.Once, v: uint64) -/
def g27_ann : List (List Nat × List Nat) := []

noncomputable def g27 (u0 : Option Addr) (u1 : Int) (w0 : World) : Option (Value × World) :=
(World.cell? (World.alloc (World.alloc w0 (.cells #[.pointer u0] 65)) (.cells #[.int .u64 u1] 22)) (⟨w0.heap.size, 0, none⟩)).bind fun v1 =>
(asP v1).bind fun p2 =>
if (p2.isNone) = true then
(some (.int .u64 0, (World.alloc (World.alloc w0 (.cells #[.pointer u0] 65)) (.cells #[.int .u64 u1] 22))))
else
((World.cell? (World.alloc (World.alloc w0 (.cells #[.pointer u0] 65)) (.cells #[.int .u64 u1] 22)) (⟨w0.heap.size, 0, none⟩)).bind fun v3 =>
(asP v3).bind fun p4 =>
p4.bind fun a5 =>
(callF Try.prog 34 #[.pointer (some a5), .func (.func 35) #[] #[.pointer (some (⟨(World.alloc w0 (.cells #[.pointer u0] 65)).heap.size, 0, none⟩)), .pointer (some (⟨w0.heap.size, 0, none⟩))]] (World.alloc (World.alloc w0 (.cells #[.pointer u0] 65)) (.cells #[.int .u64 u1] 22))).bind fun r6 =>
(asTup 0 r6.1).bind fun _ =>
(World.cell? r6.2 (⟨w0.heap.size, 0, none⟩)).bind fun v7 =>
(asP v7).bind fun p8 =>
p8.bind fun a9 =>
(World.cell? r6.2 (Addr.add a9 4)).bind fun v10 =>
(asI .u64 v10).bind fun n11 =>
some (.int .u64 n11, r6.2))

theorem g27_eq (u0 : Option Addr) (u1 : Int) (w0 : World) : evFn Try.prog 27 g27_ann #[.pointer u0, .int .u64 u1] w0 = g27 u0 u1 w0 := by kernel_rfl

theorem g27_call {u0 : Option Addr} {u1 : Int} {w0 : World} {r : Value × World} (h : g27 u0 u1 w0 = some r) : callF Try.prog 27 #[.pointer u0, .int .u64 u1] w0 = some r :=
  callF_of_evFn (ann := g27_ann) Try.call27 (by kernel_rfl) ((g27_eq u0 u1 w0).trans h)

/-! 33: (*sync/atomic.Bool).Load (x: *atomic.Bool) -/
def g33_ann : List (List Nat × List Nat) := []

noncomputable def g33 (u0 : Option Addr) (w0 : World) : Option (Value × World) :=
u0.bind fun a1 =>
(callF Try.prog 40 #[.pointer (some a1)] w0).bind fun r2 =>
(asI .u32 r2.1).bind fun n3 =>
some (.bool ((n3 : Int) != 0), r2.2)

theorem g33_eq (u0 : Option Addr) (w0 : World) : evFn Try.prog 33 g33_ann #[.pointer u0] w0 = g33 u0 w0 := by kernel_rfl

theorem g33_call {u0 : Option Addr} {w0 : World} {r : Value × World} (h : g33 u0 w0 = some r) : callF Try.prog 33 #[.pointer u0] w0 = some r :=
  callF_of_evFn (ann := g33_ann) Try.call33 (by kernel_rfl) ((g33_eq u0 w0).trans h)

/-! 34: (*sync.Once).Do (o: *sync.Once, f: func()) -/
def g34_ann : List (List Nat × List Nat) := []

noncomputable def g34 (u0 : Option Addr) (u1 : Value) (w0 : World) : Option (Value × World) :=
u0.bind fun a1 =>
(callF Try.prog 33 #[.pointer (some a1)] w0).bind fun r2 =>
(asB r2.1).bind fun b3 =>
if (!b3) = true then
((callF Try.prog 41 #[.pointer u0, u1] r2.2).bind fun r4 =>
(asTup 0 r4.1).bind fun _ =>
some (.tuple #[], r4.2))
else
(some (.tuple #[], r2.2))

theorem g34_eq (u0 : Option Addr) (u1 : Value) (w0 : World) : evFn Try.prog 34 g34_ann #[.pointer u0, u1] w0 = g34 u0 u1 w0 := by kernel_rfl

theorem g34_call {u0 : Option Addr} {u1 : Value} {w0 : World} {r : Value × World} (h : g34 u0 u1 w0 = some r) : callF Try.prog 34 #[.pointer u0, u1] w0 = some r :=
  callF_of_evFn (ann := g34_ann) Try.call34 (by kernel_rfl) ((g34_eq u0 u1 w0).trans h)

/-! 35: (*penstock/gate.Once).Do$1 () -/
def g35_ann : List (List Nat × List Nat) := []

noncomputable def g35 (u0 : Addr) (u1 : Addr) (w0 : World) : Option (Value × World) :=
(World.cell? w0 u1).bind fun v1 =>
(asP v1).bind fun p2 =>
(World.cell? w0 u0).bind fun v3 =>
(asI .u64 v3).bind fun n4 =>
p2.bind fun a5 =>
(st1 w0 (Addr.add a5 4) (.int .u64 n4)).bind fun w6 =>
(World.cell? w6 u1).bind fun v7 =>
(asP v7).bind fun p8 =>
p8.bind fun a9 =>
(callF Try.prog 36 #[.pointer (some (Addr.add a9 3)), .bool true] w6).bind fun r10 =>
(asTup 0 r10.1).bind fun _ =>
some (.tuple #[], r10.2)

theorem g35_eq (u0 : Addr) (u1 : Addr) (w0 : World) : evFn Try.prog 35 g35_ann #[.pointer (some u0), .pointer (some u1)] w0 = g35 u0 u1 w0 := by kernel_rfl

theorem g35_call {u0 : Addr} {u1 : Addr} {w0 : World} {r : Value × World} (h : g35 u0 u1 w0 = some r) : callF Try.prog 35 #[.pointer (some u0), .pointer (some u1)] w0 = some r :=
  callF_of_evFn (ann := g35_ann) Try.call35 (by kernel_rfl) ((g35_eq u0 u1 w0).trans h)

/-! 36: (*sync/atomic.Bool).Store (x: *atomic.Bool, val: bool) -/
def g36_ann : List (List Nat × List Nat) := []

noncomputable def g36 (u0 : Option Addr) (u1 : Bool) (w0 : World) : Option (Value × World) :=
u0.bind fun a1 =>
(callF Try.prog 43 #[.bool u1] (World.drew w0)).bind fun r2 =>
(asI .u32 r2.1).bind fun n3 =>
(callF Try.prog 42 #[.pointer (some a1), .int .u32 n3] r2.2).bind fun r4 =>
(asTup 0 r4.1).bind fun _ =>
some (.tuple #[], r4.2)

theorem g36_eq (u0 : Option Addr) (u1 : Bool) (w0 : World) : evFn Try.prog 36 g36_ann #[.pointer u0, .bool u1] w0 = g36 u0 u1 w0 := by kernel_rfl

theorem g36_call {u0 : Option Addr} {u1 : Bool} {w0 : World} {r : Value × World} (h : g36 u0 u1 w0 = some r) : callF Try.prog 36 #[.pointer u0, .bool u1] w0 = some r :=
  callF_of_evFn (ann := g36_ann) Try.call36 (by kernel_rfl) ((g36_eq u0 u1 w0).trans h)

/-! 43: sync/atomic.b32 (b: bool) -/
def g43_ann : List (List Nat × List Nat) := []

noncomputable def g43 (u0 : Bool) (w0 : World) : Option (Value × World) :=
if u0 = true then
(some (.int .u32 1, w0))
else
(some (.int .u32 0, w0))

theorem g43_eq (u0 : Bool) (w0 : World) : evFn Try.prog 43 g43_ann #[.bool u0] w0 = g43 u0 w0 := by kernel_rfl

theorem g43_call {u0 : Bool} {w0 : World} {r : Value × World} (h : g43 u0 w0 = some r) : callF Try.prog 43 #[.bool u0] w0 = some r :=
  callF_of_evFn (ann := g43_ann) Try.call43 (by kernel_rfl) ((g43_eq u0 w0).trans h)

end Go.Proofs.Ytniibeofggdfoaa
