/-
  WalF0: lemmas on what Go functions of this seat come to (for whatever arguments, as each says). No condition but those that stand in each lemma.
-/
import Derived.Test.YtnflklkjjjlpaaaLb8
import Derived.Test.YtnflklkjjjlpaaaProg
namespace Go.Proofs.Ytnflklkjjjlpaaa
open Go Go.Ev
set_option maxRecDepth 100000
set_option linter.unusedVariables false
/-! 9: penstock/disk.New () -/
def g9_ann : List (List Nat × List Nat) := []

noncomputable def g9  (w0 : World) : Option (Value × World) :=
some (.pointer (some (⟨(World.alloc w0 (.map #[] 0)).heap.size, 0, none⟩)), (World.alloc (World.alloc w0 (.map #[] 0)) (.cells #[.map (some w0.heap.size), .int .i64 (-1), .bool false, .int .i64 0] 60)))

theorem g9_eq  (w0 : World) : evFn Try.prog 9 g9_ann #[] w0 = g9 w0 := by kernel_rfl

theorem g9_call  {w0 : World} {r : Value × World} (h : g9 w0 = some r) : callF Try.prog 9 #[] w0 = some r :=
  callF_of_evFn (ann := g9_ann) Try.call9 (by kernel_rfl) ((g9_eq  w0).trans h)

/-! 13: penstock/penstockref04.DocEncode (p: []uint8) -/
def g13_ann : List (List Nat × List Nat) := []

noncomputable def g13 (u0 : Option Addr × Nat × Nat) (w0 : World) : Option (Value × World) :=
if (decide (((u0.2.1 : Int) : Int) > 4096)) = true then
(some (.tuple #[.slice none 0 0, .int .i64 2], w0))
else
((callF Try.prog 33 #[.int .u32 (IntKind.u32.wrap (u0.2.1 : Int))] w0).bind fun r3 =>
(asSl r3.1).bind fun q4 =>
(callF Try.prog 34 #[.int .u32 0, .slice u0.1 u0.2.1 u0.2.2] r3.2).bind fun r5 =>
(asI .u32 r5.1).bind fun n6 =>
(callF Try.prog 33 #[.int .u32 n6] r5.2).bind fun r7 =>
(asSl r7.1).bind fun q8 =>
(callB Try.prog .append #[31, 31] 31 #[false, false] #[.slice q4.1 q4.2.1 q4.2.2, .slice q8.1 q8.2.1 q8.2.2] r7.2).bind fun r9 =>
(asSl r9.1).bind fun q10 =>
(callB Try.prog .append #[31, 31] 31 #[false, false] #[.slice q10.1 q10.2.1 q10.2.2, .slice u0.1 u0.2.1 u0.2.2] r9.2).bind fun r11 =>
(asSl r11.1).bind fun q12 =>
some (.tuple #[.slice q12.1 q12.2.1 q12.2.2, .int .i64 0], r11.2))

theorem g13_eq (u0 : Option Addr × Nat × Nat) (w0 : World) : evFn Try.prog 13 g13_ann #[.slice u0.1 u0.2.1 u0.2.2] w0 = g13 u0 w0 := by kernel_rfl

theorem g13_call {u0 : Option Addr × Nat × Nat} {w0 : World} {r : Value × World} (h : g13 u0 w0 = some r) : callF Try.prog 13 #[.slice u0.1 u0.2.1 u0.2.2] w0 = some r :=
  callF_of_evFn (ann := g13_ann) Try.call13 (by kernel_rfl) ((g13_eq u0 w0).trans h)

/-! 15: (*penstock/disk.Disk).Read (d: *disk.Disk, name: string) -/
def g15_ann : List (List Nat × List Nat) := []

noncomputable def g15 (u0 : Option Addr) (u1 : ByteArray) (w0 : World) : Option (Value × World) :=
(callF Try.prog 36 #[.pointer u0, .string u1] w0).bind fun r1 =>
(asTup 2 r1.1).bind fun l2 =>
(asP (l2.getD 0 undef)).bind fun p3 =>
(asI .i64 (l2.getD 1 undef)).bind fun n4 =>
if ((n4 : Int) != 0) = true then
(some (.tuple #[.slice none 0 0, .int .i64 n4], r1.2))
else
(p3.bind fun a5 =>
(World.cell? r1.2 a5).bind fun v6 =>
(asSl v6).bind fun q7 =>
(callB Try.prog .append #[31, 31] 31 #[true, false] #[.slice none 0 0, .slice q7.1 q7.2.1 q7.2.2] r1.2).bind fun r8 =>
(asSl r8.1).bind fun q9 =>
some (.tuple #[.slice q9.1 q9.2.1 q9.2.2, .int .i64 0], r8.2))

theorem g15_eq (u0 : Option Addr) (u1 : ByteArray) (w0 : World) : evFn Try.prog 15 g15_ann #[.pointer u0, .string u1] w0 = g15 u0 u1 w0 := by kernel_rfl

theorem g15_call {u0 : Option Addr} {u1 : ByteArray} {w0 : World} {r : Value × World} (h : g15 u0 u1 w0 = some r) : callF Try.prog 15 #[.pointer u0, .string u1] w0 = some r :=
  callF_of_evFn (ann := g15_ann) Try.call15 (by kernel_rfl) ((g15_eq u0 u1 w0).trans h)

/-! 16: penstock/penstockref03.Same (a: []uint8, b: []uint8) -/
def g16_ann : List (List Nat × List Nat) := [([0, 1, 0, 1, 1], [0, 1, 4, 5])]

def g16_l3_cs (u0 : Option Addr × Nat × Nat) (u1 : Option Addr × Nat × Nat) : List (Nat × Value) := ([(0, .slice u0.1 u0.2.1 u0.2.2), (1, .slice u1.1 u1.2.1 u1.2.2)] : List (Nat × Value))

/-- the round of a loop (penstock/penstockref03.Same) -/
noncomputable def g16_l3_b (u0 : Option Addr × Nat × Nat) (u1 : Option Addr × Nat × Nat) (s4 : Bool × Int) (w5 : World) : Option (Exit × (Bool × Int) × World) :=
if (decide ((s4.2 : Int) < (u0.2.1 : Int))) = true then
((idxA u0.1 u0.2.1 1 s4.2).bind fun a7 =>
(World.cell? (World.drew w5) a7).bind fun v8 =>
(asI .u8 v8).bind fun n9 =>
(idxA u1.1 u1.2.1 1 s4.2).bind fun a10 =>
(World.cell? (World.drew w5) a10).bind fun v11 =>
(asI .u8 v11).bind fun n12 =>
if ((n9 : Int) != n12) = true then
(some (.ret, (false, s4.2), (World.drew w5)))
else
(some (.normal, (s4.1, (IntKind.i64.wrap (s4.2 + 1))), (World.drew w5))))
else
(some ((.exit 0), (s4.1, s4.2), w5))

noncomputable def g16_K13  : Exit → Env → World → Option (Value × World) :=
  retK Try.prog Try.f16.results.toList

noncomputable def g16_K14  : Exit → Env → World → Option (Value × World) :=
  seqK (ev Try.prog 26 16 g16_ann (cAt [1, 1, 1] (bodyOf Try.f16)) [1, 1, 1] g16_K13) g16_K13

noncomputable def g16_K15  : Exit → Env → World → Option (Value × World) :=
  blkK 0 g16_K14

/-- the loop, from a state on -/
noncomputable def g16_l3 (u0 : Option Addr × Nat × Nat) (u1 : Option Addr × Nat × Nat) (s : Bool × Int) (w : World) : Option (Value × World) :=
  loopM Try.prog 26 16 g16_ann (cAt [1, 1, 0, 1, 0, 0] (bodyOf Try.f16)) [0, 1, 0, 1, 1] g16_K15 ((g16_l3_cs u0 u1) ++ sputs [(4, .b), (5, .i .i64)] s) w

/-- behind the loop, left by x0 -/
noncomputable def g16_l3_x0  (t16 : Bool × Int) (w17 : World) : Option (Value × World) :=
some (.bool true, w17)

/-- behind the loop, left by ret -/
noncomputable def g16_l3_ret  (t18 : Bool × Int) (w19 : World) : Option (Value × World) :=
some (.bool t18.1, w19)

noncomputable def g16 (u0 : Option Addr × Nat × Nat) (u1 : Option Addr × Nat × Nat) (w0 : World) : Option (Value × World) :=
if (((u0.2.1 : Int) : Int) != (u1.2.1 : Int)) = true then
(some (.bool false, w0))
else
(g16_l3 u0 u1 (false, 0) w0)

theorem g16_eq (u0 : Option Addr × Nat × Nat) (u1 : Option Addr × Nat × Nat) (w0 : World) : evFn Try.prog 16 g16_ann #[.slice u0.1 u0.2.1 u0.2.2, .slice u1.1 u1.2.1 u1.2.2] w0 = g16 u0 u1 w0 := by kernel_rfl

theorem g16_call {u0 : Option Addr × Nat × Nat} {u1 : Option Addr × Nat × Nat} {w0 : World} {r : Value × World} (h : g16 u0 u1 w0 = some r) : callF Try.prog 16 #[.slice u0.1 u0.2.1 u0.2.2, .slice u1.1 u1.2.1 u1.2.2] w0 = some r :=
  callF_of_evFn (ann := g16_ann) Try.call16 (by kernel_rfl) ((g16_eq u0 u1 w0).trans h)

theorem g16_l3_x0_of {u0 : Option Addr × Nat × Nat} {u1 : Option Addr × Nat × Nat} {s t : Bool × Int} {w w' : World} (h : loopS (g16_l3_b u0 u1) s w = some (.exit 0, t, w')) : g16_l3 u0 u1 s w = g16_l3_x0 t w' := by
  have h1 : g16_l3 u0 u1 s w = loopM Try.prog 26 16 g16_ann (cAt [1, 1, 0, 1, 0, 0] (bodyOf Try.f16)) [0, 1, 0, 1, 1] g16_K15 ((g16_l3_cs u0 u1) ++ sputs [(4, .b), (5, .i .i64)] s) w := by kernel_rfl
  have h2 : loopM Try.prog 26 16 g16_ann (cAt [1, 1, 0, 1, 0, 0] (bodyOf Try.f16)) [0, 1, 0, 1, 1] g16_K15 ((g16_l3_cs u0 u1) ++ sputs [(4, .b), (5, .i .i64)] s) w = g16_K15 (.exit 0) (puts 26 ((g16_l3_cs u0 u1) ++ sputs [(4, .b), (5, .i .i64)] t)) w' :=
    loop_rule (P := Try.prog) (N := 26) (f := 16) (ann := g16_ann) (body := (cAt [1, 1, 0, 1, 0, 0] (bodyOf Try.f16))) (pt := [0, 1, 0, 1, 1]) (K := g16_K15) (g16_l3_cs u0 u1) [(4, .b), (5, .i .i64)] (b := g16_l3_b u0 u1) (fun s w => by kernel_rfl) (by kernel_rfl) (by kernel_rfl) (by kernel_rfl) h
  have h3 : g16_K15 (.exit 0) (puts 26 ((g16_l3_cs u0 u1) ++ sputs [(4, .b), (5, .i .i64)] t)) w' = g16_l3_x0 t w' := by kernel_rfl
  exact h1.trans (h2.trans h3)

theorem g16_l3_ret_of {u0 : Option Addr × Nat × Nat} {u1 : Option Addr × Nat × Nat} {s t : Bool × Int} {w w' : World} (h : loopS (g16_l3_b u0 u1) s w = some (.ret, t, w')) : g16_l3 u0 u1 s w = g16_l3_ret t w' := by
  have h1 : g16_l3 u0 u1 s w = loopM Try.prog 26 16 g16_ann (cAt [1, 1, 0, 1, 0, 0] (bodyOf Try.f16)) [0, 1, 0, 1, 1] g16_K15 ((g16_l3_cs u0 u1) ++ sputs [(4, .b), (5, .i .i64)] s) w := by kernel_rfl
  have h2 : loopM Try.prog 26 16 g16_ann (cAt [1, 1, 0, 1, 0, 0] (bodyOf Try.f16)) [0, 1, 0, 1, 1] g16_K15 ((g16_l3_cs u0 u1) ++ sputs [(4, .b), (5, .i .i64)] s) w = g16_K15 (.ret) (puts 26 ((g16_l3_cs u0 u1) ++ sputs [(4, .b), (5, .i .i64)] t)) w' :=
    loop_rule (P := Try.prog) (N := 26) (f := 16) (ann := g16_ann) (body := (cAt [1, 1, 0, 1, 0, 0] (bodyOf Try.f16))) (pt := [0, 1, 0, 1, 1]) (K := g16_K15) (g16_l3_cs u0 u1) [(4, .b), (5, .i .i64)] (b := g16_l3_b u0 u1) (fun s w => by kernel_rfl) (by kernel_rfl) (by kernel_rfl) (by kernel_rfl) h
  have h3 : g16_K15 (.ret) (puts 26 ((g16_l3_cs u0 u1) ++ sputs [(4, .b), (5, .i .i64)] t)) w' = g16_l3_ret t w' := by kernel_rfl
  exact h1.trans (h2.trans h3)

/-! 17: penstock/penstockref04.SameList (a: [][]uint8, b: [][]uint8) -/
def g17_ann : List (List Nat × List Nat) := [([0, 1, 0, 1, 1], [0, 1, 4, 5])]

def g17_l3_cs (u0 : Option Addr × Nat × Nat) (u1 : Option Addr × Nat × Nat) : List (Nat × Value) := ([(0, .slice u0.1 u0.2.1 u0.2.2), (1, .slice u1.1 u1.2.1 u1.2.2)] : List (Nat × Value))

/-- the round of a loop (penstock/penstockref04.SameList) -/
noncomputable def g17_l3_b (u0 : Option Addr × Nat × Nat) (u1 : Option Addr × Nat × Nat) (s4 : Bool × Int) (w5 : World) : Option (Exit × (Bool × Int) × World) :=
if (decide ((s4.2 : Int) < (u0.2.1 : Int))) = true then
((idxA u0.1 u0.2.1 1 s4.2).bind fun a7 =>
(World.cell? (World.drew w5) a7).bind fun v8 =>
(asSl v8).bind fun q9 =>
(idxA u1.1 u1.2.1 1 s4.2).bind fun a10 =>
(World.cell? (World.drew w5) a10).bind fun v11 =>
(asSl v11).bind fun q12 =>
(callF Try.prog 16 #[.slice q9.1 q9.2.1 q9.2.2, .slice q12.1 q12.2.1 q12.2.2] (World.drew w5)).bind fun r13 =>
(asB r13.1).bind fun b14 =>
if (!b14) = true then
(some (.ret, (false, s4.2), r13.2))
else
(some (.normal, (s4.1, (IntKind.i64.wrap (s4.2 + 1))), r13.2)))
else
(some ((.exit 0), (s4.1, s4.2), w5))

noncomputable def g17_K15  : Exit → Env → World → Option (Value × World) :=
  retK Try.prog Try.f17.results.toList

noncomputable def g17_K16  : Exit → Env → World → Option (Value × World) :=
  seqK (ev Try.prog 27 17 g17_ann (cAt [1, 1, 1] (bodyOf Try.f17)) [1, 1, 1] g17_K15) g17_K15

noncomputable def g17_K17  : Exit → Env → World → Option (Value × World) :=
  blkK 0 g17_K16

/-- the loop, from a state on -/
noncomputable def g17_l3 (u0 : Option Addr × Nat × Nat) (u1 : Option Addr × Nat × Nat) (s : Bool × Int) (w : World) : Option (Value × World) :=
  loopM Try.prog 27 17 g17_ann (cAt [1, 1, 0, 1, 0, 0] (bodyOf Try.f17)) [0, 1, 0, 1, 1] g17_K17 ((g17_l3_cs u0 u1) ++ sputs [(4, .b), (5, .i .i64)] s) w

/-- behind the loop, left by x0 -/
noncomputable def g17_l3_x0  (t18 : Bool × Int) (w19 : World) : Option (Value × World) :=
some (.bool true, w19)

/-- behind the loop, left by ret -/
noncomputable def g17_l3_ret  (t20 : Bool × Int) (w21 : World) : Option (Value × World) :=
some (.bool t20.1, w21)

noncomputable def g17 (u0 : Option Addr × Nat × Nat) (u1 : Option Addr × Nat × Nat) (w0 : World) : Option (Value × World) :=
if (((u0.2.1 : Int) : Int) != (u1.2.1 : Int)) = true then
(some (.bool false, w0))
else
(g17_l3 u0 u1 (false, 0) w0)

theorem g17_eq (u0 : Option Addr × Nat × Nat) (u1 : Option Addr × Nat × Nat) (w0 : World) : evFn Try.prog 17 g17_ann #[.slice u0.1 u0.2.1 u0.2.2, .slice u1.1 u1.2.1 u1.2.2] w0 = g17 u0 u1 w0 := by kernel_rfl

theorem g17_call {u0 : Option Addr × Nat × Nat} {u1 : Option Addr × Nat × Nat} {w0 : World} {r : Value × World} (h : g17 u0 u1 w0 = some r) : callF Try.prog 17 #[.slice u0.1 u0.2.1 u0.2.2, .slice u1.1 u1.2.1 u1.2.2] w0 = some r :=
  callF_of_evFn (ann := g17_ann) Try.call17 (by kernel_rfl) ((g17_eq u0 u1 w0).trans h)

theorem g17_l3_x0_of {u0 : Option Addr × Nat × Nat} {u1 : Option Addr × Nat × Nat} {s t : Bool × Int} {w w' : World} (h : loopS (g17_l3_b u0 u1) s w = some (.exit 0, t, w')) : g17_l3 u0 u1 s w = g17_l3_x0 t w' := by
  have h1 : g17_l3 u0 u1 s w = loopM Try.prog 27 17 g17_ann (cAt [1, 1, 0, 1, 0, 0] (bodyOf Try.f17)) [0, 1, 0, 1, 1] g17_K17 ((g17_l3_cs u0 u1) ++ sputs [(4, .b), (5, .i .i64)] s) w := by kernel_rfl
  have h2 : loopM Try.prog 27 17 g17_ann (cAt [1, 1, 0, 1, 0, 0] (bodyOf Try.f17)) [0, 1, 0, 1, 1] g17_K17 ((g17_l3_cs u0 u1) ++ sputs [(4, .b), (5, .i .i64)] s) w = g17_K17 (.exit 0) (puts 27 ((g17_l3_cs u0 u1) ++ sputs [(4, .b), (5, .i .i64)] t)) w' :=
    loop_rule (P := Try.prog) (N := 27) (f := 17) (ann := g17_ann) (body := (cAt [1, 1, 0, 1, 0, 0] (bodyOf Try.f17))) (pt := [0, 1, 0, 1, 1]) (K := g17_K17) (g17_l3_cs u0 u1) [(4, .b), (5, .i .i64)] (b := g17_l3_b u0 u1) (fun s w => by kernel_rfl) (by kernel_rfl) (by kernel_rfl) (by kernel_rfl) h
  have h3 : g17_K17 (.exit 0) (puts 27 ((g17_l3_cs u0 u1) ++ sputs [(4, .b), (5, .i .i64)] t)) w' = g17_l3_x0 t w' := by kernel_rfl
  exact h1.trans (h2.trans h3)

theorem g17_l3_ret_of {u0 : Option Addr × Nat × Nat} {u1 : Option Addr × Nat × Nat} {s t : Bool × Int} {w w' : World} (h : loopS (g17_l3_b u0 u1) s w = some (.ret, t, w')) : g17_l3 u0 u1 s w = g17_l3_ret t w' := by
  have h1 : g17_l3 u0 u1 s w = loopM Try.prog 27 17 g17_ann (cAt [1, 1, 0, 1, 0, 0] (bodyOf Try.f17)) [0, 1, 0, 1, 1] g17_K17 ((g17_l3_cs u0 u1) ++ sputs [(4, .b), (5, .i .i64)] s) w := by kernel_rfl
  have h2 : loopM Try.prog 27 17 g17_ann (cAt [1, 1, 0, 1, 0, 0] (bodyOf Try.f17)) [0, 1, 0, 1, 1] g17_K17 ((g17_l3_cs u0 u1) ++ sputs [(4, .b), (5, .i .i64)] s) w = g17_K17 (.ret) (puts 27 ((g17_l3_cs u0 u1) ++ sputs [(4, .b), (5, .i .i64)] t)) w' :=
    loop_rule (P := Try.prog) (N := 27) (f := 17) (ann := g17_ann) (body := (cAt [1, 1, 0, 1, 0, 0] (bodyOf Try.f17))) (pt := [0, 1, 0, 1, 1]) (K := g17_K17) (g17_l3_cs u0 u1) [(4, .b), (5, .i .i64)] (b := g17_l3_b u0 u1) (fun s w => by kernel_rfl) (by kernel_rfl) (by kernel_rfl) (by kernel_rfl) h
  have h3 : g17_K17 (.ret) (puts 27 ((g17_l3_cs u0 u1) ++ sputs [(4, .b), (5, .i .i64)] t)) w' = g17_l3_ret t w' := by kernel_rfl
  exact h1.trans (h2.trans h3)

/-! 19: (*penstock/disk.Disk).Append (d: *disk.Disk, name: string, b: []uint8) -/
def g19_ann : List (List Nat × List Nat) := []

noncomputable def g19_j30 (x27 : Option Addr) (u2 : Option Addr × Nat × Nat) (u0 : Option Addr) (x43 : Int) (w44 : World) : Option (Value × World) :=
x27.bind fun a45 =>
(World.cell? (World.drew w44) a45).bind fun v46 =>
(asSl v46).bind fun q47 =>
(slc u2.1 u2.2.1 u2.2.2 1 none (some x43) none).bind fun q48 =>
(callB Try.prog .append #[31, 31] 31 #[false, false] #[.slice q47.1 q47.2.1 q47.2.2, .slice q48.1 q48.2.1 q48.2.2] (World.drew w44)).bind fun r49 =>
(asSl r49.1).bind fun q50 =>
x27.bind fun a51 =>
(st1 r49.2 a51 (.slice q50.1 q50.2.1 q50.2.2)).bind fun w52 =>
u0.bind fun a53 =>
(World.cell? w52 (Addr.add a53 3)).bind fun v54 =>
(asI .i64 v54).bind fun n55 =>
u0.bind fun a56 =>
(st1 w52 (Addr.add a56 3) (.int .i64 (IntKind.i64.wrap (n55 + x43)))).bind fun w57 =>
if (decide ((x43 : Int) < (u2.2.1 : Int))) = true then
(u0.bind fun a59 =>
(st1 w57 (Addr.add a59 2) (.bool true)).bind fun w60 =>
some (.int .i64 9, w60))
else
(some (.int .i64 0, w57))

noncomputable def g19_j8 (u0 : Option Addr) (u2 : Option Addr × Nat × Nat) (x27 : Option Addr) (w28 : World) : Option (Value × World) :=
u0.bind fun a31 =>
(World.cell? w28 (Addr.add a31 1)).bind fun v32 =>
(asI .i64 v32).bind fun n33 =>
if (decide ((n33 : Int) ≥ 0)) = true then
(u0.bind fun a34 =>
(World.cell? w28 (Addr.add a34 1)).bind fun v35 =>
(asI .i64 v35).bind fun n36 =>
u0.bind fun a38 =>
(World.cell? w28 (Addr.add a38 1)).bind fun v39 =>
(asI .i64 v39).bind fun n40 =>
u0.bind fun a41 =>
(st1 w28 (Addr.add a41 1) (.int .i64 (IntKind.i64.wrap (n40 - (if (n36 : Int) < (u2.2.1 : Int) then n36 else (u2.2.1 : Int)))))).bind fun w42 =>
g19_j30 x27 u2 u0 (if (n36 : Int) < (u2.2.1 : Int) then n36 else (u2.2.1 : Int)) w42)
else
(g19_j30 x27 u2 u0 (u2.2.1 : Int) w28)

noncomputable def g19 (u0 : Option Addr) (u1 : ByteArray) (u2 : Option Addr × Nat × Nat) (w0 : World) : Option (Value × World) :=
(callF Try.prog 37 #[.pointer u0] w0).bind fun r1 =>
(asI .i64 r1.1).bind fun n2 =>
if ((n2 : Int) != 0) = true then
(some (.int .i64 n2, r1.2))
else
(u0.bind fun a3 =>
(World.cell? r1.2 a3).bind fun v4 =>
(asM v4).bind fun m5 =>
(mLook .string r1.2 m5 (.string u1)).bind fun o6 =>
(asP (o6.getD (.pointer none))).bind fun p7 =>
if (u1.toList == (⟨#[]⟩ : ByteArray).toList) = true then
(some (.int .i64 1, r1.2))
else
(if (decide (((u1.size : Int) : Int) > 24)) = true then
(some (.int .i64 1, r1.2))
else
(u0.bind fun a11 =>
(World.cell? r1.2 (Addr.add a11 3)).bind fun v12 =>
(asI .i64 v12).bind fun n13 =>
if (decide (((u2.2.1 : Int) : Int) > (IntKind.i64.wrap (4194304 - n13)))) = true then
(some (.int .i64 3, r1.2))
else
(if (p7.isNone) = true then
(u0.bind fun a14 =>
(World.cell? r1.2 a14).bind fun v15 =>
(asM v15).bind fun m16 =>
(mLen r1.2 m16).bind fun n18 =>
if (((n18 : Int) : Int) == 4096) = true then
(some (.int .i64 3, r1.2))
else
(if (p7.isNone) = true then
(u0.bind fun a19 =>
(World.cell? (World.alloc r1.2 (.cells #[.slice none 0 0, .int .i64 0] 76)) a19).bind fun v20 =>
(asM v20).bind fun m21 =>
(mUpd .string (World.alloc r1.2 (.cells #[.slice none 0 0, .int .i64 0] 76)) m21 (.string u1) (.pointer (some (⟨r1.2.heap.size, 0, none⟩)))).bind fun w22 =>
g19_j8 u0 u2 (some (⟨r1.2.heap.size, 0, none⟩)) w22)
else
(g19_j8 u0 u2 p7 r1.2)))
else
(if (p7.isNone) = true then
(u0.bind fun a23 =>
(World.cell? (World.alloc r1.2 (.cells #[.slice none 0 0, .int .i64 0] 76)) a23).bind fun v24 =>
(asM v24).bind fun m25 =>
(mUpd .string (World.alloc r1.2 (.cells #[.slice none 0 0, .int .i64 0] 76)) m25 (.string u1) (.pointer (some (⟨r1.2.heap.size, 0, none⟩)))).bind fun w26 =>
g19_j8 u0 u2 (some (⟨r1.2.heap.size, 0, none⟩)) w26)
else
(g19_j8 u0 u2 p7 r1.2))))))

theorem g19_eq (u0 : Option Addr) (u1 : ByteArray) (u2 : Option Addr × Nat × Nat) (w0 : World) : evFn Try.prog 19 g19_ann #[.pointer u0, .string u1, .slice u2.1 u2.2.1 u2.2.2] w0 = g19 u0 u1 u2 w0 := by kernel_rfl

theorem g19_call {u0 : Option Addr} {u1 : ByteArray} {u2 : Option Addr × Nat × Nat} {w0 : World} {r : Value × World} (h : g19 u0 u1 u2 w0 = some r) : callF Try.prog 19 #[.pointer u0, .string u1, .slice u2.1 u2.2.1 u2.2.2] w0 = some r :=
  callF_of_evFn (ann := g19_ann) Try.call19 (by kernel_rfl) ((g19_eq u0 u1 u2 w0).trans h)

/-! 20: (*penstock/disk.Disk).Sync (d: *disk.Disk, name: string) -/
def g20_ann : List (List Nat × List Nat) := []

noncomputable def g20 (u0 : Option Addr) (u1 : ByteArray) (w0 : World) : Option (Value × World) :=
(callF Try.prog 36 #[.pointer u0, .string u1] w0).bind fun r1 =>
(asTup 2 r1.1).bind fun l2 =>
(asP (l2.getD 0 undef)).bind fun p3 =>
(asI .i64 (l2.getD 1 undef)).bind fun n4 =>
if ((n4 : Int) == 0) = true then
(p3.bind fun a5 =>
(World.cell? r1.2 a5).bind fun v6 =>
(asSl v6).bind fun q7 =>
p3.bind fun a9 =>
(st1 r1.2 (Addr.add a9 1) (.int .i64 (q7.2.1 : Int))).bind fun w10 =>
some (.int .i64 n4, w10))
else
(some (.int .i64 n4, r1.2))

theorem g20_eq (u0 : Option Addr) (u1 : ByteArray) (w0 : World) : evFn Try.prog 20 g20_ann #[.pointer u0, .string u1] w0 = g20 u0 u1 w0 := by kernel_rfl

theorem g20_call {u0 : Option Addr} {u1 : ByteArray} {w0 : World} {r : Value × World} (h : g20 u0 u1 w0 = some r) : callF Try.prog 20 #[.pointer u0, .string u1] w0 = some r :=
  callF_of_evFn (ann := g20_ann) Try.call20 (by kernel_rfl) ((g20_eq u0 u1 w0).trans h)

/-! 21: penstock/penstockref04.DocScan (b: []uint8) -/
def g21_ann : List (List Nat × List Nat) := [([0, 0, 1, 1, 1], [0, 2, 3, 4, 5, 6])]

def g21_l1_cs (u0 : Option Addr × Nat × Nat) : List (Nat × Value) := ([(0, .slice u0.1 u0.2.1 u0.2.2)] : List (Nat × Value))

/-- the round of a loop (penstock/penstockref04.DocScan) -/
noncomputable def g21_l1_b (u0 : Option Addr × Nat × Nat) (s2 : (Option Addr × Nat × Nat) × Int × Int × (Option Addr × Nat × Nat) × Int) (w3 : World) : Option (Exit × ((Option Addr × Nat × Nat) × Int × Int × (Option Addr × Nat × Nat) × Int) × World) :=
if (decide ((s2.2.2.2.2 : Int) < (u0.2.1 : Int))) = true then
((callF Try.prog 38 #[.slice u0.1 u0.2.1 u0.2.2, .int .i64 s2.2.2.2.2] w3).bind fun r5 =>
(asTup 3 r5.1).bind fun l6 =>
(asSl (l6.getD 0 undef)).bind fun q7 =>
(asI .i64 (l6.getD 1 undef)).bind fun n8 =>
(asI .i64 (l6.getD 2 undef)).bind fun n9 =>
if ((n9 : Int) != 0) = true then
(some (.ret, ((s2.2.2.2.1.1, s2.2.2.2.1.2.1, s2.2.2.2.1.2.2), s2.2.2.2.2, n9, (s2.2.2.2.1.1, s2.2.2.2.1.2.1, s2.2.2.2.1.2.2), s2.2.2.2.2), r5.2))
else
((callB Try.prog .append #[22, 22] 22 #[false, false] #[.slice s2.2.2.2.1.1 s2.2.2.2.1.2.1 s2.2.2.2.1.2.2, .slice (some (⟨r5.2.heap.size, 0, none⟩)) 1 1] (World.alloc r5.2 (.cells #[.slice q7.1 q7.2.1 q7.2.2] 31))).bind fun r10 =>
(asSl r10.1).bind fun q11 =>
some (.normal, ((s2.1.1, s2.1.2.1, s2.1.2.2), s2.2.1, s2.2.2.1, (q11.1, q11.2.1, q11.2.2), n8), r10.2)))
else
(some ((.exit 0), ((s2.1.1, s2.1.2.1, s2.1.2.2), s2.2.1, s2.2.2.1, (s2.2.2.2.1.1, s2.2.2.2.1.2.1, s2.2.2.2.1.2.2), s2.2.2.2.2), w3))

noncomputable def g21_K12  : Exit → Env → World → Option (Value × World) :=
  retK Try.prog Try.f21.results.toList

noncomputable def g21_K13  : Exit → Env → World → Option (Value × World) :=
  seqK (ev Try.prog 33 21 g21_ann (cAt [1, 1, 1, 1] (bodyOf Try.f21)) [1, 1, 1, 1] g21_K12) g21_K12

noncomputable def g21_K14  : Exit → Env → World → Option (Value × World) :=
  blkK 0 g21_K13

/-- the loop, from a state on -/
noncomputable def g21_l1 (u0 : Option Addr × Nat × Nat) (s : (Option Addr × Nat × Nat) × Int × Int × (Option Addr × Nat × Nat) × Int) (w : World) : Option (Value × World) :=
  loopM Try.prog 33 21 g21_ann (cAt [1, 1, 1, 0, 0, 0] (bodyOf Try.f21)) [0, 0, 1, 1, 1] g21_K14 ((g21_l1_cs u0) ++ sputs [(2, .sl), (3, .i .i64), (4, .i .i64), (5, .sl), (6, .i .i64)] s) w

/-- behind the loop, left by x0 -/
noncomputable def g21_l1_x0  (t15 : (Option Addr × Nat × Nat) × Int × Int × (Option Addr × Nat × Nat) × Int) (w16 : World) : Option (Value × World) :=
some (.tuple #[.slice t15.2.2.2.1.1 t15.2.2.2.1.2.1 t15.2.2.2.1.2.2, .int .i64 t15.2.2.2.2, .int .i64 0], w16)

/-- behind the loop, left by ret -/
noncomputable def g21_l1_ret  (t17 : (Option Addr × Nat × Nat) × Int × Int × (Option Addr × Nat × Nat) × Int) (w18 : World) : Option (Value × World) :=
some (.tuple #[.slice t17.1.1 t17.1.2.1 t17.1.2.2, .int .i64 t17.2.1, .int .i64 t17.2.2.1], w18)

noncomputable def g21 (u0 : Option Addr × Nat × Nat) (w0 : World) : Option (Value × World) :=
g21_l1 u0 ((none, 0, 0), 0, 0, (none, 0, 0), 0) w0

theorem g21_eq (u0 : Option Addr × Nat × Nat) (w0 : World) : evFn Try.prog 21 g21_ann #[.slice u0.1 u0.2.1 u0.2.2] w0 = g21 u0 w0 := by kernel_rfl

theorem g21_call {u0 : Option Addr × Nat × Nat} {w0 : World} {r : Value × World} (h : g21 u0 w0 = some r) : callF Try.prog 21 #[.slice u0.1 u0.2.1 u0.2.2] w0 = some r :=
  callF_of_evFn (ann := g21_ann) Try.call21 (by kernel_rfl) ((g21_eq u0 w0).trans h)

theorem g21_l1_x0_of {u0 : Option Addr × Nat × Nat} {s t : (Option Addr × Nat × Nat) × Int × Int × (Option Addr × Nat × Nat) × Int} {w w' : World} (h : loopS (g21_l1_b u0) s w = some (.exit 0, t, w')) : g21_l1 u0 s w = g21_l1_x0 t w' := by
  have h1 : g21_l1 u0 s w = loopM Try.prog 33 21 g21_ann (cAt [1, 1, 1, 0, 0, 0] (bodyOf Try.f21)) [0, 0, 1, 1, 1] g21_K14 ((g21_l1_cs u0) ++ sputs [(2, .sl), (3, .i .i64), (4, .i .i64), (5, .sl), (6, .i .i64)] s) w := by kernel_rfl
  have h2 : loopM Try.prog 33 21 g21_ann (cAt [1, 1, 1, 0, 0, 0] (bodyOf Try.f21)) [0, 0, 1, 1, 1] g21_K14 ((g21_l1_cs u0) ++ sputs [(2, .sl), (3, .i .i64), (4, .i .i64), (5, .sl), (6, .i .i64)] s) w = g21_K14 (.exit 0) (puts 33 ((g21_l1_cs u0) ++ sputs [(2, .sl), (3, .i .i64), (4, .i .i64), (5, .sl), (6, .i .i64)] t)) w' :=
    loop_rule (P := Try.prog) (N := 33) (f := 21) (ann := g21_ann) (body := (cAt [1, 1, 1, 0, 0, 0] (bodyOf Try.f21))) (pt := [0, 0, 1, 1, 1]) (K := g21_K14) (g21_l1_cs u0) [(2, .sl), (3, .i .i64), (4, .i .i64), (5, .sl), (6, .i .i64)] (b := g21_l1_b u0) (fun s w => by kernel_rfl) (by kernel_rfl) (by kernel_rfl) (by kernel_rfl) h
  have h3 : g21_K14 (.exit 0) (puts 33 ((g21_l1_cs u0) ++ sputs [(2, .sl), (3, .i .i64), (4, .i .i64), (5, .sl), (6, .i .i64)] t)) w' = g21_l1_x0 t w' := by kernel_rfl
  exact h1.trans (h2.trans h3)

theorem g21_l1_ret_of {u0 : Option Addr × Nat × Nat} {s t : (Option Addr × Nat × Nat) × Int × Int × (Option Addr × Nat × Nat) × Int} {w w' : World} (h : loopS (g21_l1_b u0) s w = some (.ret, t, w')) : g21_l1 u0 s w = g21_l1_ret t w' := by
  have h1 : g21_l1 u0 s w = loopM Try.prog 33 21 g21_ann (cAt [1, 1, 1, 0, 0, 0] (bodyOf Try.f21)) [0, 0, 1, 1, 1] g21_K14 ((g21_l1_cs u0) ++ sputs [(2, .sl), (3, .i .i64), (4, .i .i64), (5, .sl), (6, .i .i64)] s) w := by kernel_rfl
  have h2 : loopM Try.prog 33 21 g21_ann (cAt [1, 1, 1, 0, 0, 0] (bodyOf Try.f21)) [0, 0, 1, 1, 1] g21_K14 ((g21_l1_cs u0) ++ sputs [(2, .sl), (3, .i .i64), (4, .i .i64), (5, .sl), (6, .i .i64)] s) w = g21_K14 (.ret) (puts 33 ((g21_l1_cs u0) ++ sputs [(2, .sl), (3, .i .i64), (4, .i .i64), (5, .sl), (6, .i .i64)] t)) w' :=
    loop_rule (P := Try.prog) (N := 33) (f := 21) (ann := g21_ann) (body := (cAt [1, 1, 1, 0, 0, 0] (bodyOf Try.f21))) (pt := [0, 0, 1, 1, 1]) (K := g21_K14) (g21_l1_cs u0) [(2, .sl), (3, .i .i64), (4, .i .i64), (5, .sl), (6, .i .i64)] (b := g21_l1_b u0) (fun s w => by kernel_rfl) (by kernel_rfl) (by kernel_rfl) (by kernel_rfl) h
  have h3 : g21_K14 (.ret) (puts 33 ((g21_l1_cs u0) ++ sputs [(2, .sl), (3, .i .i64), (4, .i .i64), (5, .sl), (6, .i .i64)] t)) w' = g21_l1_ret t w' := by kernel_rfl
  exact h1.trans (h2.trans h3)

/-! 22: (*penstock/disk.Disk).Size (d: *disk.Disk, name: string) -/
def g22_ann : List (List Nat × List Nat) := []

noncomputable def g22 (u0 : Option Addr) (u1 : ByteArray) (w0 : World) : Option (Value × World) :=
(callF Try.prog 36 #[.pointer u0, .string u1] w0).bind fun r1 =>
(asTup 2 r1.1).bind fun l2 =>
(asP (l2.getD 0 undef)).bind fun p3 =>
(asI .i64 (l2.getD 1 undef)).bind fun n4 =>
if ((n4 : Int) != 0) = true then
(some (.tuple #[.int .i64 0, .int .i64 0, .int .i64 n4], r1.2))
else
(p3.bind fun a5 =>
(World.cell? (World.drew r1.2) a5).bind fun v6 =>
(asSl v6).bind fun q7 =>
p3.bind fun a9 =>
(World.cell? (World.drew r1.2) (Addr.add a9 1)).bind fun v10 =>
(asI .i64 v10).bind fun n11 =>
some (.tuple #[.int .i64 (q7.2.1 : Int), .int .i64 n11, .int .i64 0], (World.drew r1.2)))

theorem g22_eq (u0 : Option Addr) (u1 : ByteArray) (w0 : World) : evFn Try.prog 22 g22_ann #[.pointer u0, .string u1] w0 = g22 u0 u1 w0 := by kernel_rfl

theorem g22_call {u0 : Option Addr} {u1 : ByteArray} {w0 : World} {r : Value × World} (h : g22 u0 u1 w0 = some r) : callF Try.prog 22 #[.pointer u0, .string u1] w0 = some r :=
  callF_of_evFn (ann := g22_ann) Try.call22 (by kernel_rfl) ((g22_eq u0 u1 w0).trans h)

/-! 26: (*penstock/disk.Disk).Arm (d: *disk.Disk, n: int) -/
def g26_ann : List (List Nat × List Nat) := []

noncomputable def g26 (u0 : Option Addr) (u1 : Int) (w0 : World) : Option (Value × World) :=
if (!(u0.isNone)) = true then
(u0.bind fun a1 =>
(World.cell? w0 (Addr.add a1 2)).bind fun v2 =>
(asB v2).bind fun b3 =>
if (!b3) = true then
(u0.bind fun a5 =>
(st1 w0 (Addr.add a5 1) (.int .i64 (if ((-1) : Int) > u1 then (-1) else u1))).bind fun w6 =>
some (.tuple #[], w6))
else
(some (.tuple #[], w0)))
else
(some (.tuple #[], w0))

theorem g26_eq (u0 : Option Addr) (u1 : Int) (w0 : World) : evFn Try.prog 26 g26_ann #[.pointer u0, .int .i64 u1] w0 = g26 u0 u1 w0 := by kernel_rfl

theorem g26_call {u0 : Option Addr} {u1 : Int} {w0 : World} {r : Value × World} (h : g26 u0 u1 w0 = some r) : callF Try.prog 26 #[.pointer u0, .int .i64 u1] w0 = some r :=
  callF_of_evFn (ann := g26_ann) Try.call26 (by kernel_rfl) ((g26_eq u0 u1 w0).trans h)

/-! 27: (*penstock/disk.Disk).Crash (d: *disk.Disk, keep: int) -/
def g27_ann : List (List Nat × List Nat) := [([0, 1, 0, 1], [0, 1, 14])]

def g27_l6_cs (u0 : Option Addr) (u1 : Int) (p5 : Option Addr) : List (Nat × Value) := ([(0, .pointer u0), (1, .int .i64 u1), (14, .pointer p5)] : List (Nat × Value))

/-- the round of a loop ((*penstock/disk.Disk).Crash) -/
noncomputable def g27_l6_b (p5 : Option Addr) (u0 : Option Addr) (u1 : Int) (s7 : Unit) (w8 : World) : Option (Exit × (Unit) × World) :=
(semR Try.prog (Instr.next (.pointer p5) false 0) w8).bind fun r9 =>
(asNext r9.1).bind fun o10 =>
onNext o10 (some ((.exit 0), (), r9.2)) (fun k11 => fun v12 =>
(semR Try.prog (Instr.entry (.pointer p5)) r9.2).bind fun r13 =>
(asTup 2 r13.1).bind fun l14 =>
(asP (l14.getD 1 undef)).bind fun p15 =>
p15.bind fun a16 =>
(World.cell? (World.drew r13.2) a16).bind fun v17 =>
(asSl v17).bind fun q18 =>
p15.bind fun a20 =>
(World.cell? (World.drew r13.2) (Addr.add a20 1)).bind fun v21 =>
(asI .i64 v21).bind fun n22 =>
p15.bind fun a23 =>
(World.cell? (World.drew (World.drew r13.2)) (Addr.add a23 1)).bind fun v24 =>
(asI .i64 v24).bind fun n25 =>
if ((IntKind.u64.wrap (IntKind.i64.wrap ((IntKind.i64.wrap ((q18.2.1 : Int) - n22)) + 1))) : Int) = 0 then
(none)
else
(u0.bind fun a26 =>
(World.cell? (World.drew (World.drew (World.drew r13.2))) (Addr.add a26 3)).bind fun v27 =>
(asI .i64 v27).bind fun n28 =>
p15.bind fun a29 =>
(World.cell? (World.drew (World.drew (World.drew r13.2))) a29).bind fun v30 =>
(asSl v30).bind fun q31 =>
u0.bind fun a33 =>
(st1 (World.drew (World.drew (World.drew r13.2))) (Addr.add a33 3) (.int .i64 (IntKind.i64.wrap (n28 - (IntKind.i64.wrap ((q31.2.1 : Int) - (IntKind.i64.wrap (n25 + (IntKind.i64.wrap (Int.tmod (IntKind.u64.wrap u1) (IntKind.u64.wrap (IntKind.i64.wrap ((IntKind.i64.wrap ((q18.2.1 : Int) - n22)) + 1))))))))))))).bind fun w34 =>
p15.bind fun a35 =>
(World.cell? w34 a35).bind fun v36 =>
(asSl v36).bind fun q37 =>
(slc q37.1 q37.2.1 q37.2.2 1 none (some (IntKind.i64.wrap (n25 + (IntKind.i64.wrap (Int.tmod (IntKind.u64.wrap u1) (IntKind.u64.wrap (IntKind.i64.wrap ((IntKind.i64.wrap ((q18.2.1 : Int) - n22)) + 1)))))))) (some (IntKind.i64.wrap (n25 + (IntKind.i64.wrap (Int.tmod (IntKind.u64.wrap u1) (IntKind.u64.wrap (IntKind.i64.wrap ((IntKind.i64.wrap ((q18.2.1 : Int) - n22)) + 1))))))))).bind fun q38 =>
p15.bind fun a39 =>
(st1 w34 a39 (.slice q38.1 q38.2.1 q38.2.2)).bind fun w40 =>
p15.bind fun a41 =>
(st1 w40 (Addr.add a41 1) (.int .i64 (IntKind.i64.wrap (n25 + (IntKind.i64.wrap (Int.tmod (IntKind.u64.wrap u1) (IntKind.u64.wrap (IntKind.i64.wrap ((IntKind.i64.wrap ((q18.2.1 : Int) - n22)) + 1))))))))).bind fun w42 =>
some (.normal, (), w42)))

noncomputable def g27_K43  : Exit → Env → World → Option (Value × World) :=
  retK Try.prog Try.f27.results.toList

noncomputable def g27_K44  : Exit → Env → World → Option (Value × World) :=
  seqK (ev Try.prog 75 27 g27_ann (cAt [1, 1] (bodyOf Try.f27)) [1, 1] g27_K43) g27_K43

noncomputable def g27_K45  : Exit → Env → World → Option (Value × World) :=
  blkK 0 g27_K44

/-- the loop, from a state on -/
noncomputable def g27_l6 (u0 : Option Addr) (u1 : Int) (p5 : Option Addr) (s : Unit) (w : World) : Option (Value × World) :=
  loopM Try.prog 75 27 g27_ann (cAt [1, 0, 1, 0, 0] (bodyOf Try.f27)) [0, 1, 0, 1] g27_K45 ((g27_l6_cs u0 u1 p5) ++ sputs [] s) w

/-- behind the loop, left by x0 -/
noncomputable def g27_l6_x0 (u0 : Option Addr) (t46 : Unit) (w47 : World) : Option (Value × World) :=
u0.bind fun a48 =>
(st1 w47 (Addr.add a48 2) (.bool false)).bind fun w49 =>
u0.bind fun a50 =>
(st1 w49 (Addr.add a50 1) (.int .i64 (-1))).bind fun w51 =>
some (.tuple #[], w51)

noncomputable def g27 (u0 : Option Addr) (u1 : Int) (w0 : World) : Option (Value × World) :=
if (u0.isNone) = true then
(some (.tuple #[], w0))
else
(u0.bind fun a1 =>
(World.cell? w0 a1).bind fun v2 =>
(asM v2).bind fun m3 =>
(semR Try.prog (Instr.range 58 (.map m3)) w0).bind fun r4 =>
(asP r4.1).bind fun p5 =>
g27_l6 u0 u1 p5 () r4.2)

theorem g27_eq (u0 : Option Addr) (u1 : Int) (w0 : World) : evFn Try.prog 27 g27_ann #[.pointer u0, .int .i64 u1] w0 = g27 u0 u1 w0 := by kernel_rfl

theorem g27_call {u0 : Option Addr} {u1 : Int} {w0 : World} {r : Value × World} (h : g27 u0 u1 w0 = some r) : callF Try.prog 27 #[.pointer u0, .int .i64 u1] w0 = some r :=
  callF_of_evFn (ann := g27_ann) Try.call27 (by kernel_rfl) ((g27_eq u0 u1 w0).trans h)

theorem g27_l6_x0_of {u0 : Option Addr} {u1 : Int} {p5 : Option Addr} {s t : Unit} {w w' : World} (h : loopS (g27_l6_b p5 u0 u1) s w = some (.exit 0, t, w')) : g27_l6 u0 u1 p5 s w = g27_l6_x0 u0 t w' := by
  have h1 : g27_l6 u0 u1 p5 s w = loopM Try.prog 75 27 g27_ann (cAt [1, 0, 1, 0, 0] (bodyOf Try.f27)) [0, 1, 0, 1] g27_K45 ((g27_l6_cs u0 u1 p5) ++ sputs [] s) w := by kernel_rfl
  have h2 : loopM Try.prog 75 27 g27_ann (cAt [1, 0, 1, 0, 0] (bodyOf Try.f27)) [0, 1, 0, 1] g27_K45 ((g27_l6_cs u0 u1 p5) ++ sputs [] s) w = g27_K45 (.exit 0) (puts 75 ((g27_l6_cs u0 u1 p5) ++ sputs [] t)) w' :=
    loop_rule (P := Try.prog) (N := 75) (f := 27) (ann := g27_ann) (body := (cAt [1, 0, 1, 0, 0] (bodyOf Try.f27))) (pt := [0, 1, 0, 1]) (K := g27_K45) (g27_l6_cs u0 u1 p5) [] (b := g27_l6_b p5 u0 u1) (fun s w => by kernel_rfl) (by kernel_rfl) (by kernel_rfl) (by kernel_rfl) h
  have h3 : g27_K45 (.exit 0) (puts 75 ((g27_l6_cs u0 u1 p5) ++ sputs [] t)) w' = g27_l6_x0 u0 t w' := by kernel_rfl
  exact h1.trans (h2.trans h3)

/-! 28: (*penstock/disk.Disk).Dead (d: *disk.Disk) -/
def g28_ann : List (List Nat × List Nat) := []

noncomputable def g28 (u0 : Option Addr) (w0 : World) : Option (Value × World) :=
if (!(u0.isNone)) = true then
(u0.bind fun a1 =>
(World.cell? w0 (Addr.add a1 2)).bind fun v2 =>
(asB v2).bind fun b3 =>
some (.bool b3, w0))
else
(some (.bool false, w0))

theorem g28_eq (u0 : Option Addr) (w0 : World) : evFn Try.prog 28 g28_ann #[.pointer u0] w0 = g28 u0 w0 := by kernel_rfl

theorem g28_call {u0 : Option Addr} {w0 : World} {r : Value × World} (h : g28 u0 w0 = some r) : callF Try.prog 28 #[.pointer u0] w0 = some r :=
  callF_of_evFn (ann := g28_ann) Try.call28 (by kernel_rfl) ((g28_eq u0 w0).trans h)

/-! 30: penstock/frame.New () -/
def g30_ann : List (List Nat × List Nat) := []

noncomputable def g30  (w0 : World) : Option (Value × World) :=
(callF Try.prog 41 #[] w0).bind fun r1 =>
(asP r1.1).bind fun p2 =>
some (.pointer (some (⟨r1.2.heap.size, 0, none⟩)), (World.alloc r1.2 (.cells #[.pointer p2] 84)))

theorem g30_eq  (w0 : World) : evFn Try.prog 30 g30_ann #[] w0 = g30 w0 := by kernel_rfl

theorem g30_call  {w0 : World} {r : Value × World} (h : g30 w0 = some r) : callF Try.prog 30 #[] w0 = some r :=
  callF_of_evFn (ann := g30_ann) Try.call30 (by kernel_rfl) ((g30_eq  w0).trans h)

/-! 31: (*penstock/frame.Framer).Scan (f: *frame.Framer, b: []uint8) -/
def g31_ann : List (List Nat × List Nat) := [([0, 0, 1, 1, 1, 1], [0, 1, 4, 5, 6, 7, 8])]

def g31_l1_cs (u0 : Option Addr) (u1 : Option Addr × Nat × Nat) : List (Nat × Value) := ([(0, .pointer u0), (1, .slice u1.1 u1.2.1 u1.2.2)] : List (Nat × Value))

/-- the round of a loop ((*penstock/frame.Framer).Scan) -/
noncomputable def g31_l1_b (u1 : Option Addr × Nat × Nat) (u0 : Option Addr) (s2 : (Option Addr × Nat × Nat) × Int × Int × (Option Addr × Nat × Nat) × Int) (w3 : World) : Option (Exit × ((Option Addr × Nat × Nat) × Int × Int × (Option Addr × Nat × Nat) × Int) × World) :=
if (decide ((s2.2.2.2.2 : Int) < (u1.2.1 : Int))) = true then
((slc u1.1 u1.2.1 u1.2.2 1 (some s2.2.2.2.2) none none).bind fun q5 =>
(callF Try.prog 42 #[.pointer u0, .slice q5.1 q5.2.1 q5.2.2] w3).bind fun r6 =>
(asTup 3 r6.1).bind fun l7 =>
(asSl (l7.getD 0 undef)).bind fun q8 =>
(asI .i64 (l7.getD 1 undef)).bind fun n9 =>
(asI .i64 (l7.getD 2 undef)).bind fun n10 =>
if ((n10 : Int) != 0) = true then
(some (.ret, ((s2.2.2.2.1.1, s2.2.2.2.1.2.1, s2.2.2.2.1.2.2), s2.2.2.2.2, n10, (s2.2.2.2.1.1, s2.2.2.2.1.2.1, s2.2.2.2.1.2.2), s2.2.2.2.2), r6.2))
else
((callB Try.prog .append #[22, 22] 22 #[false, false] #[.slice s2.2.2.2.1.1 s2.2.2.2.1.2.1 s2.2.2.2.1.2.2, .slice (some (⟨r6.2.heap.size, 0, none⟩)) 1 1] (World.alloc r6.2 (.cells #[.slice q8.1 q8.2.1 q8.2.2] 31))).bind fun r11 =>
(asSl r11.1).bind fun q12 =>
some (.normal, ((s2.1.1, s2.1.2.1, s2.1.2.2), s2.2.1, s2.2.2.1, (q12.1, q12.2.1, q12.2.2), (IntKind.i64.wrap (s2.2.2.2.2 + n9))), r11.2)))
else
(some ((.exit 0), ((s2.1.1, s2.1.2.1, s2.1.2.2), s2.2.1, s2.2.2.1, (s2.2.2.2.1.1, s2.2.2.2.1.2.1, s2.2.2.2.1.2.2), s2.2.2.2.2), w3))

noncomputable def g31_K13  : Exit → Env → World → Option (Value × World) :=
  retK Try.prog Try.f31.results.toList

noncomputable def g31_K14  : Exit → Env → World → Option (Value × World) :=
  seqK (ev Try.prog 41 31 g31_ann (cAt [1, 1, 1, 1, 1] (bodyOf Try.f31)) [1, 1, 1, 1, 1] g31_K13) g31_K13

noncomputable def g31_K15  : Exit → Env → World → Option (Value × World) :=
  blkK 0 g31_K14

/-- the loop, from a state on -/
noncomputable def g31_l1 (u0 : Option Addr) (u1 : Option Addr × Nat × Nat) (s : (Option Addr × Nat × Nat) × Int × Int × (Option Addr × Nat × Nat) × Int) (w : World) : Option (Value × World) :=
  loopM Try.prog 41 31 g31_ann (cAt [1, 1, 1, 1, 0, 0, 0] (bodyOf Try.f31)) [0, 0, 1, 1, 1, 1] g31_K15 ((g31_l1_cs u0 u1) ++ sputs [(4, .sl), (5, .i .i64), (6, .i .i64), (7, .sl), (8, .i .i64)] s) w

/-- behind the loop, left by x0 -/
noncomputable def g31_l1_x0  (t16 : (Option Addr × Nat × Nat) × Int × Int × (Option Addr × Nat × Nat) × Int) (w17 : World) : Option (Value × World) :=
some (.tuple #[.slice t16.2.2.2.1.1 t16.2.2.2.1.2.1 t16.2.2.2.1.2.2, .int .i64 t16.2.2.2.2, .int .i64 0], w17)

/-- behind the loop, left by ret -/
noncomputable def g31_l1_ret  (t18 : (Option Addr × Nat × Nat) × Int × Int × (Option Addr × Nat × Nat) × Int) (w19 : World) : Option (Value × World) :=
some (.tuple #[.slice t18.1.1 t18.1.2.1 t18.1.2.2, .int .i64 t18.2.1, .int .i64 t18.2.2.1], w19)

noncomputable def g31 (u0 : Option Addr) (u1 : Option Addr × Nat × Nat) (w0 : World) : Option (Value × World) :=
if (u0.isNone) = true then
(some (.tuple #[.slice none 0 0, .int .i64 0, .int .i64 5], w0))
else
(g31_l1 u0 u1 ((none, 0, 0), 0, 0, (none, 0, 0), 0) w0)

theorem g31_eq (u0 : Option Addr) (u1 : Option Addr × Nat × Nat) (w0 : World) : evFn Try.prog 31 g31_ann #[.pointer u0, .slice u1.1 u1.2.1 u1.2.2] w0 = g31 u0 u1 w0 := by kernel_rfl

theorem g31_call {u0 : Option Addr} {u1 : Option Addr × Nat × Nat} {w0 : World} {r : Value × World} (h : g31 u0 u1 w0 = some r) : callF Try.prog 31 #[.pointer u0, .slice u1.1 u1.2.1 u1.2.2] w0 = some r :=
  callF_of_evFn (ann := g31_ann) Try.call31 (by kernel_rfl) ((g31_eq u0 u1 w0).trans h)

theorem g31_l1_x0_of {u0 : Option Addr} {u1 : Option Addr × Nat × Nat} {s t : (Option Addr × Nat × Nat) × Int × Int × (Option Addr × Nat × Nat) × Int} {w w' : World} (h : loopS (g31_l1_b u1 u0) s w = some (.exit 0, t, w')) : g31_l1 u0 u1 s w = g31_l1_x0 t w' := by
  have h1 : g31_l1 u0 u1 s w = loopM Try.prog 41 31 g31_ann (cAt [1, 1, 1, 1, 0, 0, 0] (bodyOf Try.f31)) [0, 0, 1, 1, 1, 1] g31_K15 ((g31_l1_cs u0 u1) ++ sputs [(4, .sl), (5, .i .i64), (6, .i .i64), (7, .sl), (8, .i .i64)] s) w := by kernel_rfl
  have h2 : loopM Try.prog 41 31 g31_ann (cAt [1, 1, 1, 1, 0, 0, 0] (bodyOf Try.f31)) [0, 0, 1, 1, 1, 1] g31_K15 ((g31_l1_cs u0 u1) ++ sputs [(4, .sl), (5, .i .i64), (6, .i .i64), (7, .sl), (8, .i .i64)] s) w = g31_K15 (.exit 0) (puts 41 ((g31_l1_cs u0 u1) ++ sputs [(4, .sl), (5, .i .i64), (6, .i .i64), (7, .sl), (8, .i .i64)] t)) w' :=
    loop_rule (P := Try.prog) (N := 41) (f := 31) (ann := g31_ann) (body := (cAt [1, 1, 1, 1, 0, 0, 0] (bodyOf Try.f31))) (pt := [0, 0, 1, 1, 1, 1]) (K := g31_K15) (g31_l1_cs u0 u1) [(4, .sl), (5, .i .i64), (6, .i .i64), (7, .sl), (8, .i .i64)] (b := g31_l1_b u1 u0) (fun s w => by kernel_rfl) (by kernel_rfl) (by kernel_rfl) (by kernel_rfl) h
  have h3 : g31_K15 (.exit 0) (puts 41 ((g31_l1_cs u0 u1) ++ sputs [(4, .sl), (5, .i .i64), (6, .i .i64), (7, .sl), (8, .i .i64)] t)) w' = g31_l1_x0 t w' := by kernel_rfl
  exact h1.trans (h2.trans h3)

theorem g31_l1_ret_of {u0 : Option Addr} {u1 : Option Addr × Nat × Nat} {s t : (Option Addr × Nat × Nat) × Int × Int × (Option Addr × Nat × Nat) × Int} {w w' : World} (h : loopS (g31_l1_b u1 u0) s w = some (.ret, t, w')) : g31_l1 u0 u1 s w = g31_l1_ret t w' := by
  have h1 : g31_l1 u0 u1 s w = loopM Try.prog 41 31 g31_ann (cAt [1, 1, 1, 1, 0, 0, 0] (bodyOf Try.f31)) [0, 0, 1, 1, 1, 1] g31_K15 ((g31_l1_cs u0 u1) ++ sputs [(4, .sl), (5, .i .i64), (6, .i .i64), (7, .sl), (8, .i .i64)] s) w := by kernel_rfl
  have h2 : loopM Try.prog 41 31 g31_ann (cAt [1, 1, 1, 1, 0, 0, 0] (bodyOf Try.f31)) [0, 0, 1, 1, 1, 1] g31_K15 ((g31_l1_cs u0 u1) ++ sputs [(4, .sl), (5, .i .i64), (6, .i .i64), (7, .sl), (8, .i .i64)] s) w = g31_K15 (.ret) (puts 41 ((g31_l1_cs u0 u1) ++ sputs [(4, .sl), (5, .i .i64), (6, .i .i64), (7, .sl), (8, .i .i64)] t)) w' :=
    loop_rule (P := Try.prog) (N := 41) (f := 31) (ann := g31_ann) (body := (cAt [1, 1, 1, 1, 0, 0, 0] (bodyOf Try.f31))) (pt := [0, 0, 1, 1, 1, 1]) (K := g31_K15) (g31_l1_cs u0 u1) [(4, .sl), (5, .i .i64), (6, .i .i64), (7, .sl), (8, .i .i64)] (b := g31_l1_b u1 u0) (fun s w => by kernel_rfl) (by kernel_rfl) (by kernel_rfl) (by kernel_rfl) h
  have h3 : g31_K15 (.ret) (puts 41 ((g31_l1_cs u0 u1) ++ sputs [(4, .sl), (5, .i .i64), (6, .i .i64), (7, .sl), (8, .i .i64)] t)) w' = g31_l1_ret t w' := by kernel_rfl
  exact h1.trans (h2.trans h3)

/-! 32: (*penstock/disk.Disk).Cut (d: *disk.Disk, name: string, n: int) -/
def g32_ann : List (List Nat × List Nat) := []

noncomputable def g32 (u0 : Option Addr) (u1 : ByteArray) (u2 : Int) (w0 : World) : Option (Value × World) :=
(callF Try.prog 36 #[.pointer u0, .string u1] w0).bind fun r1 =>
(asTup 2 r1.1).bind fun l2 =>
(asP (l2.getD 0 undef)).bind fun p3 =>
(asI .i64 (l2.getD 1 undef)).bind fun n4 =>
if ((n4 : Int) != 0) = true then
(some (.int .i64 n4, r1.2))
else
(if (decide ((u2 : Int) < 0)) = true then
(some (.int .i64 1, r1.2))
else
(p3.bind fun a5 =>
(World.cell? r1.2 a5).bind fun v6 =>
(asSl v6).bind fun q7 =>
if (decide ((u2 : Int) > (q7.2.1 : Int))) = true then
(some (.int .i64 1, r1.2))
else
(u0.bind fun a9 =>
(World.cell? (World.drew r1.2) (Addr.add a9 3)).bind fun v10 =>
(asI .i64 v10).bind fun n11 =>
p3.bind fun a12 =>
(World.cell? (World.drew r1.2) a12).bind fun v13 =>
(asSl v13).bind fun q14 =>
u0.bind fun a16 =>
(st1 (World.drew r1.2) (Addr.add a16 3) (.int .i64 (IntKind.i64.wrap (n11 - (IntKind.i64.wrap ((q14.2.1 : Int) - u2)))))).bind fun w17 =>
p3.bind fun a18 =>
(World.cell? w17 a18).bind fun v19 =>
(asSl v19).bind fun q20 =>
(slc q20.1 q20.2.1 q20.2.2 1 none (some u2) (some u2)).bind fun q21 =>
p3.bind fun a22 =>
(st1 w17 a22 (.slice q21.1 q21.2.1 q21.2.2)).bind fun w23 =>
p3.bind fun a24 =>
(World.cell? w23 (Addr.add a24 1)).bind fun v25 =>
(asI .i64 v25).bind fun n26 =>
p3.bind fun a28 =>
(st1 w23 (Addr.add a28 1) (.int .i64 (if (u2 : Int) < n26 then u2 else n26))).bind fun w29 =>
some (.int .i64 0, w29))))

theorem g32_eq (u0 : Option Addr) (u1 : ByteArray) (u2 : Int) (w0 : World) : evFn Try.prog 32 g32_ann #[.pointer u0, .string u1, .int .i64 u2] w0 = g32 u0 u1 u2 w0 := by kernel_rfl

theorem g32_call {u0 : Option Addr} {u1 : ByteArray} {u2 : Int} {w0 : World} {r : Value × World} (h : g32 u0 u1 u2 w0 = some r) : callF Try.prog 32 #[.pointer u0, .string u1, .int .i64 u2] w0 = some r :=
  callF_of_evFn (ann := g32_ann) Try.call32 (by kernel_rfl) ((g32_eq u0 u1 u2 w0).trans h)

/-! 33: penstock/penstockref03.Fixed (n: uint32) -/
def g33_ann : List (List Nat × List Nat) := []

noncomputable def g33 (u0 : Int) (w0 : World) : Option (Value × World) :=
some (.slice (some (⟨w0.heap.size, 0, none⟩)) 4 4, (World.alloc w0 (.cells #[.int .u8 (IntKind.u8.wrap (Int.tmod u0 256)), .int .u8 (IntKind.u8.wrap (Int.tmod (IntKind.u32.wrap (Int.tdiv u0 256)) 256)), .int .u8 (IntKind.u8.wrap (Int.tmod (IntKind.u32.wrap (Int.tdiv u0 65536)) 256)), .int .u8 (IntKind.u8.wrap (IntKind.u32.wrap (Int.tdiv u0 16777216)))] 5)))

theorem g33_eq (u0 : Int) (w0 : World) : evFn Try.prog 33 g33_ann #[.int .u32 u0] w0 = g33 u0 w0 := by kernel_rfl

theorem g33_call {u0 : Int} {w0 : World} {r : Value × World} (h : g33 u0 w0 = some r) : callF Try.prog 33 #[.int .u32 u0] w0 = some r :=
  callF_of_evFn (ann := g33_ann) Try.call33 (by kernel_rfl) ((g33_eq u0 w0).trans h)

/-! 34: penstock/penstockref02.More (sum: uint32, b: []uint8) -/
def g34_ann : List (List Nat × List Nat) := [([0, 1, 0, 1, 1], [1, 5, 6]), ([0, 1, 0, 0, 1, 0, 0, 1, 0, 1, 1], [1, 6, 5, 7])]

def g34_l1_cs (u1 : Option Addr × Nat × Nat) : List (Nat × Value) := ([(1, .slice u1.1 u1.2.1 u1.2.2)] : List (Nat × Value))

def g34_l5_cs (u1 : Option Addr × Nat × Nat) (s2 : Int × Int) : List (Nat × Value) := ([(1, .slice u1.1 u1.2.1 u1.2.2), (6, .int .i64 s2.2)] : List (Nat × Value))

/-- the round of a loop (penstock/penstockref02.More) -/
noncomputable def g34_l5_b (u1 : Option Addr × Nat × Nat) (s2 : Int × Int) (s6 : Int × Int) (w7 : World) : Option (Exit × (Int × Int) × World) :=
if (decide ((s6.2 : Int) < 8)) = true then
((idxA u1.1 u1.2.1 1 s2.2).bind fun a8 =>
(World.cell? w7 a8).bind fun v9 =>
(asI .u8 v9).bind fun n10 =>
if ((IntKind.u64.wrap s6.2) : Int) < 0 then
(none)
else
(if (((IntKind.u32.wrap ((BitVec.ofInt 32 (IntKind.u32.wrap ((BitVec.ofInt 32 s6.1 &&& BitVec.ofInt 32 1).toNat : Nat)) ^^^ BitVec.ofInt 32 (IntKind.u32.wrap ((BitVec.ofInt 32 (IntKind.u32.wrap (Int.fdiv n10 (2 ^ (min (Int.toNat (IntKind.u64.wrap s6.2)) 8)))) &&& BitVec.ofInt 32 1).toNat : Nat))).toNat : Nat)) : Int) == 1) = true then
(some (.normal, ((IntKind.u32.wrap ((BitVec.ofInt 32 (Int.fdiv s6.1 (2 ^ (min (Int.toNat 1) 32))) ^^^ BitVec.ofInt 32 2197175160).toNat : Nat)), (IntKind.i64.wrap (s6.2 + 1))), w7))
else
(some (.normal, ((Int.fdiv s6.1 (2 ^ (min (Int.toNat 1) 32))), (IntKind.i64.wrap (s6.2 + 1))), w7))))
else
(some ((.exit 2), (s6.1, s6.2), w7))

noncomputable def g34_K11 (u1 : Option Addr × Nat × Nat) : Exit → Env → World → Option (Exit × (Int × Int) × World) :=
  fun e ρ w => ((List.map (·.1) (g34_l1_cs u1)).mapM ρ).bind fun _ => loopK [(5, .i .u32), (6, .i .i64)] e ρ w

noncomputable def g34_K12 (u1 : Option Addr × Nat × Nat) : Exit → Env → World → Option (Exit × (Int × Int) × World) :=
  seqK (ev Try.prog 43 34 g34_ann (cAt [1, 1, 0, 1, 0, 0, 1, 1] (bodyOf Try.f34)) [1, 1, 0, 0, 1, 0, 1, 1] (g34_K11 u1)) (g34_K11 u1)

noncomputable def g34_K13 (u1 : Option Addr × Nat × Nat) : Exit → Env → World → Option (Exit × (Int × Int) × World) :=
  blkK 1 (g34_K12 u1)

noncomputable def g34_K14 (u1 : Option Addr × Nat × Nat) : Exit → Env → World → Option (Exit × (Int × Int) × World) :=
  blkK 2 (g34_K13 u1)

/-- the loop, from a state on -/
noncomputable def g34_l5 (u1 : Option Addr × Nat × Nat) (s2 : Int × Int) (s : Int × Int) (w : World) : Option (Exit × (Int × Int) × World) :=
  loopM Try.prog 43 34 g34_ann (cAt [1, 1, 0, 1, 0, 0, 1, 0, 0, 1, 0, 0] (bodyOf Try.f34)) [0, 1, 0, 0, 1, 0, 0, 1, 0, 1, 1] (g34_K14 u1) ((g34_l5_cs u1 s2) ++ sputs [(5, .i .u32), (7, .i .i64)] s) w

/-- behind the loop, left by x2 -/
noncomputable def g34_l5_x2 (s2 : Int × Int) (t15 : Int × Int) (w16 : World) : Option (Exit × (Int × Int) × World) :=
some (.normal, (t15.1, (IntKind.i64.wrap (s2.2 + 1))), w16)

/-- the round of a loop (penstock/penstockref02.More) -/
noncomputable def g34_l1_b (u1 : Option Addr × Nat × Nat) (s2 : Int × Int) (w3 : World) : Option (Exit × (Int × Int) × World) :=
if (decide ((s2.2 : Int) < (u1.2.1 : Int))) = true then
(g34_l5 u1 s2 (s2.1, 0) w3)
else
(some ((.exit 0), (s2.1, s2.2), w3))

noncomputable def g34_K17  : Exit → Env → World → Option (Value × World) :=
  retK Try.prog Try.f34.results.toList

noncomputable def g34_K18  : Exit → Env → World → Option (Value × World) :=
  seqK (ev Try.prog 43 34 g34_ann (cAt [1, 1, 1] (bodyOf Try.f34)) [1, 1, 1] g34_K17) g34_K17

noncomputable def g34_K19  : Exit → Env → World → Option (Value × World) :=
  blkK 0 g34_K18

/-- the loop, from a state on -/
noncomputable def g34_l1 (u1 : Option Addr × Nat × Nat) (s : Int × Int) (w : World) : Option (Value × World) :=
  loopM Try.prog 43 34 g34_ann (cAt [1, 1, 0, 1, 0, 0] (bodyOf Try.f34)) [0, 1, 0, 1, 1] g34_K19 ((g34_l1_cs u1) ++ sputs [(5, .i .u32), (6, .i .i64)] s) w

/-- behind the loop, left by x0 -/
noncomputable def g34_l1_x0  (t20 : Int × Int) (w21 : World) : Option (Value × World) :=
some (.int .u32 (IntKind.u32.wrap ((BitVec.ofInt 32 IntKind.u32.max ^^^ BitVec.ofInt 32 t20.1).toNat : Nat)), w21)

noncomputable def g34 (u0 : Int) (u1 : Option Addr × Nat × Nat) (w0 : World) : Option (Value × World) :=
g34_l1 u1 ((IntKind.u32.wrap ((BitVec.ofInt 32 IntKind.u32.max ^^^ BitVec.ofInt 32 u0).toNat : Nat)), 0) w0

theorem g34_eq (u0 : Int) (u1 : Option Addr × Nat × Nat) (w0 : World) : evFn Try.prog 34 g34_ann #[.int .u32 u0, .slice u1.1 u1.2.1 u1.2.2] w0 = g34 u0 u1 w0 := by kernel_rfl

theorem g34_call {u0 : Int} {u1 : Option Addr × Nat × Nat} {w0 : World} {r : Value × World} (h : g34 u0 u1 w0 = some r) : callF Try.prog 34 #[.int .u32 u0, .slice u1.1 u1.2.1 u1.2.2] w0 = some r :=
  callF_of_evFn (ann := g34_ann) Try.call34 (by kernel_rfl) ((g34_eq u0 u1 w0).trans h)

theorem g34_l5_x2_of {u1 : Option Addr × Nat × Nat} {s2 : Int × Int} {s t : Int × Int} {w w' : World} (h : loopS (g34_l5_b u1 s2) s w = some (.exit 2, t, w')) : g34_l5 u1 s2 s w = g34_l5_x2 s2 t w' := by
  have h1 : g34_l5 u1 s2 s w = loopM Try.prog 43 34 g34_ann (cAt [1, 1, 0, 1, 0, 0, 1, 0, 0, 1, 0, 0] (bodyOf Try.f34)) [0, 1, 0, 0, 1, 0, 0, 1, 0, 1, 1] (g34_K14 u1) ((g34_l5_cs u1 s2) ++ sputs [(5, .i .u32), (7, .i .i64)] s) w := by kernel_rfl
  have h2 : loopM Try.prog 43 34 g34_ann (cAt [1, 1, 0, 1, 0, 0, 1, 0, 0, 1, 0, 0] (bodyOf Try.f34)) [0, 1, 0, 0, 1, 0, 0, 1, 0, 1, 1] (g34_K14 u1) ((g34_l5_cs u1 s2) ++ sputs [(5, .i .u32), (7, .i .i64)] s) w = (g34_K14 u1) (.exit 2) (puts 43 ((g34_l5_cs u1 s2) ++ sputs [(5, .i .u32), (7, .i .i64)] t)) w' :=
    loop_rule (P := Try.prog) (N := 43) (f := 34) (ann := g34_ann) (body := (cAt [1, 1, 0, 1, 0, 0, 1, 0, 0, 1, 0, 0] (bodyOf Try.f34))) (pt := [0, 1, 0, 0, 1, 0, 0, 1, 0, 1, 1]) (K := (g34_K14 u1)) (g34_l5_cs u1 s2) [(5, .i .u32), (7, .i .i64)] (b := g34_l5_b u1 s2) (fun s w => by kernel_rfl) (by kernel_rfl) (by kernel_rfl) (by kernel_rfl) h
  have h3 : (g34_K14 u1) (.exit 2) (puts 43 ((g34_l5_cs u1 s2) ++ sputs [(5, .i .u32), (7, .i .i64)] t)) w' = g34_l5_x2 s2 t w' := by kernel_rfl
  exact h1.trans (h2.trans h3)

theorem g34_l1_x0_of {u1 : Option Addr × Nat × Nat} {s t : Int × Int} {w w' : World} (h : loopS (g34_l1_b u1) s w = some (.exit 0, t, w')) : g34_l1 u1 s w = g34_l1_x0 t w' := by
  have h1 : g34_l1 u1 s w = loopM Try.prog 43 34 g34_ann (cAt [1, 1, 0, 1, 0, 0] (bodyOf Try.f34)) [0, 1, 0, 1, 1] g34_K19 ((g34_l1_cs u1) ++ sputs [(5, .i .u32), (6, .i .i64)] s) w := by kernel_rfl
  have h2 : loopM Try.prog 43 34 g34_ann (cAt [1, 1, 0, 1, 0, 0] (bodyOf Try.f34)) [0, 1, 0, 1, 1] g34_K19 ((g34_l1_cs u1) ++ sputs [(5, .i .u32), (6, .i .i64)] s) w = g34_K19 (.exit 0) (puts 43 ((g34_l1_cs u1) ++ sputs [(5, .i .u32), (6, .i .i64)] t)) w' :=
    loop_rule (P := Try.prog) (N := 43) (f := 34) (ann := g34_ann) (body := (cAt [1, 1, 0, 1, 0, 0] (bodyOf Try.f34))) (pt := [0, 1, 0, 1, 1]) (K := g34_K19) (g34_l1_cs u1) [(5, .i .u32), (6, .i .i64)] (b := g34_l1_b u1) (fun s w => by kernel_rfl) (by kernel_rfl) (by kernel_rfl) (by kernel_rfl) h
  have h3 : g34_K19 (.exit 0) (puts 43 ((g34_l1_cs u1) ++ sputs [(5, .i .u32), (6, .i .i64)] t)) w' = g34_l1_x0 t w' := by kernel_rfl
  exact h1.trans (h2.trans h3)

/-! 35: (*penstock/frame.Framer).Encode (f: *frame.Framer, payload: []uint8) -/
def g35_ann : List (List Nat × List Nat) := []

noncomputable def g35 (u0 : Option Addr) (u1 : Option Addr × Nat × Nat) (w0 : World) : Option (Value × World) :=
if (u0.isNone) = true then
(some (.tuple #[.slice none 0 0, .int .i64 5], w0))
else
(if (decide (((u1.2.1 : Int) : Int) > 4096)) = true then
(some (.tuple #[.slice none 0 0, .int .i64 2], w0))
else
((callF Try.prog 43 #[] w0).bind fun r2 =>
(asP r2.1).bind fun p3 =>
(callF Try.prog 44 #[.pointer p3, .int .u32 (IntKind.u32.wrap (u1.2.1 : Int))] r2.2).bind fun r5 =>
(asTup 0 r5.1).bind fun _ =>
u0.bind fun a6 =>
(World.cell? r5.2 a6).bind fun v7 =>
(asP v7).bind fun p8 =>
(callF Try.prog 45 #[.pointer p8, .slice u1.1 u1.2.1 u1.2.2] r5.2).bind fun r9 =>
(asI .u32 r9.1).bind fun n10 =>
(callF Try.prog 44 #[.pointer p3, .int .u32 n10] r9.2).bind fun r11 =>
(asTup 0 r11.1).bind fun _ =>
(callF Try.prog 46 #[.pointer p3] r11.2).bind fun r12 =>
(asTup 2 r12.1).bind fun l13 =>
(asSl (l13.getD 0 undef)).bind fun q14 =>
(asI .i64 (l13.getD 1 undef)).bind fun n15 =>
(callB Try.prog .append #[31, 31] 31 #[false, false] #[.slice q14.1 q14.2.1 q14.2.2, .slice u1.1 u1.2.1 u1.2.2] r12.2).bind fun r16 =>
(asSl r16.1).bind fun q17 =>
some (.tuple #[.slice q17.1 q17.2.1 q17.2.2, .int .i64 0], r16.2)))

theorem g35_eq (u0 : Option Addr) (u1 : Option Addr × Nat × Nat) (w0 : World) : evFn Try.prog 35 g35_ann #[.pointer u0, .slice u1.1 u1.2.1 u1.2.2] w0 = g35 u0 u1 w0 := by kernel_rfl

theorem g35_call {u0 : Option Addr} {u1 : Option Addr × Nat × Nat} {w0 : World} {r : Value × World} (h : g35 u0 u1 w0 = some r) : callF Try.prog 35 #[.pointer u0, .slice u1.1 u1.2.1 u1.2.2] w0 = some r :=
  callF_of_evFn (ann := g35_ann) Try.call35 (by kernel_rfl) ((g35_eq u0 u1 w0).trans h)

/-! 36: (*penstock/disk.Disk).find (d: *disk.Disk, name: string) -/
def g36_ann : List (List Nat × List Nat) := []

noncomputable def g36 (u0 : Option Addr) (u1 : ByteArray) (w0 : World) : Option (Value × World) :=
(callF Try.prog 37 #[.pointer u0] w0).bind fun r1 =>
(asI .i64 r1.1).bind fun n2 =>
if ((n2 : Int) != 0) = true then
(some (.tuple #[.pointer none, .int .i64 n2], r1.2))
else
(u0.bind fun a3 =>
(World.cell? r1.2 a3).bind fun v4 =>
(asM v4).bind fun m5 =>
(mLook .string r1.2 m5 (.string u1)).bind fun o6 =>
(asP (o6.getD (.pointer none))).bind fun p7 =>
if (p7.isNone) = true then
(some (.tuple #[.pointer none, .int .i64 4], r1.2))
else
(some (.tuple #[.pointer p7, .int .i64 0], r1.2)))

theorem g36_eq (u0 : Option Addr) (u1 : ByteArray) (w0 : World) : evFn Try.prog 36 g36_ann #[.pointer u0, .string u1] w0 = g36 u0 u1 w0 := by kernel_rfl

theorem g36_call {u0 : Option Addr} {u1 : ByteArray} {w0 : World} {r : Value × World} (h : g36 u0 u1 w0 = some r) : callF Try.prog 36 #[.pointer u0, .string u1] w0 = some r :=
  callF_of_evFn (ann := g36_ann) Try.call36 (by kernel_rfl) ((g36_eq u0 u1 w0).trans h)

/-! 37: (*penstock/disk.Disk).state (d: *disk.Disk) -/
def g37_ann : List (List Nat × List Nat) := []

noncomputable def g37 (u0 : Option Addr) (w0 : World) : Option (Value × World) :=
if (u0.isNone) = true then
(some (.int .i64 5, w0))
else
(u0.bind fun a1 =>
(World.cell? w0 (Addr.add a1 2)).bind fun v2 =>
(asB v2).bind fun b3 =>
if b3 = true then
(some (.int .i64 9, w0))
else
(some (.int .i64 0, w0)))

theorem g37_eq (u0 : Option Addr) (w0 : World) : evFn Try.prog 37 g37_ann #[.pointer u0] w0 = g37 u0 w0 := by kernel_rfl

theorem g37_call {u0 : Option Addr} {w0 : World} {r : Value × World} (h : g37 u0 w0 = some r) : callF Try.prog 37 #[.pointer u0] w0 = some r :=
  callF_of_evFn (ann := g37_ann) Try.call37 (by kernel_rfl) ((g37_eq u0 w0).trans h)

/-! 38: penstock/penstockref04.DocDecode (b: []uint8, at: int) -/
def g38_ann : List (List Nat × List Nat) := []

noncomputable def g38 (u0 : Option Addr × Nat × Nat) (u1 : Int) (w0 : World) : Option (Value × World) :=
(callF Try.prog 47 #[.pointer (some (⟨w0.heap.size, 0, none⟩))] (World.alloc w0 (.cells #[.slice u0.1 u0.2.1 u0.2.2, .int .i64 u1, .int .i64 0] 94))).bind fun r1 =>
(asI .u32 r1.1).bind fun n2 =>
(callF Try.prog 47 #[.pointer (some (⟨w0.heap.size, 0, none⟩))] r1.2).bind fun r3 =>
(asI .u32 r3.1).bind fun n4 =>
(World.cell? r3.2 (Addr.add (⟨w0.heap.size, 0, none⟩) 2)).bind fun v5 =>
(asI .i64 v5).bind fun n6 =>
if ((n6 : Int) != 0) = true then
(some (.tuple #[.slice none 0 0, .int .i64 0, .int .i64 6], r3.2))
else
(if (decide ((n2 : Int) > 4096)) = true then
(some (.tuple #[.slice none 0 0, .int .i64 0, .int .i64 2], r3.2))
else
((World.cell? r3.2 (Addr.add (⟨w0.heap.size, 0, none⟩) 1)).bind fun v7 =>
(asI .i64 v7).bind fun n8 =>
if (decide (((IntKind.i64.wrap (n8 + (IntKind.i64.wrap n2))) : Int) > (u0.2.1 : Int))) = true then
(some (.tuple #[.slice none 0 0, .int .i64 0, .int .i64 6], r3.2))
else
((World.cell? (World.drew r3.2) (Addr.add (⟨w0.heap.size, 0, none⟩) 1)).bind fun v10 =>
(asI .i64 v10).bind fun n11 =>
(World.cell? (World.drew r3.2) (Addr.add (⟨w0.heap.size, 0, none⟩) 1)).bind fun v12 =>
(asI .i64 v12).bind fun n13 =>
(slc u0.1 u0.2.1 u0.2.2 1 (some n11) (some (IntKind.i64.wrap (n13 + (IntKind.i64.wrap n2)))) none).bind fun q14 =>
(callF Try.prog 34 #[.int .u32 0, .slice q14.1 q14.2.1 q14.2.2] (World.drew r3.2)).bind fun r15 =>
(asI .u32 r15.1).bind fun n16 =>
if ((n16 : Int) != n4) = true then
(some (.tuple #[.slice none 0 0, .int .i64 0, .int .i64 8], r15.2))
else
((World.cell? (World.drew r15.2) (Addr.add (⟨w0.heap.size, 0, none⟩) 1)).bind fun v17 =>
(asI .i64 v17).bind fun n18 =>
some (.tuple #[.slice q14.1 q14.2.1 q14.2.2, .int .i64 (IntKind.i64.wrap (n18 + (IntKind.i64.wrap n2))), .int .i64 0], (World.drew r15.2))))))

theorem g38_eq (u0 : Option Addr × Nat × Nat) (u1 : Int) (w0 : World) : evFn Try.prog 38 g38_ann #[.slice u0.1 u0.2.1 u0.2.2, .int .i64 u1] w0 = g38 u0 u1 w0 := by kernel_rfl

theorem g38_call {u0 : Option Addr × Nat × Nat} {u1 : Int} {w0 : World} {r : Value × World} (h : g38 u0 u1 w0 = some r) : callF Try.prog 38 #[.slice u0.1 u0.2.1 u0.2.2, .int .i64 u1] w0 = some r :=
  callF_of_evFn (ann := g38_ann) Try.call38 (by kernel_rfl) ((g38_eq u0 u1 w0).trans h)

/-! 39: (*penstock/disk.Disk).Remove (d: *disk.Disk, name: string) -/
def g39_ann : List (List Nat × List Nat) := []

noncomputable def g39 (u0 : Option Addr) (u1 : ByteArray) (w0 : World) : Option (Value × World) :=
(callF Try.prog 36 #[.pointer u0, .string u1] w0).bind fun r1 =>
(asTup 2 r1.1).bind fun l2 =>
(asP (l2.getD 0 undef)).bind fun p3 =>
(asI .i64 (l2.getD 1 undef)).bind fun n4 =>
if ((n4 : Int) == 0) = true then
(u0.bind fun a5 =>
(World.cell? (World.drew r1.2) (Addr.add a5 3)).bind fun v6 =>
(asI .i64 v6).bind fun n7 =>
p3.bind fun a8 =>
(World.cell? (World.drew r1.2) a8).bind fun v9 =>
(asSl v9).bind fun q10 =>
u0.bind fun a12 =>
(st1 (World.drew r1.2) (Addr.add a12 3) (.int .i64 (IntKind.i64.wrap (n7 - (q10.2.1 : Int))))).bind fun w13 =>
u0.bind fun a14 =>
(World.cell? w13 a14).bind fun v15 =>
(asM v15).bind fun m16 =>
(callB Try.prog .delete #[58, 9] 0 #[false, false] #[.map m16, .string u1] w13).bind fun r17 =>
(asTup 0 r17.1).bind fun _ =>
some (.int .i64 n4, r17.2))
else
(some (.int .i64 n4, r1.2))

theorem g39_eq (u0 : Option Addr) (u1 : ByteArray) (w0 : World) : evFn Try.prog 39 g39_ann #[.pointer u0, .string u1] w0 = g39 u0 u1 w0 := by kernel_rfl

theorem g39_call {u0 : Option Addr} {u1 : ByteArray} {w0 : World} {r : Value × World} (h : g39 u0 u1 w0 = some r) : callF Try.prog 39 #[.pointer u0, .string u1] w0 = some r :=
  callF_of_evFn (ann := g39_ann) Try.call39 (by kernel_rfl) ((g39_eq u0 u1 w0).trans h)

/-! 40: (*penstock/disk.Disk).Rename (d: *disk.Disk, from: string, to: string) -/
def g40_ann : List (List Nat × List Nat) := []

noncomputable def g40_j6 (u0 : Option Addr) (u1 : ByteArray) (u2 : ByteArray) (p3 : Option Addr) (w21 : World) : Option (Value × World) :=
u0.bind fun a22 =>
(World.cell? w21 a22).bind fun v23 =>
(asM v23).bind fun m24 =>
(callB Try.prog .delete #[58, 9] 0 #[false, false] #[.map m24, .string u1] w21).bind fun r25 =>
(asTup 0 r25.1).bind fun _ =>
u0.bind fun a26 =>
(World.cell? r25.2 a26).bind fun v27 =>
(asM v27).bind fun m28 =>
(mUpd .string r25.2 m28 (.string u2) (.pointer p3)).bind fun w29 =>
p3.bind fun a30 =>
(World.cell? w29 a30).bind fun v31 =>
(asSl v31).bind fun q32 =>
p3.bind fun a34 =>
(st1 w29 (Addr.add a34 1) (.int .i64 (q32.2.1 : Int))).bind fun w35 =>
some (.int .i64 0, w35)

noncomputable def g40 (u0 : Option Addr) (u1 : ByteArray) (u2 : ByteArray) (w0 : World) : Option (Value × World) :=
(callF Try.prog 36 #[.pointer u0, .string u1] w0).bind fun r1 =>
(asTup 2 r1.1).bind fun l2 =>
(asP (l2.getD 0 undef)).bind fun p3 =>
(asI .i64 (l2.getD 1 undef)).bind fun n4 =>
if ((n4 : Int) != 0) = true then
(some (.int .i64 n4, r1.2))
else
(if (u2.toList == (⟨#[]⟩ : ByteArray).toList) = true then
(some (.int .i64 1, r1.2))
else
(if (decide (((u2.size : Int) : Int) > 24)) = true then
(some (.int .i64 1, r1.2))
else
(if (u1.toList == u2.toList) = true then
(some (.int .i64 0, r1.2))
else
(u0.bind fun a7 =>
(World.cell? r1.2 a7).bind fun v8 =>
(asM v8).bind fun m9 =>
(mLook .string r1.2 m9 (.string u2)).bind fun o10 =>
(asP (o10.getD (.pointer none))).bind fun p11 =>
if (!(p11.isNone)) = true then
(u0.bind fun a12 =>
(World.cell? (World.drew r1.2) (Addr.add a12 3)).bind fun v13 =>
(asI .i64 v13).bind fun n14 =>
p11.bind fun a15 =>
(World.cell? (World.drew r1.2) a15).bind fun v16 =>
(asSl v16).bind fun q17 =>
u0.bind fun a19 =>
(st1 (World.drew r1.2) (Addr.add a19 3) (.int .i64 (IntKind.i64.wrap (n14 - (q17.2.1 : Int))))).bind fun w20 =>
g40_j6 u0 u1 u2 p3 w20)
else
(g40_j6 u0 u1 u2 p3 r1.2)))))

theorem g40_eq (u0 : Option Addr) (u1 : ByteArray) (u2 : ByteArray) (w0 : World) : evFn Try.prog 40 g40_ann #[.pointer u0, .string u1, .string u2] w0 = g40 u0 u1 u2 w0 := by kernel_rfl

theorem g40_call {u0 : Option Addr} {u1 : ByteArray} {u2 : ByteArray} {w0 : World} {r : Value × World} (h : g40 u0 u1 u2 w0 = some r) : callF Try.prog 40 #[.pointer u0, .string u1, .string u2] w0 = some r :=
  callF_of_evFn (ann := g40_ann) Try.call40 (by kernel_rfl) ((g40_eq u0 u1 u2 w0).trans h)

/-! 41: penstock/crc.New () -/
def g41_ann : List (List Nat × List Nat) := []

noncomputable def g41  (w0 : World) : Option (Value × World) :=
some (.pointer (some (⟨w0.heap.size, 0, none⟩)), (World.alloc w0 (.cells #[.int .u32 0, .int .i32 0, .int .u32 0, .int .u32 0, .int .u32 0, .int .u32 0, .int .u32 0, .int .u32 0, .int .u32 0, .int .u32 0, .int .u32 0, .int .u32 0, .int .u32 0, .int .u32 0, .int .u32 0, .int .u32 0, .int .u32 0, .int .u32 0, .int .u32 0, .int .u32 0, .int .u32 0, .int .u32 0, .int .u32 0, .int .u32 0, .int .u32 0, .int .u32 0, .int .u32 0, .int .u32 0, .int .u32 0, .int .u32 0, .int .u32 0, .int .u32 0, .int .u32 0, .int .u32 0, .int .u32 0, .int .u32 0, .int .u32 0, .int .u32 0, .int .u32 0, .int .u32 0, .int .u32 0, .int .u32 0, .int .u32 0, .int .u32 0, .int .u32 0, .int .u32 0, .int .u32 0, .int .u32 0, .int .u32 0, .int .u32 0, .int .u32 0, .int .u32 0, .int .u32 0, .int .u32 0, .int .u32 0, .int .u32 0, .int .u32 0, .int .u32 0, .int .u32 0, .int .u32 0, .int .u32 0, .int .u32 0, .int .u32 0, .int .u32 0, .int .u32 0, .int .u32 0, .int .u32 0, .int .u32 0, .int .u32 0, .int .u32 0, .int .u32 0, .int .u32 0, .int .u32 0, .int .u32 0, .int .u32 0, .int .u32 0, .int .u32 0, .int .u32 0, .int .u32 0, .int .u32 0, .int .u32 0, .int .u32 0, .int .u32 0, .int .u32 0, .int .u32 0, .int .u32 0, .int .u32 0, .int .u32 0, .int .u32 0, .int .u32 0, .int .u32 0, .int .u32 0, .int .u32 0, .int .u32 0, .int .u32 0, .int .u32 0, .int .u32 0, .int .u32 0, .int .u32 0, .int .u32 0, .int .u32 0, .int .u32 0, .int .u32 0, .int .u32 0, .int .u32 0, .int .u32 0, .int .u32 0, .int .u32 0, .int .u32 0, .int .u32 0, .int .u32 0, .int .u32 0, .int .u32 0, .int .u32 0, .int .u32 0, .int .u32 0, .int .u32 0, .int .u32 0, .int .u32 0, .int .u32 0, .int .u32 0, .int .u32 0, .int .u32 0, .int .u32 0, .int .u32 0, .int .u32 0, .int .u32 0, .int .u32 0, .int .u32 0, .int .u32 0, .int .u32 0, .int .u32 0, .int .u32 0, .int .u32 0, .int .u32 0, .int .u32 0, .int .u32 0, .int .u32 0, .int .u32 0, .int .u32 0, .int .u32 0, .int .u32 0, .int .u32 0, .int .u32 0, .int .u32 0, .int .u32 0, .int .u32 0, .int .u32 0, .int .u32 0, .int .u32 0, .int .u32 0, .int .u32 0, .int .u32 0, .int .u32 0, .int .u32 0, .int .u32 0, .int .u32 0, .int .u32 0, .int .u32 0, .int .u32 0, .int .u32 0, .int .u32 0, .int .u32 0, .int .u32 0, .int .u32 0, .int .u32 0, .int .u32 0, .int .u32 0, .int .u32 0, .int .u32 0, .int .u32 0, .int .u32 0, .int .u32 0, .int .u32 0, .int .u32 0, .int .u32 0, .int .u32 0, .int .u32 0, .int .u32 0, .int .u32 0, .int .u32 0, .int .u32 0, .int .u32 0, .int .u32 0, .int .u32 0, .int .u32 0, .int .u32 0, .int .u32 0, .int .u32 0, .int .u32 0, .int .u32 0, .int .u32 0, .int .u32 0, .int .u32 0, .int .u32 0, .int .u32 0, .int .u32 0, .int .u32 0, .int .u32 0, .int .u32 0, .int .u32 0, .int .u32 0, .int .u32 0, .int .u32 0, .int .u32 0, .int .u32 0, .int .u32 0, .int .u32 0, .int .u32 0, .int .u32 0, .int .u32 0, .int .u32 0, .int .u32 0, .int .u32 0, .int .u32 0, .int .u32 0, .int .u32 0, .int .u32 0, .int .u32 0, .int .u32 0, .int .u32 0, .int .u32 0, .int .u32 0, .int .u32 0, .int .u32 0, .int .u32 0, .int .u32 0, .int .u32 0, .int .u32 0, .int .u32 0, .int .u32 0, .int .u32 0, .int .u32 0, .int .u32 0, .int .u32 0, .int .u32 0, .int .u32 0, .int .u32 0, .int .u32 0, .int .u32 0, .int .u32 0, .int .u32 0, .int .u32 0, .int .u32 0, .int .u32 0, .int .u32 0, .int .u32 0, .int .u32 0, .int .u32 0, .int .u32 0, .int .u32 0, .int .u32 0, .int .u32 0, .int .u32 0, .int .u32 0, .int .u32 0, .int .u32 0, .int .u32 0, .int .u32 0] 109)))

theorem g41_eq  (w0 : World) : evFn Try.prog 41 g41_ann #[] w0 = g41 w0 := by kernel_rfl

theorem g41_call  {w0 : World} {r : Value × World} (h : g41 w0 = some r) : callF Try.prog 41 #[] w0 = some r :=
  callF_of_evFn (ann := g41_ann) Try.call41 (by kernel_rfl) ((g41_eq  w0).trans h)

/-! 42: (*penstock/frame.Framer).Decode (f: *frame.Framer, b: []uint8) -/
def g42_ann : List (List Nat × List Nat) := []

noncomputable def g42 (u0 : Option Addr) (u1 : Option Addr × Nat × Nat) (w0 : World) : Option (Value × World) :=
if (u0.isNone) = true then
(some (.tuple #[.slice none 0 0, .int .i64 0, .int .i64 5], w0))
else
((slc u1.1 u1.2.1 u1.2.2 1 none (some (if (8 : Int) < (u1.2.1 : Int) then 8 else (u1.2.1 : Int))) none).bind fun q3 =>
(callF Try.prog 48 #[.slice q3.1 q3.2.1 q3.2.2] w0).bind fun r4 =>
(asP r4.1).bind fun p5 =>
(callF Try.prog 49 #[.pointer p5] r4.2).bind fun r6 =>
(asI .u32 r6.1).bind fun n7 =>
(callF Try.prog 49 #[.pointer p5] r6.2).bind fun r8 =>
(asI .u32 r8.1).bind fun n9 =>
(callF Try.prog 50 #[.pointer p5] r8.2).bind fun r10 =>
(asTup 3 r10.1).bind fun l11 =>
(asI .i64 (l11.getD 0 undef)).bind fun n12 =>
(asI .i64 (l11.getD 1 undef)).bind fun n13 =>
(asI .i64 (l11.getD 2 undef)).bind fun n14 =>
if ((n14 : Int) != 0) = true then
(some (.tuple #[.slice none 0 0, .int .i64 0, .int .i64 6], r10.2))
else
(if (decide ((n7 : Int) > 4096)) = true then
(some (.tuple #[.slice none 0 0, .int .i64 0, .int .i64 2], r10.2))
else
(if (decide (((IntKind.i64.wrap ((u1.2.1 : Int) - 8)) : Int) < (IntKind.i64.wrap n7))) = true then
(some (.tuple #[.slice none 0 0, .int .i64 0, .int .i64 6], r10.2))
else
((slc u1.1 u1.2.1 u1.2.2 1 (some 8) (some (IntKind.i64.wrap (8 + (IntKind.i64.wrap n7)))) none).bind fun q16 =>
(callB Try.prog .append #[31, 31] 31 #[true, false] #[.slice none 0 0, .slice q16.1 q16.2.1 q16.2.2] r10.2).bind fun r17 =>
(asSl r17.1).bind fun q18 =>
u0.bind fun a19 =>
(World.cell? r17.2 a19).bind fun v20 =>
(asP v20).bind fun p21 =>
(callF Try.prog 45 #[.pointer p21, .slice q18.1 q18.2.1 q18.2.2] r17.2).bind fun r22 =>
(asI .u32 r22.1).bind fun n23 =>
if ((n23 : Int) != n9) = true then
(some (.tuple #[.slice none 0 0, .int .i64 0, .int .i64 8], r22.2))
else
(some (.tuple #[.slice q18.1 q18.2.1 q18.2.2, .int .i64 (IntKind.i64.wrap (8 + (IntKind.i64.wrap n7))), .int .i64 0], r22.2))))))

theorem g42_eq (u0 : Option Addr) (u1 : Option Addr × Nat × Nat) (w0 : World) : evFn Try.prog 42 g42_ann #[.pointer u0, .slice u1.1 u1.2.1 u1.2.2] w0 = g42 u0 u1 w0 := by kernel_rfl

theorem g42_call {u0 : Option Addr} {u1 : Option Addr × Nat × Nat} {w0 : World} {r : Value × World} (h : g42 u0 u1 w0 = some r) : callF Try.prog 42 #[.pointer u0, .slice u1.1 u1.2.1 u1.2.2] w0 = some r :=
  callF_of_evFn (ann := g42_ann) Try.call42 (by kernel_rfl) ((g42_eq u0 u1 w0).trans h)

/-! 43: penstock/codec.NewWriter () -/
def g43_ann : List (List Nat × List Nat) := []

noncomputable def g43  (w0 : World) : Option (Value × World) :=
some (.pointer (some (⟨w0.heap.size, 0, none⟩)), (World.alloc w0 (.cells #[.slice none 0 0, .int .i64 0] 114)))

theorem g43_eq  (w0 : World) : evFn Try.prog 43 g43_ann #[] w0 = g43 w0 := by kernel_rfl

theorem g43_call  {w0 : World} {r : Value × World} (h : g43 w0 = some r) : callF Try.prog 43 #[] w0 = some r :=
  callF_of_evFn (ann := g43_ann) Try.call43 (by kernel_rfl) ((g43_eq  w0).trans h)

/-! 44: (*penstock/codec.Writer).Fixed (w: *codec.Writer, n: uint32) -/
def g44_ann : List (List Nat × List Nat) := []

noncomputable def g44 (u0 : Option Addr) (u1 : Int) (w0 : World) : Option (Value × World) :=
if (!(u0.isNone)) = true then
(u0.bind fun a1 =>
(World.cell? w0 a1).bind fun v2 =>
(asSl v2).bind fun q3 =>
(callB Try.prog .append #[31, 31] 31 #[false, false] #[.slice q3.1 q3.2.1 q3.2.2, .slice (some (⟨w0.heap.size, 0, none⟩)) 4 4] (World.alloc w0 (.cells #[.int .u8 (IntKind.u8.wrap u1), .int .u8 (IntKind.u8.wrap (Int.fdiv u1 (2 ^ (min (Int.toNat 8) 32)))), .int .u8 (IntKind.u8.wrap (Int.fdiv u1 (2 ^ (min (Int.toNat 16) 32)))), .int .u8 (IntKind.u8.wrap (Int.fdiv u1 (2 ^ (min (Int.toNat 24) 32))))] 5))).bind fun r4 =>
(asSl r4.1).bind fun q5 =>
u0.bind fun a6 =>
(st1 r4.2 a6 (.slice q5.1 q5.2.1 q5.2.2)).bind fun w7 =>
some (.tuple #[], w7))
else
(some (.tuple #[], w0))

theorem g44_eq (u0 : Option Addr) (u1 : Int) (w0 : World) : evFn Try.prog 44 g44_ann #[.pointer u0, .int .u32 u1] w0 = g44 u0 u1 w0 := by kernel_rfl

theorem g44_call {u0 : Option Addr} {u1 : Int} {w0 : World} {r : Value × World} (h : g44 u0 u1 w0 = some r) : callF Try.prog 44 #[.pointer u0, .int .u32 u1] w0 = some r :=
  callF_of_evFn (ann := g44_ann) Try.call44 (by kernel_rfl) ((g44_eq u0 u1 w0).trans h)

/-! 45: (*penstock/crc.Table).Sum (t: *crc.Table, b: []uint8) -/
def g45_ann : List (List Nat × List Nat) := []

noncomputable def g45 (u0 : Option Addr) (u1 : Option Addr × Nat × Nat) (w0 : World) : Option (Value × World) :=
(callF Try.prog 51 #[.pointer u0, .int .u32 0, .slice u1.1 u1.2.1 u1.2.2] w0).bind fun r1 =>
(asI .u32 r1.1).bind fun n2 =>
some (.int .u32 n2, r1.2)

theorem g45_eq (u0 : Option Addr) (u1 : Option Addr × Nat × Nat) (w0 : World) : evFn Try.prog 45 g45_ann #[.pointer u0, .slice u1.1 u1.2.1 u1.2.2] w0 = g45 u0 u1 w0 := by kernel_rfl

theorem g45_call {u0 : Option Addr} {u1 : Option Addr × Nat × Nat} {w0 : World} {r : Value × World} (h : g45 u0 u1 w0 = some r) : callF Try.prog 45 #[.pointer u0, .slice u1.1 u1.2.1 u1.2.2] w0 = some r :=
  callF_of_evFn (ann := g45_ann) Try.call45 (by kernel_rfl) ((g45_eq u0 u1 w0).trans h)

/-! 46: (*penstock/codec.Writer).Out (w: *codec.Writer) -/
def g46_ann : List (List Nat × List Nat) := []

noncomputable def g46 (u0 : Option Addr) (w0 : World) : Option (Value × World) :=
if (u0.isNone) = true then
(some (.tuple #[.slice none 0 0, .int .i64 5], w0))
else
(u0.bind fun a1 =>
(World.cell? w0 (Addr.add a1 1)).bind fun v2 =>
(asI .i64 v2).bind fun n3 =>
if ((n3 : Int) != 0) = true then
(u0.bind fun a4 =>
(World.cell? (World.drew w0) (Addr.add a4 1)).bind fun v5 =>
(asI .i64 v5).bind fun n6 =>
some (.tuple #[.slice none 0 0, .int .i64 n6], (World.drew w0)))
else
(u0.bind fun a7 =>
(World.cell? w0 a7).bind fun v8 =>
(asSl v8).bind fun q9 =>
(callB Try.prog .append #[31, 31] 31 #[true, false] #[.slice none 0 0, .slice q9.1 q9.2.1 q9.2.2] w0).bind fun r10 =>
(asSl r10.1).bind fun q11 =>
some (.tuple #[.slice q11.1 q11.2.1 q11.2.2, .int .i64 0], r10.2)))

theorem g46_eq (u0 : Option Addr) (w0 : World) : evFn Try.prog 46 g46_ann #[.pointer u0] w0 = g46 u0 w0 := by kernel_rfl

theorem g46_call {u0 : Option Addr} {w0 : World} {r : Value × World} (h : g46 u0 w0 = some r) : callF Try.prog 46 #[.pointer u0] w0 = some r :=
  callF_of_evFn (ann := g46_ann) Try.call46 (by kernel_rfl) ((g46_eq u0 w0).trans h)

/-! 47: (*penstock/penstockref03.Reader).Fixed (r: *penstockref03.Reader) -/
def g47_ann : List (List Nat × List Nat) := [([0, 1, 0, 1, 1, 1, 1], [0, 3, 4])]

def g47_l12_cs (u0 : Option Addr) : List (Nat × Value) := ([(0, .pointer u0)] : List (Nat × Value))

/-- the round of a loop ((*penstock/penstockref03.Reader).Fixed) -/
noncomputable def g47_l12_b (u0 : Option Addr) (s13 : Int × Int) (w14 : World) : Option (Exit × (Int × Int) × World) :=
if (decide ((s13.2 : Int) ≥ 0)) = true then
(u0.bind fun a15 =>
(World.cell? (World.drew w14) a15).bind fun v16 =>
(asSl v16).bind fun q17 =>
u0.bind fun a18 =>
(World.cell? (World.drew w14) (Addr.add a18 1)).bind fun v19 =>
(asI .i64 v19).bind fun n20 =>
(idxA q17.1 q17.2.1 1 (IntKind.i64.wrap (n20 + s13.2))).bind fun a21 =>
(World.cell? (World.drew w14) a21).bind fun v22 =>
(asI .u8 v22).bind fun n23 =>
some (.normal, ((IntKind.u32.wrap ((IntKind.u32.wrap (256 * s13.1)) + (IntKind.u32.wrap n23))), (IntKind.i64.wrap (s13.2 - 1))), (World.drew w14)))
else
(some ((.exit 0), (s13.1, s13.2), w14))

noncomputable def g47_K24  : Exit → Env → World → Option (Value × World) :=
  retK Try.prog Try.f47.results.toList

noncomputable def g47_K25  : Exit → Env → World → Option (Value × World) :=
  seqK (ev Try.prog 52 47 g47_ann (cAt [1, 1, 1, 1, 1] (bodyOf Try.f47)) [1, 1, 1, 1, 1] g47_K24) g47_K24

noncomputable def g47_K26  : Exit → Env → World → Option (Value × World) :=
  blkK 0 g47_K25

/-- the loop, from a state on -/
noncomputable def g47_l12 (u0 : Option Addr) (s : Int × Int) (w : World) : Option (Value × World) :=
  loopM Try.prog 52 47 g47_ann (cAt [1, 1, 1, 1, 0, 1, 0, 0] (bodyOf Try.f47)) [0, 1, 0, 1, 1, 1, 1] g47_K26 ((g47_l12_cs u0) ++ sputs [(3, .i .u32), (4, .i .i64)] s) w

/-- behind the loop, left by x0 -/
noncomputable def g47_l12_x0 (u0 : Option Addr) (t27 : Int × Int) (w28 : World) : Option (Value × World) :=
u0.bind fun a29 =>
(World.cell? w28 (Addr.add a29 1)).bind fun v30 =>
(asI .i64 v30).bind fun n31 =>
u0.bind fun a32 =>
(st1 w28 (Addr.add a32 1) (.int .i64 (IntKind.i64.wrap (n31 + 4)))).bind fun w33 =>
some (.int .u32 t27.1, w33)

noncomputable def g47 (u0 : Option Addr) (w0 : World) : Option (Value × World) :=
u0.bind fun a1 =>
(World.cell? w0 (Addr.add a1 2)).bind fun v2 =>
(asI .i64 v2).bind fun n3 =>
if ((n3 : Int) != 0) = true then
(some (.int .u32 0, w0))
else
(u0.bind fun a4 =>
(World.cell? (World.drew w0) (Addr.add a4 1)).bind fun v5 =>
(asI .i64 v5).bind fun n6 =>
u0.bind fun a7 =>
(World.cell? (World.drew w0) a7).bind fun v8 =>
(asSl v8).bind fun q9 =>
if (decide (((IntKind.i64.wrap (n6 + 4)) : Int) > (q9.2.1 : Int))) = true then
((callF Try.prog 52 #[.pointer u0, .int .i64 6] (World.drew w0)).bind fun r11 =>
(asTup 0 r11.1).bind fun _ =>
some (.int .u32 0, r11.2))
else
(g47_l12 u0 (0, 3) (World.drew w0)))

theorem g47_eq (u0 : Option Addr) (w0 : World) : evFn Try.prog 47 g47_ann #[.pointer u0] w0 = g47 u0 w0 := by kernel_rfl

theorem g47_call {u0 : Option Addr} {w0 : World} {r : Value × World} (h : g47 u0 w0 = some r) : callF Try.prog 47 #[.pointer u0] w0 = some r :=
  callF_of_evFn (ann := g47_ann) Try.call47 (by kernel_rfl) ((g47_eq u0 w0).trans h)

theorem g47_l12_x0_of {u0 : Option Addr} {s t : Int × Int} {w w' : World} (h : loopS (g47_l12_b u0) s w = some (.exit 0, t, w')) : g47_l12 u0 s w = g47_l12_x0 u0 t w' := by
  have h1 : g47_l12 u0 s w = loopM Try.prog 52 47 g47_ann (cAt [1, 1, 1, 1, 0, 1, 0, 0] (bodyOf Try.f47)) [0, 1, 0, 1, 1, 1, 1] g47_K26 ((g47_l12_cs u0) ++ sputs [(3, .i .u32), (4, .i .i64)] s) w := by kernel_rfl
  have h2 : loopM Try.prog 52 47 g47_ann (cAt [1, 1, 1, 1, 0, 1, 0, 0] (bodyOf Try.f47)) [0, 1, 0, 1, 1, 1, 1] g47_K26 ((g47_l12_cs u0) ++ sputs [(3, .i .u32), (4, .i .i64)] s) w = g47_K26 (.exit 0) (puts 52 ((g47_l12_cs u0) ++ sputs [(3, .i .u32), (4, .i .i64)] t)) w' :=
    loop_rule (P := Try.prog) (N := 52) (f := 47) (ann := g47_ann) (body := (cAt [1, 1, 1, 1, 0, 1, 0, 0] (bodyOf Try.f47))) (pt := [0, 1, 0, 1, 1, 1, 1]) (K := g47_K26) (g47_l12_cs u0) [(3, .i .u32), (4, .i .i64)] (b := g47_l12_b u0) (fun s w => by kernel_rfl) (by kernel_rfl) (by kernel_rfl) (by kernel_rfl) h
  have h3 : g47_K26 (.exit 0) (puts 52 ((g47_l12_cs u0) ++ sputs [(3, .i .u32), (4, .i .i64)] t)) w' = g47_l12_x0 u0 t w' := by kernel_rfl
  exact h1.trans (h2.trans h3)

/-! 48: penstock/codec.NewReader (b: []uint8) -/
def g48_ann : List (List Nat × List Nat) := []

noncomputable def g48 (u0 : Option Addr × Nat × Nat) (w0 : World) : Option (Value × World) :=
(callB Try.prog .append #[31, 31] 31 #[true, false] #[.slice none 0 0, .slice u0.1 u0.2.1 u0.2.2] w0).bind fun r1 =>
(asSl r1.1).bind fun q2 =>
some (.pointer (some (⟨r1.2.heap.size, 0, none⟩)), (World.alloc r1.2 (.cells #[.slice q2.1 q2.2.1 q2.2.2, .int .i64 0, .int .i64 0] 116)))

theorem g48_eq (u0 : Option Addr × Nat × Nat) (w0 : World) : evFn Try.prog 48 g48_ann #[.slice u0.1 u0.2.1 u0.2.2] w0 = g48 u0 w0 := by kernel_rfl

theorem g48_call {u0 : Option Addr × Nat × Nat} {w0 : World} {r : Value × World} (h : g48 u0 w0 = some r) : callF Try.prog 48 #[.slice u0.1 u0.2.1 u0.2.2] w0 = some r :=
  callF_of_evFn (ann := g48_ann) Try.call48 (by kernel_rfl) ((g48_eq u0 w0).trans h)

/-! 49: (*penstock/codec.Reader).Fixed (r: *codec.Reader) -/
def g49_ann : List (List Nat × List Nat) := []

noncomputable def g49 (u0 : Option Addr) (w0 : World) : Option (Value × World) :=
if (u0.isNone) = true then
(some (.int .u32 0, w0))
else
(u0.bind fun a1 =>
(World.cell? w0 (Addr.add a1 2)).bind fun v2 =>
(asI .i64 v2).bind fun n3 =>
if ((n3 : Int) != 0) = true then
(some (.int .u32 0, w0))
else
(u0.bind fun a4 =>
(World.cell? (World.drew w0) a4).bind fun v5 =>
(asSl v5).bind fun q6 =>
u0.bind fun a8 =>
(World.cell? (World.drew w0) (Addr.add a8 1)).bind fun v9 =>
(asI .i64 v9).bind fun n10 =>
if (decide (((IntKind.i64.wrap ((q6.2.1 : Int) - n10)) : Int) < 4)) = true then
((callF Try.prog 53 #[.pointer u0, .int .i64 6] (World.drew w0)).bind fun r11 =>
(asTup 0 r11.1).bind fun _ =>
some (.int .u32 0, r11.2))
else
(u0.bind fun a12 =>
(World.cell? (World.drew (World.drew w0)) a12).bind fun v13 =>
(asSl v13).bind fun q14 =>
u0.bind fun a15 =>
(World.cell? (World.drew (World.drew w0)) (Addr.add a15 1)).bind fun v16 =>
(asI .i64 v16).bind fun n17 =>
(slc q14.1 q14.2.1 q14.2.2 1 (some n17) none none).bind fun q18 =>
u0.bind fun a19 =>
(World.cell? (World.drew (World.drew w0)) (Addr.add a19 1)).bind fun v20 =>
(asI .i64 v20).bind fun n21 =>
u0.bind fun a22 =>
(st1 (World.drew (World.drew w0)) (Addr.add a22 1) (.int .i64 (IntKind.i64.wrap (n21 + 4)))).bind fun w23 =>
(idxA q18.1 q18.2.1 1 0).bind fun a24 =>
(World.cell? (World.drew w23) a24).bind fun v25 =>
(asI .u8 v25).bind fun n26 =>
(idxA q18.1 q18.2.1 1 1).bind fun a27 =>
(World.cell? (World.drew w23) a27).bind fun v28 =>
(asI .u8 v28).bind fun n29 =>
(idxA q18.1 q18.2.1 1 2).bind fun a30 =>
(World.cell? (World.drew w23) a30).bind fun v31 =>
(asI .u8 v31).bind fun n32 =>
(idxA q18.1 q18.2.1 1 3).bind fun a33 =>
(World.cell? (World.drew w23) a33).bind fun v34 =>
(asI .u8 v34).bind fun n35 =>
some (.int .u32 (IntKind.u32.wrap ((BitVec.ofInt 32 (IntKind.u32.wrap ((BitVec.ofInt 32 (IntKind.u32.wrap ((BitVec.ofInt 32 (IntKind.u32.wrap n26) ||| BitVec.ofInt 32 (IntKind.u32.wrap ((IntKind.u32.wrap n29) * 2 ^ (min (Int.toNat 8) 32)))).toNat : Nat)) ||| BitVec.ofInt 32 (IntKind.u32.wrap ((IntKind.u32.wrap n32) * 2 ^ (min (Int.toNat 16) 32)))).toNat : Nat)) ||| BitVec.ofInt 32 (IntKind.u32.wrap ((IntKind.u32.wrap n35) * 2 ^ (min (Int.toNat 24) 32)))).toNat : Nat)), (World.drew w23)))))

theorem g49_eq (u0 : Option Addr) (w0 : World) : evFn Try.prog 49 g49_ann #[.pointer u0] w0 = g49 u0 w0 := by kernel_rfl

theorem g49_call {u0 : Option Addr} {w0 : World} {r : Value × World} (h : g49 u0 w0 = some r) : callF Try.prog 49 #[.pointer u0] w0 = some r :=
  callF_of_evFn (ann := g49_ann) Try.call49 (by kernel_rfl) ((g49_eq u0 w0).trans h)

/-! 50: (*penstock/codec.Reader).State (r: *codec.Reader) -/
def g50_ann : List (List Nat × List Nat) := []

noncomputable def g50 (u0 : Option Addr) (w0 : World) : Option (Value × World) :=
if (u0.isNone) = true then
(some (.tuple #[.int .i64 0, .int .i64 0, .int .i64 5], w0))
else
(u0.bind fun a1 =>
(World.cell? (World.drew w0) (Addr.add a1 1)).bind fun v2 =>
(asI .i64 v2).bind fun n3 =>
u0.bind fun a4 =>
(World.cell? (World.drew w0) a4).bind fun v5 =>
(asSl v5).bind fun q6 =>
u0.bind fun a8 =>
(World.cell? (World.drew w0) (Addr.add a8 1)).bind fun v9 =>
(asI .i64 v9).bind fun n10 =>
u0.bind fun a11 =>
(World.cell? (World.drew w0) (Addr.add a11 2)).bind fun v12 =>
(asI .i64 v12).bind fun n13 =>
some (.tuple #[.int .i64 n3, .int .i64 (IntKind.i64.wrap ((q6.2.1 : Int) - n10)), .int .i64 n13], (World.drew w0)))

theorem g50_eq (u0 : Option Addr) (w0 : World) : evFn Try.prog 50 g50_ann #[.pointer u0] w0 = g50 u0 w0 := by kernel_rfl

theorem g50_call {u0 : Option Addr} {w0 : World} {r : Value × World} (h : g50 u0 w0 = some r) : callF Try.prog 50 #[.pointer u0] w0 = some r :=
  callF_of_evFn (ann := g50_ann) Try.call50 (by kernel_rfl) ((g50_eq u0 w0).trans h)

/-! 51: (*penstock/crc.Table).More (t: *crc.Table, sum: uint32, b: []uint8) -/
def g51_ann : List (List Nat × List Nat) := [([0, 1, 0, 1, 1, 1, 1], [0, 20, 21, 7, 22])]

def g51_l4_cs (u0 : Option Addr) (u2 : Option Addr × Nat × Nat) : List (Nat × Value) := ([(0, .pointer u0), (20, .slice u2.1 u2.2.1 u2.2.2), (21, .int .i64 (u2.2.1 : Int))] : List (Nat × Value))

/-- the round of a loop ((*penstock/crc.Table).More) -/
noncomputable def g51_l4_b (u2 : Option Addr × Nat × Nat) (u0 : Option Addr) (s5 : Int × Int) (w6 : World) : Option (Exit × (Int × Int) × World) :=
if (decide ((s5.2 : Int) < (u2.2.1 : Int))) = true then
((idxA u2.1 u2.2.1 1 s5.2).bind fun a7 =>
(World.cell? w6 a7).bind fun v8 =>
(asI .u8 v8).bind fun n9 =>
u0.bind fun a10 =>
(idxA (some (Addr.add a10 3)) 256 1 (IntKind.u8.wrap ((BitVec.ofInt 8 (IntKind.u8.wrap s5.1) ^^^ BitVec.ofInt 8 n9).toNat : Nat))).bind fun a11 =>
(World.cell? w6 a11).bind fun v12 =>
(asI .u32 v12).bind fun n13 =>
some (.normal, ((IntKind.u32.wrap ((BitVec.ofInt 32 n13 ^^^ BitVec.ofInt 32 (Int.fdiv s5.1 (2 ^ (min (Int.toNat 8) 32)))).toNat : Nat)), (IntKind.i64.wrap (s5.2 + 1))), w6))
else
(some ((.exit 0), (s5.1, s5.2), w6))

noncomputable def g51_K14  : Exit → Env → World → Option (Value × World) :=
  retK Try.prog Try.f51.results.toList

noncomputable def g51_K15  : Exit → Env → World → Option (Value × World) :=
  seqK (ev Try.prog 41 51 g51_ann (cAt [1, 1, 1, 1, 1] (bodyOf Try.f51)) [1, 1, 1, 1, 1] g51_K14) g51_K14

noncomputable def g51_K16  : Exit → Env → World → Option (Value × World) :=
  blkK 0 g51_K15

/-- the loop, from a state on -/
noncomputable def g51_l4 (u0 : Option Addr) (u2 : Option Addr × Nat × Nat) (s : Int × Int) (w : World) : Option (Value × World) :=
  loopM Try.prog 41 51 g51_ann (cAt [1, 1, 1, 1, 0, 1, 0, 0] (bodyOf Try.f51)) [0, 1, 0, 1, 1, 1, 1] g51_K16 ((g51_l4_cs u0 u2) ++ sputs [(7, .i .u32), (22, .i .i64)] s) w

/-- behind the loop, left by x0 -/
noncomputable def g51_l4_x0  (t17 : Int × Int) (w18 : World) : Option (Value × World) :=
some (.int .u32 (IntKind.u32.wrap ((BitVec.ofInt 32 IntKind.u32.max ^^^ BitVec.ofInt 32 t17.1).toNat : Nat)), w18)

noncomputable def g51 (u0 : Option Addr) (u1 : Int) (u2 : Option Addr × Nat × Nat) (w0 : World) : Option (Value × World) :=
if (u0.isNone) = true then
(some (.int .u32 0, w0))
else
(u0.bind fun a1 =>
(callF Try.prog 54 #[.pointer (some a1), .func (.func 55) #[.pointer u0] #[]] w0).bind fun r2 =>
(asTup 0 r2.1).bind fun _ =>
g51_l4 u0 u2 ((IntKind.u32.wrap ((BitVec.ofInt 32 IntKind.u32.max ^^^ BitVec.ofInt 32 u1).toNat : Nat)), 0) r2.2)

theorem g51_eq (u0 : Option Addr) (u1 : Int) (u2 : Option Addr × Nat × Nat) (w0 : World) : evFn Try.prog 51 g51_ann #[.pointer u0, .int .u32 u1, .slice u2.1 u2.2.1 u2.2.2] w0 = g51 u0 u1 u2 w0 := by kernel_rfl

theorem g51_call {u0 : Option Addr} {u1 : Int} {u2 : Option Addr × Nat × Nat} {w0 : World} {r : Value × World} (h : g51 u0 u1 u2 w0 = some r) : callF Try.prog 51 #[.pointer u0, .int .u32 u1, .slice u2.1 u2.2.1 u2.2.2] w0 = some r :=
  callF_of_evFn (ann := g51_ann) Try.call51 (by kernel_rfl) ((g51_eq u0 u1 u2 w0).trans h)

theorem g51_l4_x0_of {u0 : Option Addr} {u2 : Option Addr × Nat × Nat} {s t : Int × Int} {w w' : World} (h : loopS (g51_l4_b u2 u0) s w = some (.exit 0, t, w')) : g51_l4 u0 u2 s w = g51_l4_x0 t w' := by
  have h1 : g51_l4 u0 u2 s w = loopM Try.prog 41 51 g51_ann (cAt [1, 1, 1, 1, 0, 1, 0, 0] (bodyOf Try.f51)) [0, 1, 0, 1, 1, 1, 1] g51_K16 ((g51_l4_cs u0 u2) ++ sputs [(7, .i .u32), (22, .i .i64)] s) w := by kernel_rfl
  have h2 : loopM Try.prog 41 51 g51_ann (cAt [1, 1, 1, 1, 0, 1, 0, 0] (bodyOf Try.f51)) [0, 1, 0, 1, 1, 1, 1] g51_K16 ((g51_l4_cs u0 u2) ++ sputs [(7, .i .u32), (22, .i .i64)] s) w = g51_K16 (.exit 0) (puts 41 ((g51_l4_cs u0 u2) ++ sputs [(7, .i .u32), (22, .i .i64)] t)) w' :=
    loop_rule (P := Try.prog) (N := 41) (f := 51) (ann := g51_ann) (body := (cAt [1, 1, 1, 1, 0, 1, 0, 0] (bodyOf Try.f51))) (pt := [0, 1, 0, 1, 1, 1, 1]) (K := g51_K16) (g51_l4_cs u0 u2) [(7, .i .u32), (22, .i .i64)] (b := g51_l4_b u2 u0) (fun s w => by kernel_rfl) (by kernel_rfl) (by kernel_rfl) (by kernel_rfl) h
  have h3 : g51_K16 (.exit 0) (puts 41 ((g51_l4_cs u0 u2) ++ sputs [(7, .i .u32), (22, .i .i64)] t)) w' = g51_l4_x0 t w' := by kernel_rfl
  exact h1.trans (h2.trans h3)

/-! 52: (*penstock/penstockref03.Reader).fail (r: *penstockref03.Reader, e: int) -/
def g52_ann : List (List Nat × List Nat) := []

noncomputable def g52 (u0 : Option Addr) (u1 : Int) (w0 : World) : Option (Value × World) :=
u0.bind fun a1 =>
(World.cell? w0 (Addr.add a1 2)).bind fun v2 =>
(asI .i64 v2).bind fun n3 =>
if ((n3 : Int) == 0) = true then
(u0.bind fun a4 =>
(st1 w0 (Addr.add a4 2) (.int .i64 u1)).bind fun w5 =>
some (.tuple #[], w5))
else
(some (.tuple #[], w0))

theorem g52_eq (u0 : Option Addr) (u1 : Int) (w0 : World) : evFn Try.prog 52 g52_ann #[.pointer u0, .int .i64 u1] w0 = g52 u0 u1 w0 := by kernel_rfl

theorem g52_call {u0 : Option Addr} {u1 : Int} {w0 : World} {r : Value × World} (h : g52 u0 u1 w0 = some r) : callF Try.prog 52 #[.pointer u0, .int .i64 u1] w0 = some r :=
  callF_of_evFn (ann := g52_ann) Try.call52 (by kernel_rfl) ((g52_eq u0 u1 w0).trans h)

/-! 53: (*penstock/codec.Reader).fail (r: *codec.Reader, e: api.Errno) -/
def g53_ann : List (List Nat × List Nat) := []

noncomputable def g53 (u0 : Option Addr) (u1 : Int) (w0 : World) : Option (Value × World) :=
u0.bind fun a1 =>
(World.cell? w0 (Addr.add a1 2)).bind fun v2 =>
(asI .i64 v2).bind fun n3 =>
if ((n3 : Int) == 0) = true then
(u0.bind fun a4 =>
(st1 w0 (Addr.add a4 2) (.int .i64 u1)).bind fun w5 =>
some (.tuple #[], w5))
else
(some (.tuple #[], w0))

theorem g53_eq (u0 : Option Addr) (u1 : Int) (w0 : World) : evFn Try.prog 53 g53_ann #[.pointer u0, .int .i64 u1] w0 = g53 u0 u1 w0 := by kernel_rfl

theorem g53_call {u0 : Option Addr} {u1 : Int} {w0 : World} {r : Value × World} (h : g53 u0 u1 w0 = some r) : callF Try.prog 53 #[.pointer u0, .int .i64 u1] w0 = some r :=
  callF_of_evFn (ann := g53_ann) Try.call53 (by kernel_rfl) ((g53_eq u0 u1 w0).trans h)

/-! 54: (*sync.Once).Do (o: *sync.Once, f: func()) -/
def g54_ann : List (List Nat × List Nat) := []

noncomputable def g54 (u0 : Option Addr) (u1 : Value) (w0 : World) : Option (Value × World) :=
u0.bind fun a1 =>
(callF Try.prog 56 #[.pointer (some a1)] w0).bind fun r2 =>
(asB r2.1).bind fun b3 =>
if (!b3) = true then
((callF Try.prog 57 #[.pointer u0, u1] r2.2).bind fun r4 =>
(asTup 0 r4.1).bind fun _ =>
some (.tuple #[], r4.2))
else
(some (.tuple #[], r2.2))

theorem g54_eq (u0 : Option Addr) (u1 : Value) (w0 : World) : evFn Try.prog 54 g54_ann #[.pointer u0, u1] w0 = g54 u0 u1 w0 := by kernel_rfl

theorem g54_call {u0 : Option Addr} {u1 : Value} {w0 : World} {r : Value × World} (h : g54 u0 u1 w0 = some r) : callF Try.prog 54 #[.pointer u0, u1] w0 = some r :=
  callF_of_evFn (ann := g54_ann) Try.call54 (by kernel_rfl) ((g54_eq u0 u1 w0).trans h)

/-! 55: (*penstock/crc.Table).fill (t: *crc.Table) -/
def g55_ann : List (List Nat × List Nat) := [([0, 1], [0, 4]), ([0, 1, 0, 1, 1, 0, 0, 1, 1, 0, 0, 1], [0, 2, 4, 3, 9])]

def g55_l1_cs (u0 : Option Addr) : List (Nat × Value) := ([(0, .pointer u0)] : List (Nat × Value))

def g55_l4_cs (u0 : Option Addr) (s2 : Int) : List (Nat × Value) := ([(0, .pointer u0), (2, .int .i64 s2), (4, .int .i64 s2)] : List (Nat × Value))

/-- the round of a loop ((*penstock/crc.Table).fill) -/
noncomputable def g55_l4_b (u0 : Option Addr) (s2 : Int) (s5 : Int × Int) (w6 : World) : Option (Exit × (Int × Int) × World) :=
if (decide ((s5.2 : Int) < 8)) = true then
(if (((IntKind.u32.wrap ((BitVec.ofInt 32 s5.1 &&& BitVec.ofInt 32 1).toNat : Nat)) : Int) == 1) = true then
(some (.normal, ((IntKind.u32.wrap ((BitVec.ofInt 32 (Int.fdiv s5.1 (2 ^ (min (Int.toNat 1) 32))) ^^^ BitVec.ofInt 32 2197175160).toNat : Nat)), (IntKind.i64.wrap (s5.2 + 1))), w6))
else
(some (.normal, ((Int.fdiv s5.1 (2 ^ (min (Int.toNat 1) 32))), (IntKind.i64.wrap (s5.2 + 1))), w6)))
else
(some ((.exit 2), (s5.1, s5.2), w6))

noncomputable def g55_K7 (u0 : Option Addr) : Exit → Env → World → Option (Exit × (Int) × World) :=
  fun e ρ w => ((List.map (·.1) (g55_l1_cs u0)).mapM ρ).bind fun _ => loopK [(4, .i .i64)] e ρ w

noncomputable def g55_K8 (u0 : Option Addr) : Exit → Env → World → Option (Exit × (Int) × World) :=
  seqK (ev Try.prog 27 55 g55_ann (cAt [1, 0, 0, 1, 1, 1] (bodyOf Try.f55)) [1, 1, 1, 0, 0, 1] (g55_K7 u0)) (g55_K7 u0)

noncomputable def g55_K9 (u0 : Option Addr) : Exit → Env → World → Option (Exit × (Int) × World) :=
  blkK 1 (g55_K8 u0)

noncomputable def g55_K10 (u0 : Option Addr) : Exit → Env → World → Option (Exit × (Int) × World) :=
  seqK (ev Try.prog 27 55 g55_ann (cAt [1, 0, 0, 1, 1, 0, 0, 1, 1, 1] (bodyOf Try.f55)) [1, 1, 1, 0, 0, 1, 1, 0, 0, 1] (g55_K9 u0)) (g55_K9 u0)

noncomputable def g55_K11 (u0 : Option Addr) : Exit → Env → World → Option (Exit × (Int) × World) :=
  blkK 2 (g55_K10 u0)

/-- the loop, from a state on -/
noncomputable def g55_l4 (u0 : Option Addr) (s2 : Int) (s : Int × Int) (w : World) : Option (Exit × (Int) × World) :=
  loopM Try.prog 27 55 g55_ann (cAt [1, 0, 0, 1, 1, 0, 0, 1, 1, 0, 1, 0, 0] (bodyOf Try.f55)) [0, 1, 0, 1, 1, 0, 0, 1, 1, 0, 0, 1] (g55_K11 u0) ((g55_l4_cs u0 s2) ++ sputs [(3, .i .u32), (9, .i .i64)] s) w

/-- behind the loop, left by x2 -/
noncomputable def g55_l4_x2 (u0 : Option Addr) (s2 : Int) (t12 : Int × Int) (w13 : World) : Option (Exit × (Int) × World) :=
u0.bind fun a14 =>
(idxA (some (Addr.add a14 3)) 256 1 s2).bind fun a15 =>
(st1 w13 a15 (.int .u32 t12.1)).bind fun w16 =>
some (.normal, (IntKind.i64.wrap (s2 + 1)), w16)

/-- the round of a loop ((*penstock/crc.Table).fill) -/
noncomputable def g55_l1_b (u0 : Option Addr) (s2 : Int) (w3 : World) : Option (Exit × (Int) × World) :=
if (decide ((s2 : Int) < 256)) = true then
(g55_l4 u0 s2 ((IntKind.u32.wrap s2), 0) w3)
else
(some ((.exit 0), s2, w3))

noncomputable def g55_K17  : Exit → Env → World → Option (Value × World) :=
  retK Try.prog Try.f55.results.toList

noncomputable def g55_K18  : Exit → Env → World → Option (Value × World) :=
  blkK 0 g55_K17

/-- the loop, from a state on -/
noncomputable def g55_l1 (u0 : Option Addr) (s : Int) (w : World) : Option (Value × World) :=
  loopM Try.prog 27 55 g55_ann (cAt [1, 0, 0] (bodyOf Try.f55)) [0, 1] g55_K18 ((g55_l1_cs u0) ++ sputs [(4, .i .i64)] s) w

/-- behind the loop, left by x0 -/
noncomputable def g55_l1_x0  (t19 : Int) (w20 : World) : Option (Value × World) :=
some (.tuple #[], w20)

noncomputable def g55 (u0 : Option Addr) (w0 : World) : Option (Value × World) :=
g55_l1 u0 0 w0

theorem g55_eq (u0 : Option Addr) (w0 : World) : evFn Try.prog 55 g55_ann #[.pointer u0] w0 = g55 u0 w0 := by kernel_rfl

theorem g55_call {u0 : Option Addr} {w0 : World} {r : Value × World} (h : g55 u0 w0 = some r) : callF Try.prog 55 #[.pointer u0] w0 = some r :=
  callF_of_evFn (ann := g55_ann) Try.call55 (by kernel_rfl) ((g55_eq u0 w0).trans h)

theorem g55_l4_x2_of {u0 : Option Addr} {s2 : Int} {s t : Int × Int} {w w' : World} (h : loopS (g55_l4_b u0 s2) s w = some (.exit 2, t, w')) : g55_l4 u0 s2 s w = g55_l4_x2 u0 s2 t w' := by
  have h1 : g55_l4 u0 s2 s w = loopM Try.prog 27 55 g55_ann (cAt [1, 0, 0, 1, 1, 0, 0, 1, 1, 0, 1, 0, 0] (bodyOf Try.f55)) [0, 1, 0, 1, 1, 0, 0, 1, 1, 0, 0, 1] (g55_K11 u0) ((g55_l4_cs u0 s2) ++ sputs [(3, .i .u32), (9, .i .i64)] s) w := by kernel_rfl
  have h2 : loopM Try.prog 27 55 g55_ann (cAt [1, 0, 0, 1, 1, 0, 0, 1, 1, 0, 1, 0, 0] (bodyOf Try.f55)) [0, 1, 0, 1, 1, 0, 0, 1, 1, 0, 0, 1] (g55_K11 u0) ((g55_l4_cs u0 s2) ++ sputs [(3, .i .u32), (9, .i .i64)] s) w = (g55_K11 u0) (.exit 2) (puts 27 ((g55_l4_cs u0 s2) ++ sputs [(3, .i .u32), (9, .i .i64)] t)) w' :=
    loop_rule (P := Try.prog) (N := 27) (f := 55) (ann := g55_ann) (body := (cAt [1, 0, 0, 1, 1, 0, 0, 1, 1, 0, 1, 0, 0] (bodyOf Try.f55))) (pt := [0, 1, 0, 1, 1, 0, 0, 1, 1, 0, 0, 1]) (K := (g55_K11 u0)) (g55_l4_cs u0 s2) [(3, .i .u32), (9, .i .i64)] (b := g55_l4_b u0 s2) (fun s w => by kernel_rfl) (by kernel_rfl) (by kernel_rfl) (by kernel_rfl) h
  have h3 : (g55_K11 u0) (.exit 2) (puts 27 ((g55_l4_cs u0 s2) ++ sputs [(3, .i .u32), (9, .i .i64)] t)) w' = g55_l4_x2 u0 s2 t w' := by kernel_rfl
  exact h1.trans (h2.trans h3)

theorem g55_l1_x0_of {u0 : Option Addr} {s t : Int} {w w' : World} (h : loopS (g55_l1_b u0) s w = some (.exit 0, t, w')) : g55_l1 u0 s w = g55_l1_x0 t w' := by
  have h1 : g55_l1 u0 s w = loopM Try.prog 27 55 g55_ann (cAt [1, 0, 0] (bodyOf Try.f55)) [0, 1] g55_K18 ((g55_l1_cs u0) ++ sputs [(4, .i .i64)] s) w := by kernel_rfl
  have h2 : loopM Try.prog 27 55 g55_ann (cAt [1, 0, 0] (bodyOf Try.f55)) [0, 1] g55_K18 ((g55_l1_cs u0) ++ sputs [(4, .i .i64)] s) w = g55_K18 (.exit 0) (puts 27 ((g55_l1_cs u0) ++ sputs [(4, .i .i64)] t)) w' :=
    loop_rule (P := Try.prog) (N := 27) (f := 55) (ann := g55_ann) (body := (cAt [1, 0, 0] (bodyOf Try.f55))) (pt := [0, 1]) (K := g55_K18) (g55_l1_cs u0) [(4, .i .i64)] (b := g55_l1_b u0) (fun s w => by kernel_rfl) (by kernel_rfl) (by kernel_rfl) (by kernel_rfl) h
  have h3 : g55_K18 (.exit 0) (puts 27 ((g55_l1_cs u0) ++ sputs [(4, .i .i64)] t)) w' = g55_l1_x0 t w' := by kernel_rfl
  exact h1.trans (h2.trans h3)

/-! 56: (*sync/atomic.Bool).Load (x: *atomic.Bool) -/
def g56_ann : List (List Nat × List Nat) := []

noncomputable def g56 (u0 : Option Addr) (w0 : World) : Option (Value × World) :=
u0.bind fun a1 =>
(callF Try.prog 58 #[.pointer (some a1)] w0).bind fun r2 =>
(asI .u32 r2.1).bind fun n3 =>
some (.bool ((n3 : Int) != 0), r2.2)

theorem g56_eq (u0 : Option Addr) (w0 : World) : evFn Try.prog 56 g56_ann #[.pointer u0] w0 = g56 u0 w0 := by kernel_rfl

theorem g56_call {u0 : Option Addr} {w0 : World} {r : Value × World} (h : g56 u0 w0 = some r) : callF Try.prog 56 #[.pointer u0] w0 = some r :=
  callF_of_evFn (ann := g56_ann) Try.call56 (by kernel_rfl) ((g56_eq u0 w0).trans h)

end Go.Proofs.Ytnflklkjjjlpaaa
