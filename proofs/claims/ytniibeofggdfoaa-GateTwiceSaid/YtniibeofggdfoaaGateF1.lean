/-
  GateF1: lemmas on what Go functions of this seat come to (for whatever arguments, as each says). No condition but those that stand in each lemma.
-/
import Derived.Test.YtniibeofggdfoaaLb6
import Derived.Test.YtniibeofggdfoaaProg
namespace Go.Proofs.Ytniibeofggdfoaa
open Go Go.Ev
set_option maxRecDepth 100000
set_option linter.unusedVariables false
/-! 3: penstock/penstocklaw01.GateApart (from: uint64, limit: uint64, sizes: []uint8) -/
def g3_ann : List (List Nat × List Nat) := [([0, 1, 0, 1, 1, 1, 1, 1], [1, 7, 8, 9, 32, 33, 6, 10, 34])]

def g3_l10_cs (u1 : Int) (p2 : Option Addr) (n7 : Int) (n8 : Int) (u2 : Option Addr × Nat × Nat) : List (Nat × Value) := ([(1, .int .u64 u1), (7, .pointer p2), (8, .int .u64 n7), (9, .int .u64 n8), (32, .slice u2.1 u2.2.1 u2.2.2), (33, .int .i64 (u2.2.1 : Int))] : List (Nat × Value))

/-- the round of a loop (penstock/penstocklaw01.GateApart) -/
noncomputable def g3_l10_b (u2 : Option Addr × Nat × Nat) (p2 : Option Addr) (n8 : Int) (n7 : Int) (u1 : Int) (s11 : Bool × Int × Int) (w12 : World) : Option (Exit × (Bool × Int × Int) × World) :=
if (decide ((s11.2.2 : Int) < (u2.2.1 : Int))) = true then
((idxA u2.1 u2.2.1 1 s11.2.2).bind fun a13 =>
(World.cell? w12 a13).bind fun v14 =>
(asI .u8 v14).bind fun n15 =>
(callF Try.prog 13 #[.pointer p2, .int .u64 (IntKind.u64.wrap n15)] w12).bind fun r16 =>
(asTup 2 r16.1).bind fun l17 =>
(asI .u64 (l17.getD 0 undef)).bind fun n18 =>
(asB (l17.getD 1 undef)).bind fun b19 =>
if (!b19) = true then
(if ((n18 : Int) != 0) = true then
(some (.ret, (false, s11.2.1, s11.2.2), r16.2))
else
(if (decide (((IntKind.u64.wrap n15) : Int) > 0)) = true then
(if (decide (((IntKind.u64.wrap n15) : Int) ≤ (IntKind.u64.wrap (n8 - (IntKind.u64.wrap (s11.2.1 - n7)))))) = true then
(some (.ret, (false, s11.2.1, s11.2.2), r16.2))
else
(some (.normal, (s11.1, s11.2.1, (IntKind.i64.wrap (s11.2.2 + 1))), r16.2)))
else
(some (.normal, (s11.1, s11.2.1, (IntKind.i64.wrap (s11.2.2 + 1))), r16.2))))
else
(if ((n18 : Int) != s11.2.1) = true then
(some (.ret, (false, s11.2.1, s11.2.2), r16.2))
else
(if ((n15 : Int) == 0) = true then
(some (.ret, (false, s11.2.1, s11.2.2), r16.2))
else
(if (decide (((IntKind.u64.wrap (n18 + (IntKind.u64.wrap n15))) : Int) > u1)) = true then
(some (.ret, (false, s11.2.1, s11.2.2), r16.2))
else
(some (.normal, (s11.1, (IntKind.u64.wrap (n18 + (IntKind.u64.wrap n15))), (IntKind.i64.wrap (s11.2.2 + 1))), r16.2))))))
else
(some ((.exit 0), (s11.1, s11.2.1, s11.2.2), w12))

noncomputable def g3_K20  : Exit → Env → World → Option (Value × World) :=
  retK Try.prog Try.f3.results.toList

noncomputable def g3_K21  : Exit → Env → World → Option (Value × World) :=
  seqK (ev Try.prog 101 3 g3_ann (cAt [1, 1, 1, 1, 1, 1] (bodyOf Try.f3)) [1, 1, 1, 1, 1, 1] g3_K20) g3_K20

noncomputable def g3_K22  : Exit → Env → World → Option (Value × World) :=
  blkK 0 g3_K21

/-- the loop, from a state on -/
noncomputable def g3_l10 (u1 : Int) (p2 : Option Addr) (n7 : Int) (n8 : Int) (u2 : Option Addr × Nat × Nat) (s : Bool × Int × Int) (w : World) : Option (Value × World) :=
  loopM Try.prog 101 3 g3_ann (cAt [1, 1, 1, 1, 1, 0, 1, 0, 0] (bodyOf Try.f3)) [0, 1, 0, 1, 1, 1, 1, 1] g3_K22 ((g3_l10_cs u1 p2 n7 n8 u2) ++ sputs [(6, .b), (10, .i .u64), (34, .i .i64)] s) w

/-- behind the loop, left by x0 -/
noncomputable def g3_l10_x0 (p2 : Option Addr) (n8 : Int) (n7 : Int) (t23 : Bool × Int × Int) (w24 : World) : Option (Value × World) :=
(callF Try.prog 12 #[.pointer p2] w24).bind fun r25 =>
(asTup 2 r25.1).bind fun l26 =>
(asI .u64 (l26.getD 0 undef)).bind fun n27 =>
(asI .u64 (l26.getD 1 undef)).bind fun n28 =>
if ((n27 : Int) == t23.2.1) = true then
(some (.bool ((n28 : Int) == (IntKind.u64.wrap (n8 - (IntKind.u64.wrap (t23.2.1 - n7))))), r25.2))
else
(some (.bool false, r25.2))

/-- behind the loop, left by ret -/
noncomputable def g3_l10_ret  (t29 : Bool × Int × Int) (w30 : World) : Option (Value × World) :=
some (.bool t29.1, w30)

noncomputable def g3 (u0 : Int) (u1 : Int) (u2 : Option Addr × Nat × Nat) (w0 : World) : Option (Value × World) :=
(callF Try.prog 10 #[.int .u64 u0, .int .u64 u1] w0).bind fun r1 =>
(asP r1.1).bind fun p2 =>
(callF Try.prog 11 #[] r1.2).bind fun r3 =>
(asB r3.1).bind fun b4 =>
if (!b4) = true then
(some (.bool false, r3.2))
else
(if (p2.isNone) = true then
(some (.bool false, r3.2))
else
((callF Try.prog 12 #[.pointer p2] r3.2).bind fun r5 =>
(asTup 2 r5.1).bind fun l6 =>
(asI .u64 (l6.getD 0 undef)).bind fun n7 =>
(asI .u64 (l6.getD 1 undef)).bind fun n8 =>
g3_l10 u1 p2 n7 n8 u2 (false, n7, 0) r5.2))

theorem g3_eq (u0 : Int) (u1 : Int) (u2 : Option Addr × Nat × Nat) (w0 : World) : evFn Try.prog 3 g3_ann #[.int .u64 u0, .int .u64 u1, .slice u2.1 u2.2.1 u2.2.2] w0 = g3 u0 u1 u2 w0 := by kernel_rfl

theorem g3_call {u0 : Int} {u1 : Int} {u2 : Option Addr × Nat × Nat} {w0 : World} {r : Value × World} (h : g3 u0 u1 u2 w0 = some r) : callF Try.prog 3 #[.int .u64 u0, .int .u64 u1, .slice u2.1 u2.2.1 u2.2.2] w0 = some r :=
  callF_of_evFn (ann := g3_ann) Try.call3 (by kernel_rfl) ((g3_eq u0 u1 u2 w0).trans h)

theorem g3_l10_x0_of {u1 : Int} {p2 : Option Addr} {n7 : Int} {n8 : Int} {u2 : Option Addr × Nat × Nat} {s t : Bool × Int × Int} {w w' : World} (h : loopS (g3_l10_b u2 p2 n8 n7 u1) s w = some (.exit 0, t, w')) : g3_l10 u1 p2 n7 n8 u2 s w = g3_l10_x0 p2 n8 n7 t w' := by
  have h1 : g3_l10 u1 p2 n7 n8 u2 s w = loopM Try.prog 101 3 g3_ann (cAt [1, 1, 1, 1, 1, 0, 1, 0, 0] (bodyOf Try.f3)) [0, 1, 0, 1, 1, 1, 1, 1] g3_K22 ((g3_l10_cs u1 p2 n7 n8 u2) ++ sputs [(6, .b), (10, .i .u64), (34, .i .i64)] s) w := by kernel_rfl
  have h2 : loopM Try.prog 101 3 g3_ann (cAt [1, 1, 1, 1, 1, 0, 1, 0, 0] (bodyOf Try.f3)) [0, 1, 0, 1, 1, 1, 1, 1] g3_K22 ((g3_l10_cs u1 p2 n7 n8 u2) ++ sputs [(6, .b), (10, .i .u64), (34, .i .i64)] s) w = g3_K22 (.exit 0) (puts 101 ((g3_l10_cs u1 p2 n7 n8 u2) ++ sputs [(6, .b), (10, .i .u64), (34, .i .i64)] t)) w' :=
    loop_rule (P := Try.prog) (N := 101) (f := 3) (ann := g3_ann) (body := (cAt [1, 1, 1, 1, 1, 0, 1, 0, 0] (bodyOf Try.f3))) (pt := [0, 1, 0, 1, 1, 1, 1, 1]) (K := g3_K22) (g3_l10_cs u1 p2 n7 n8 u2) [(6, .b), (10, .i .u64), (34, .i .i64)] (b := g3_l10_b u2 p2 n8 n7 u1) (fun s w => by kernel_rfl) (by kernel_rfl) (by kernel_rfl) (by kernel_rfl) h
  have h3 : g3_K22 (.exit 0) (puts 101 ((g3_l10_cs u1 p2 n7 n8 u2) ++ sputs [(6, .b), (10, .i .u64), (34, .i .i64)] t)) w' = g3_l10_x0 p2 n8 n7 t w' := by kernel_rfl
  exact h1.trans (h2.trans h3)

theorem g3_l10_ret_of {u1 : Int} {p2 : Option Addr} {n7 : Int} {n8 : Int} {u2 : Option Addr × Nat × Nat} {s t : Bool × Int × Int} {w w' : World} (h : loopS (g3_l10_b u2 p2 n8 n7 u1) s w = some (.ret, t, w')) : g3_l10 u1 p2 n7 n8 u2 s w = g3_l10_ret t w' := by
  have h1 : g3_l10 u1 p2 n7 n8 u2 s w = loopM Try.prog 101 3 g3_ann (cAt [1, 1, 1, 1, 1, 0, 1, 0, 0] (bodyOf Try.f3)) [0, 1, 0, 1, 1, 1, 1, 1] g3_K22 ((g3_l10_cs u1 p2 n7 n8 u2) ++ sputs [(6, .b), (10, .i .u64), (34, .i .i64)] s) w := by kernel_rfl
  have h2 : loopM Try.prog 101 3 g3_ann (cAt [1, 1, 1, 1, 1, 0, 1, 0, 0] (bodyOf Try.f3)) [0, 1, 0, 1, 1, 1, 1, 1] g3_K22 ((g3_l10_cs u1 p2 n7 n8 u2) ++ sputs [(6, .b), (10, .i .u64), (34, .i .i64)] s) w = g3_K22 (.ret) (puts 101 ((g3_l10_cs u1 p2 n7 n8 u2) ++ sputs [(6, .b), (10, .i .u64), (34, .i .i64)] t)) w' :=
    loop_rule (P := Try.prog) (N := 101) (f := 3) (ann := g3_ann) (body := (cAt [1, 1, 1, 1, 1, 0, 1, 0, 0] (bodyOf Try.f3))) (pt := [0, 1, 0, 1, 1, 1, 1, 1]) (K := g3_K22) (g3_l10_cs u1 p2 n7 n8 u2) [(6, .b), (10, .i .u64), (34, .i .i64)] (b := g3_l10_b u2 p2 n8 n7 u1) (fun s w => by kernel_rfl) (by kernel_rfl) (by kernel_rfl) (by kernel_rfl) h
  have h3 : g3_K22 (.ret) (puts 101 ((g3_l10_cs u1 p2 n7 n8 u2) ++ sputs [(6, .b), (10, .i .u64), (34, .i .i64)] t)) w' = g3_l10_ret t w' := by kernel_rfl
  exact h1.trans (h2.trans h3)

/-! 4: penstock/penstocklaw01.GatePlays (from: uint64, limit: uint64, script: []penstocklaw01.Op) -/
def g4_ann : List (List Nat × List Nat) := [([0, 1, 0, 1, 1, 1], [7, 8, 33, 34, 6, 35])]

def g4_l8_cs (p2 : Option Addr) (p4 : Option Addr) (u2 : Option Addr × Nat × Nat) : List (Nat × Value) := ([(7, .pointer p2), (8, .pointer p4), (33, .slice u2.1 u2.2.1 u2.2.2), (34, .int .i64 (u2.2.1 : Int))] : List (Nat × Value))

noncomputable def g4_j16 (p2 : Option Addr) (p4 : Option Addr) (s9 : Bool × Int) (w45 : World) : Option (Exit × (Bool × Int) × World) :=
(callF Try.prog 12 #[.pointer p2] w45).bind fun r46 =>
(asTup 2 r46.1).bind fun l47 =>
(asI .u64 (l47.getD 0 undef)).bind fun n48 =>
(asI .u64 (l47.getD 1 undef)).bind fun n49 =>
p4.bind fun a50 =>
(World.cell? (World.drew r46.2) a50).bind fun v51 =>
(asI .u64 v51).bind fun n52 =>
if ((n48 : Int) != n52) = true then
(some (.ret, (false, s9.2), (World.drew r46.2)))
else
(p4.bind fun a53 =>
(World.cell? (World.drew r46.2) (Addr.add a53 1)).bind fun v54 =>
(asI .u64 v54).bind fun n55 =>
p4.bind fun a56 =>
(World.cell? (World.drew r46.2) a56).bind fun v57 =>
(asI .u64 v57).bind fun n58 =>
if ((n49 : Int) != (IntKind.u64.wrap (n55 - n58))) = true then
(some (.ret, (false, s9.2), (World.drew r46.2)))
else
(some (.normal, (s9.1, (IntKind.i64.wrap (s9.2 + 1))), (World.drew r46.2))))

/-- the round of a loop (penstock/penstocklaw01.GatePlays) -/
noncomputable def g4_l8_b (u2 : Option Addr × Nat × Nat) (p2 : Option Addr) (p4 : Option Addr) (s9 : Bool × Int) (w10 : World) : Option (Exit × (Bool × Int) × World) :=
if (decide ((s9.2 : Int) < (u2.2.1 : Int))) = true then
((idxA u2.1 u2.2.1 2 s9.2).bind fun a11 =>
(ldN w10 a11 0 2).bind fun l12 =>
(asI .i64 (l12.getD 0 undef)).bind fun n13 =>
(asI .u64 (l12.getD 1 undef)).bind fun n14 =>
(stL (World.alloc w10 (.cells #[.int .i64 0, .int .u64 0] 36)) (⟨w10.heap.size, 0, none⟩) [.int .i64 n13, .int .u64 n14] 0).bind fun w15 =>
(World.cell? w15 (⟨w10.heap.size, 0, none⟩)).bind fun v17 =>
(asI .i64 v17).bind fun n18 =>
if ((n18 : Int) == 0) = true then
((World.cell? w15 (Addr.add (⟨w10.heap.size, 0, none⟩) 1)).bind fun v19 =>
(asI .u64 v19).bind fun n20 =>
(callF Try.prog 13 #[.pointer p2, .int .u64 n20] w15).bind fun r21 =>
(asTup 2 r21.1).bind fun l22 =>
(asI .u64 (l22.getD 0 undef)).bind fun n23 =>
(asB (l22.getD 1 undef)).bind fun b24 =>
(World.cell? r21.2 (Addr.add (⟨w10.heap.size, 0, none⟩) 1)).bind fun v25 =>
(asI .u64 v25).bind fun n26 =>
(callF Try.prog 15 #[.pointer p4, .int .u64 n26] r21.2).bind fun r27 =>
(asTup 2 r27.1).bind fun l28 =>
(asI .u64 (l28.getD 0 undef)).bind fun n29 =>
(asB (l28.getD 1 undef)).bind fun b30 =>
if ((n23 : Int) != n29) = true then
(some (.ret, (false, s9.2), r27.2))
else
(if (!(b24 == b30)) = true then
(some (.ret, (false, s9.2), r27.2))
else
(g4_j16 p2 p4 s9 r27.2)))
else
(if ((n18 : Int) == 1) = true then
((callF Try.prog 16 #[.pointer p2] w15).bind fun r31 =>
(asTup 2 r31.1).bind fun l32 =>
(asI .u64 (l32.getD 0 undef)).bind fun n33 =>
(asB (l32.getD 1 undef)).bind fun b34 =>
(callF Try.prog 15 #[.pointer p4, .int .u64 1] r31.2).bind fun r35 =>
(asTup 2 r35.1).bind fun l36 =>
(asI .u64 (l36.getD 0 undef)).bind fun n37 =>
(asB (l36.getD 1 undef)).bind fun b38 =>
if ((n33 : Int) != n37) = true then
(some (.ret, (false, s9.2), r35.2))
else
(if (!(b34 == b38)) = true then
(some (.ret, (false, s9.2), r35.2))
else
(g4_j16 p2 p4 s9 r35.2)))
else
((World.cell? w15 (Addr.add (⟨w10.heap.size, 0, none⟩) 1)).bind fun v39 =>
(asI .u64 v39).bind fun n40 =>
(callF Try.prog 17 #[.pointer p2, .int .u64 n40] w15).bind fun r41 =>
(asTup 0 r41.1).bind fun _ =>
(World.cell? r41.2 (Addr.add (⟨w10.heap.size, 0, none⟩) 1)).bind fun v42 =>
(asI .u64 v42).bind fun n43 =>
(callF Try.prog 18 #[.pointer p4, .int .u64 n43] r41.2).bind fun r44 =>
(asTup 0 r44.1).bind fun _ =>
g4_j16 p2 p4 s9 r44.2)))
else
(some ((.exit 0), (s9.1, s9.2), w10))

noncomputable def g4_K59  : Exit → Env → World → Option (Value × World) :=
  retK Try.prog Try.f4.results.toList

noncomputable def g4_K60  : Exit → Env → World → Option (Value × World) :=
  seqK (ev Try.prog 118 4 g4_ann (cAt [1, 1, 1, 1] (bodyOf Try.f4)) [1, 1, 1, 1] g4_K59) g4_K59

noncomputable def g4_K61  : Exit → Env → World → Option (Value × World) :=
  blkK 0 g4_K60

/-- the loop, from a state on -/
noncomputable def g4_l8 (p2 : Option Addr) (p4 : Option Addr) (u2 : Option Addr × Nat × Nat) (s : Bool × Int) (w : World) : Option (Value × World) :=
  loopM Try.prog 118 4 g4_ann (cAt [1, 1, 1, 0, 1, 0, 0] (bodyOf Try.f4)) [0, 1, 0, 1, 1, 1] g4_K61 ((g4_l8_cs p2 p4 u2) ++ sputs [(6, .b), (35, .i .i64)] s) w

/-- behind the loop, left by x0 -/
noncomputable def g4_l8_x0  (t62 : Bool × Int) (w63 : World) : Option (Value × World) :=
some (.bool true, w63)

/-- behind the loop, left by ret -/
noncomputable def g4_l8_ret  (t64 : Bool × Int) (w65 : World) : Option (Value × World) :=
some (.bool t64.1, w65)

noncomputable def g4 (u0 : Int) (u1 : Int) (u2 : Option Addr × Nat × Nat) (w0 : World) : Option (Value × World) :=
(callF Try.prog 10 #[.int .u64 u0, .int .u64 u1] w0).bind fun r1 =>
(asP r1.1).bind fun p2 =>
(callF Try.prog 14 #[.int .u64 u0, .int .u64 u1] r1.2).bind fun r3 =>
(asP r3.1).bind fun p4 =>
(callF Try.prog 11 #[] r3.2).bind fun r5 =>
(asB r5.1).bind fun b6 =>
if (!b6) = true then
(some (.bool false, r5.2))
else
(if (p2.isNone) = true then
(some (.bool false, r5.2))
else
(g4_l8 p2 p4 u2 (false, 0) r5.2))

theorem g4_eq (u0 : Int) (u1 : Int) (u2 : Option Addr × Nat × Nat) (w0 : World) : evFn Try.prog 4 g4_ann #[.int .u64 u0, .int .u64 u1, .slice u2.1 u2.2.1 u2.2.2] w0 = g4 u0 u1 u2 w0 := by kernel_rfl

theorem g4_call {u0 : Int} {u1 : Int} {u2 : Option Addr × Nat × Nat} {w0 : World} {r : Value × World} (h : g4 u0 u1 u2 w0 = some r) : callF Try.prog 4 #[.int .u64 u0, .int .u64 u1, .slice u2.1 u2.2.1 u2.2.2] w0 = some r :=
  callF_of_evFn (ann := g4_ann) Try.call4 (by kernel_rfl) ((g4_eq u0 u1 u2 w0).trans h)

theorem g4_l8_x0_of {p2 : Option Addr} {p4 : Option Addr} {u2 : Option Addr × Nat × Nat} {s t : Bool × Int} {w w' : World} (h : loopS (g4_l8_b u2 p2 p4) s w = some (.exit 0, t, w')) : g4_l8 p2 p4 u2 s w = g4_l8_x0 t w' := by
  have h1 : g4_l8 p2 p4 u2 s w = loopM Try.prog 118 4 g4_ann (cAt [1, 1, 1, 0, 1, 0, 0] (bodyOf Try.f4)) [0, 1, 0, 1, 1, 1] g4_K61 ((g4_l8_cs p2 p4 u2) ++ sputs [(6, .b), (35, .i .i64)] s) w := by kernel_rfl
  have h2 : loopM Try.prog 118 4 g4_ann (cAt [1, 1, 1, 0, 1, 0, 0] (bodyOf Try.f4)) [0, 1, 0, 1, 1, 1] g4_K61 ((g4_l8_cs p2 p4 u2) ++ sputs [(6, .b), (35, .i .i64)] s) w = g4_K61 (.exit 0) (puts 118 ((g4_l8_cs p2 p4 u2) ++ sputs [(6, .b), (35, .i .i64)] t)) w' :=
    loop_rule (P := Try.prog) (N := 118) (f := 4) (ann := g4_ann) (body := (cAt [1, 1, 1, 0, 1, 0, 0] (bodyOf Try.f4))) (pt := [0, 1, 0, 1, 1, 1]) (K := g4_K61) (g4_l8_cs p2 p4 u2) [(6, .b), (35, .i .i64)] (b := g4_l8_b u2 p2 p4) (fun s w => by kernel_rfl) (by kernel_rfl) (by kernel_rfl) (by kernel_rfl) h
  have h3 : g4_K61 (.exit 0) (puts 118 ((g4_l8_cs p2 p4 u2) ++ sputs [(6, .b), (35, .i .i64)] t)) w' = g4_l8_x0 t w' := by kernel_rfl
  exact h1.trans (h2.trans h3)

theorem g4_l8_ret_of {p2 : Option Addr} {p4 : Option Addr} {u2 : Option Addr × Nat × Nat} {s t : Bool × Int} {w w' : World} (h : loopS (g4_l8_b u2 p2 p4) s w = some (.ret, t, w')) : g4_l8 p2 p4 u2 s w = g4_l8_ret t w' := by
  have h1 : g4_l8 p2 p4 u2 s w = loopM Try.prog 118 4 g4_ann (cAt [1, 1, 1, 0, 1, 0, 0] (bodyOf Try.f4)) [0, 1, 0, 1, 1, 1] g4_K61 ((g4_l8_cs p2 p4 u2) ++ sputs [(6, .b), (35, .i .i64)] s) w := by kernel_rfl
  have h2 : loopM Try.prog 118 4 g4_ann (cAt [1, 1, 1, 0, 1, 0, 0] (bodyOf Try.f4)) [0, 1, 0, 1, 1, 1] g4_K61 ((g4_l8_cs p2 p4 u2) ++ sputs [(6, .b), (35, .i .i64)] s) w = g4_K61 (.ret) (puts 118 ((g4_l8_cs p2 p4 u2) ++ sputs [(6, .b), (35, .i .i64)] t)) w' :=
    loop_rule (P := Try.prog) (N := 118) (f := 4) (ann := g4_ann) (body := (cAt [1, 1, 1, 0, 1, 0, 0] (bodyOf Try.f4))) (pt := [0, 1, 0, 1, 1, 1]) (K := g4_K61) (g4_l8_cs p2 p4 u2) [(6, .b), (35, .i .i64)] (b := g4_l8_b u2 p2 p4) (fun s w => by kernel_rfl) (by kernel_rfl) (by kernel_rfl) (by kernel_rfl) h
  have h3 : g4_K61 (.ret) (puts 118 ((g4_l8_cs p2 p4 u2) ++ sputs [(6, .b), (35, .i .i64)] t)) w' = g4_l8_ret t w' := by kernel_rfl
  exact h1.trans (h2.trans h3)

/-! 5: penstock/penstocklaw01.GateRaised (from: uint64, limit: uint64, to: uint64, n: uint8) -/
def g5_ann : List (List Nat × List Nat) := []

noncomputable def g5 (u0 : Int) (u1 : Int) (u2 : Int) (u3 : Int) (w0 : World) : Option (Value × World) :=
(callF Try.prog 10 #[.int .u64 u0, .int .u64 u1] w0).bind fun r1 =>
(asP r1.1).bind fun p2 =>
(callF Try.prog 11 #[] r1.2).bind fun r3 =>
(asB r3.1).bind fun b4 =>
if (!b4) = true then
(some (.bool false, r3.2))
else
(if (p2.isNone) = true then
(some (.bool false, r3.2))
else
((callF Try.prog 17 #[.pointer p2, .int .u64 u2] r3.2).bind fun r5 =>
(asTup 0 r5.1).bind fun _ =>
(callF Try.prog 12 #[.pointer p2] r5.2).bind fun r6 =>
(asTup 2 r6.1).bind fun l7 =>
(asI .u64 (l7.getD 0 undef)).bind fun n8 =>
(asI .u64 (l7.getD 1 undef)).bind fun n9 =>
(callF Try.prog 13 #[.pointer p2, .int .u64 (IntKind.u64.wrap u3)] r6.2).bind fun r10 =>
(asTup 2 r10.1).bind fun l11 =>
(asI .u64 (l11.getD 0 undef)).bind fun n12 =>
(asB (l11.getD 1 undef)).bind fun b13 =>
if b13 = true then
(if (decide ((n12 : Int) < u2)) = true then
(if (decide ((n12 : Int) < u1)) = true then
(some (.bool false, r10.2))
else
(if ((n12 : Int) != n8) = true then
(some (.bool false, r10.2))
else
(if (decide ((u3 : Int) > 0)) = true then
(if (!(b13 == (decide (((IntKind.u64.wrap u3) : Int) ≤ n9)))) = true then
(some (.bool false, r10.2))
else
((callF Try.prog 12 #[.pointer p2] r10.2).bind fun r14 =>
(asTup 2 r14.1).bind fun l15 =>
(asI .u64 (l15.getD 0 undef)).bind fun n16 =>
(asI .u64 (l15.getD 1 undef)).bind fun n17 =>
(callF Try.prog 17 #[.pointer p2, .int .u64 n8] r14.2).bind fun r18 =>
(asTup 0 r18.1).bind fun _ =>
(callF Try.prog 12 #[.pointer p2] r18.2).bind fun r19 =>
(asTup 2 r19.1).bind fun l20 =>
(asI .u64 (l20.getD 0 undef)).bind fun n21 =>
(asI .u64 (l20.getD 1 undef)).bind fun n22 =>
some (.bool ((n16 : Int) == n21), r19.2)))
else
(if (!(b13 == false)) = true then
(some (.bool false, r10.2))
else
((callF Try.prog 12 #[.pointer p2] r10.2).bind fun r23 =>
(asTup 2 r23.1).bind fun l24 =>
(asI .u64 (l24.getD 0 undef)).bind fun n25 =>
(asI .u64 (l24.getD 1 undef)).bind fun n26 =>
(callF Try.prog 17 #[.pointer p2, .int .u64 n8] r23.2).bind fun r27 =>
(asTup 0 r27.1).bind fun _ =>
(callF Try.prog 12 #[.pointer p2] r27.2).bind fun r28 =>
(asTup 2 r28.1).bind fun l29 =>
(asI .u64 (l29.getD 0 undef)).bind fun n30 =>
(asI .u64 (l29.getD 1 undef)).bind fun n31 =>
some (.bool ((n25 : Int) == n30), r28.2))))))
else
(if ((n12 : Int) != n8) = true then
(some (.bool false, r10.2))
else
(if (decide ((u3 : Int) > 0)) = true then
(if (!(b13 == (decide (((IntKind.u64.wrap u3) : Int) ≤ n9)))) = true then
(some (.bool false, r10.2))
else
((callF Try.prog 12 #[.pointer p2] r10.2).bind fun r32 =>
(asTup 2 r32.1).bind fun l33 =>
(asI .u64 (l33.getD 0 undef)).bind fun n34 =>
(asI .u64 (l33.getD 1 undef)).bind fun n35 =>
(callF Try.prog 17 #[.pointer p2, .int .u64 n8] r32.2).bind fun r36 =>
(asTup 0 r36.1).bind fun _ =>
(callF Try.prog 12 #[.pointer p2] r36.2).bind fun r37 =>
(asTup 2 r37.1).bind fun l38 =>
(asI .u64 (l38.getD 0 undef)).bind fun n39 =>
(asI .u64 (l38.getD 1 undef)).bind fun n40 =>
some (.bool ((n34 : Int) == n39), r37.2)))
else
(if (!(b13 == false)) = true then
(some (.bool false, r10.2))
else
((callF Try.prog 12 #[.pointer p2] r10.2).bind fun r41 =>
(asTup 2 r41.1).bind fun l42 =>
(asI .u64 (l42.getD 0 undef)).bind fun n43 =>
(asI .u64 (l42.getD 1 undef)).bind fun n44 =>
(callF Try.prog 17 #[.pointer p2, .int .u64 n8] r41.2).bind fun r45 =>
(asTup 0 r45.1).bind fun _ =>
(callF Try.prog 12 #[.pointer p2] r45.2).bind fun r46 =>
(asTup 2 r46.1).bind fun l47 =>
(asI .u64 (l47.getD 0 undef)).bind fun n48 =>
(asI .u64 (l47.getD 1 undef)).bind fun n49 =>
some (.bool ((n43 : Int) == n48), r46.2))))))
else
(if (decide ((u3 : Int) > 0)) = true then
(if (!(b13 == (decide (((IntKind.u64.wrap u3) : Int) ≤ n9)))) = true then
(some (.bool false, r10.2))
else
((callF Try.prog 12 #[.pointer p2] r10.2).bind fun r50 =>
(asTup 2 r50.1).bind fun l51 =>
(asI .u64 (l51.getD 0 undef)).bind fun n52 =>
(asI .u64 (l51.getD 1 undef)).bind fun n53 =>
(callF Try.prog 17 #[.pointer p2, .int .u64 n8] r50.2).bind fun r54 =>
(asTup 0 r54.1).bind fun _ =>
(callF Try.prog 12 #[.pointer p2] r54.2).bind fun r55 =>
(asTup 2 r55.1).bind fun l56 =>
(asI .u64 (l56.getD 0 undef)).bind fun n57 =>
(asI .u64 (l56.getD 1 undef)).bind fun n58 =>
some (.bool ((n52 : Int) == n57), r55.2)))
else
(if (!(b13 == false)) = true then
(some (.bool false, r10.2))
else
((callF Try.prog 12 #[.pointer p2] r10.2).bind fun r59 =>
(asTup 2 r59.1).bind fun l60 =>
(asI .u64 (l60.getD 0 undef)).bind fun n61 =>
(asI .u64 (l60.getD 1 undef)).bind fun n62 =>
(callF Try.prog 17 #[.pointer p2, .int .u64 n8] r59.2).bind fun r63 =>
(asTup 0 r63.1).bind fun _ =>
(callF Try.prog 12 #[.pointer p2] r63.2).bind fun r64 =>
(asTup 2 r64.1).bind fun l65 =>
(asI .u64 (l65.getD 0 undef)).bind fun n66 =>
(asI .u64 (l65.getD 1 undef)).bind fun n67 =>
some (.bool ((n61 : Int) == n66), r64.2))))))

theorem g5_eq (u0 : Int) (u1 : Int) (u2 : Int) (u3 : Int) (w0 : World) : evFn Try.prog 5 g5_ann #[.int .u64 u0, .int .u64 u1, .int .u64 u2, .int .u8 u3] w0 = g5 u0 u1 u2 u3 w0 := by kernel_rfl

theorem g5_call {u0 : Int} {u1 : Int} {u2 : Int} {u3 : Int} {w0 : World} {r : Value × World} (h : g5 u0 u1 u2 u3 w0 = some r) : callF Try.prog 5 #[.int .u64 u0, .int .u64 u1, .int .u64 u2, .int .u8 u3] w0 = some r :=
  callF_of_evFn (ann := g5_ann) Try.call5 (by kernel_rfl) ((g5_eq u0 u1 u2 u3 w0).trans h)

/-! 10: penstock/gate.New (from: uint64, limit: uint64) -/
def g10_ann : List (List Nat × List Nat) := []

noncomputable def g10 (u0 : Int) (u1 : Int) (w0 : World) : Option (Value × World) :=
(callF Try.prog 28 #[.pointer (some (⟨w0.heap.size, 0, none⟩)), .int .u64 (if (u1 : Int) < u0 then u1 else u0)] (World.alloc w0 (.cells #[.int .u64 0, .int .u64 u1] 82))).bind fun r2 =>
(asTup 0 r2.1).bind fun _ =>
some (.pointer (some (⟨w0.heap.size, 0, none⟩)), r2.2)

theorem g10_eq (u0 : Int) (u1 : Int) (w0 : World) : evFn Try.prog 10 g10_ann #[.int .u64 u0, .int .u64 u1] w0 = g10 u0 u1 w0 := by kernel_rfl

theorem g10_call {u0 : Int} {u1 : Int} {w0 : World} {r : Value × World} (h : g10 u0 u1 w0 = some r) : callF Try.prog 10 #[.int .u64 u0, .int .u64 u1] w0 = some r :=
  callF_of_evFn (ann := g10_ann) Try.call10 (by kernel_rfl) ((g10_eq u0 u1 w0).trans h)

/-! 11: penstock/penstocklaw01.awake () -/
def g11_ann : List (List Nat × List Nat) := []

noncomputable def g11  (w0 : World) : Option (Value × World) :=
(callF Try.prog 10 #[.int .u64 5, .int .u64 8] w0).bind fun r1 =>
(asP r1.1).bind fun p2 =>
if (p2.isNone) = true then
(some (.bool false, r1.2))
else
((callF Try.prog 13 #[.pointer p2, .int .u64 2] r1.2).bind fun r3 =>
(asTup 2 r3.1).bind fun l4 =>
(asI .u64 (l4.getD 0 undef)).bind fun n5 =>
(asB (l4.getD 1 undef)).bind fun b6 =>
(callF Try.prog 16 #[.pointer p2] r3.2).bind fun r7 =>
(asTup 2 r7.1).bind fun l8 =>
(asI .u64 (l8.getD 0 undef)).bind fun n9 =>
(asB (l8.getD 1 undef)).bind fun b10 =>
(callF Try.prog 16 #[.pointer p2] r7.2).bind fun r11 =>
(asTup 2 r11.1).bind fun l12 =>
(asI .u64 (l12.getD 0 undef)).bind fun n13 =>
(asB (l12.getD 1 undef)).bind fun b14 =>
if b6 = true then
(if b10 = true then
(if (!b14) = true then
(if ((n5 : Int) == 5) = true then
(some (.bool ((n9 : Int) == 7), r11.2))
else
(some (.bool false, r11.2)))
else
(some (.bool false, r11.2)))
else
(some (.bool false, r11.2)))
else
(some (.bool false, r11.2)))

theorem g11_eq  (w0 : World) : evFn Try.prog 11 g11_ann #[] w0 = g11 w0 := by kernel_rfl

theorem g11_call  {w0 : World} {r : Value × World} (h : g11 w0 = some r) : callF Try.prog 11 #[] w0 = some r :=
  callF_of_evFn (ann := g11_ann) Try.call11 (by kernel_rfl) ((g11_eq  w0).trans h)

/-! 12: (*penstock/gate.Counter).Left (c: *gate.Counter) -/
def g12_ann : List (List Nat × List Nat) := []

noncomputable def g12 (u0 : Option Addr) (w0 : World) : Option (Value × World) :=
if (u0.isNone) = true then
(some (.tuple #[.int .u64 0, .int .u64 0], w0))
else
(u0.bind fun a1 =>
(callF Try.prog 29 #[.pointer (some a1)] w0).bind fun r2 =>
(asI .u64 r2.1).bind fun n3 =>
u0.bind fun a4 =>
(World.cell? (World.drew r2.2) (Addr.add a4 1)).bind fun v5 =>
(asI .u64 v5).bind fun n6 =>
some (.tuple #[.int .u64 n3, .int .u64 (IntKind.u64.wrap (n6 - n3))], (World.drew r2.2)))

theorem g12_eq (u0 : Option Addr) (w0 : World) : evFn Try.prog 12 g12_ann #[.pointer u0] w0 = g12 u0 w0 := by kernel_rfl

theorem g12_call {u0 : Option Addr} {w0 : World} {r : Value × World} (h : g12 u0 w0 = some r) : callF Try.prog 12 #[.pointer u0] w0 = some r :=
  callF_of_evFn (ann := g12_ann) Try.call12 (by kernel_rfl) ((g12_eq u0 w0).trans h)

/-! 13: (*penstock/gate.Counter).Block (c: *gate.Counter, n: uint64) -/
def g13_ann : List (List Nat × List Nat) := [([0, 1, 1], [0, 1, 4, 5])]

def g13_l1_cs (u0 : Option Addr) (u1 : Int) : List (Nat × Value) := ([(0, .pointer u0), (1, .int .u64 u1)] : List (Nat × Value))

/-- the round of a loop ((*penstock/gate.Counter).Block) -/
noncomputable def g13_l1_b (u0 : Option Addr) (u1 : Int) (s2 : Int × Bool) (w3 : World) : Option (Exit × (Int × Bool) × World) :=
u0.bind fun a4 =>
(callF Try.prog 29 #[.pointer (some a4)] w3).bind fun r5 =>
(asI .u64 r5.1).bind fun n6 =>
u0.bind fun a7 =>
(World.cell? r5.2 (Addr.add a7 1)).bind fun v8 =>
(asI .u64 v8).bind fun n9 =>
if (decide ((u1 : Int) > (IntKind.u64.wrap (n9 - n6)))) = true then
(some (.ret, (0, false), r5.2))
else
(u0.bind fun a10 =>
(callF Try.prog 30 #[.pointer (some a10), .int .u64 n6, .int .u64 (IntKind.u64.wrap (n6 + u1))] r5.2).bind fun r11 =>
(asB r11.1).bind fun b12 =>
if b12 = true then
(some (.ret, (n6, true), r11.2))
else
(some (.normal, (s2.1, s2.2), r11.2)))

noncomputable def g13_K13  : Exit → Env → World → Option (Value × World) :=
  retK Try.prog Try.f13.results.toList

noncomputable def g13_K14  : Exit → Env → World → Option (Value × World) :=
  blkK 0 g13_K13

/-- the loop, from a state on -/
noncomputable def g13_l1 (u0 : Option Addr) (u1 : Int) (s : Int × Bool) (w : World) : Option (Value × World) :=
  loopM Try.prog 34 13 g13_ann (cAt [1, 1, 0, 0] (bodyOf Try.f13)) [0, 1, 1] g13_K14 ((g13_l1_cs u0 u1) ++ sputs [(4, .i .u64), (5, .b)] s) w

/-- behind the loop, left by ret -/
noncomputable def g13_l1_ret  (t15 : Int × Bool) (w16 : World) : Option (Value × World) :=
some (.tuple #[.int .u64 t15.1, .bool t15.2], w16)

noncomputable def g13 (u0 : Option Addr) (u1 : Int) (w0 : World) : Option (Value × World) :=
if (u0.isNone) = true then
(some (.tuple #[.int .u64 0, .bool false], w0))
else
(if ((u1 : Int) == 0) = true then
(some (.tuple #[.int .u64 0, .bool false], w0))
else
(g13_l1 u0 u1 (0, false) w0))

theorem g13_eq (u0 : Option Addr) (u1 : Int) (w0 : World) : evFn Try.prog 13 g13_ann #[.pointer u0, .int .u64 u1] w0 = g13 u0 u1 w0 := by kernel_rfl

theorem g13_call {u0 : Option Addr} {u1 : Int} {w0 : World} {r : Value × World} (h : g13 u0 u1 w0 = some r) : callF Try.prog 13 #[.pointer u0, .int .u64 u1] w0 = some r :=
  callF_of_evFn (ann := g13_ann) Try.call13 (by kernel_rfl) ((g13_eq u0 u1 w0).trans h)

theorem g13_l1_ret_of {u0 : Option Addr} {u1 : Int} {s t : Int × Bool} {w w' : World} (h : loopS (g13_l1_b u0 u1) s w = some (.ret, t, w')) : g13_l1 u0 u1 s w = g13_l1_ret t w' := by
  have h1 : g13_l1 u0 u1 s w = loopM Try.prog 34 13 g13_ann (cAt [1, 1, 0, 0] (bodyOf Try.f13)) [0, 1, 1] g13_K14 ((g13_l1_cs u0 u1) ++ sputs [(4, .i .u64), (5, .b)] s) w := by kernel_rfl
  have h2 : loopM Try.prog 34 13 g13_ann (cAt [1, 1, 0, 0] (bodyOf Try.f13)) [0, 1, 1] g13_K14 ((g13_l1_cs u0 u1) ++ sputs [(4, .i .u64), (5, .b)] s) w = g13_K14 (.ret) (puts 34 ((g13_l1_cs u0 u1) ++ sputs [(4, .i .u64), (5, .b)] t)) w' :=
    loop_rule (P := Try.prog) (N := 34) (f := 13) (ann := g13_ann) (body := (cAt [1, 1, 0, 0] (bodyOf Try.f13))) (pt := [0, 1, 1]) (K := g13_K14) (g13_l1_cs u0 u1) [(4, .i .u64), (5, .b)] (b := g13_l1_b u0 u1) (fun s w => by kernel_rfl) (by kernel_rfl) (by kernel_rfl) (by kernel_rfl) h
  have h3 : g13_K14 (.ret) (puts 34 ((g13_l1_cs u0 u1) ++ sputs [(4, .i .u64), (5, .b)] t)) w' = g13_l1_ret t w' := by kernel_rfl
  exact h1.trans (h2.trans h3)

/-! 14: penstock/penstockref01.New (from: uint64, limit: uint64) -/
def g14_ann : List (List Nat × List Nat) := []

noncomputable def g14_j1 (w0 : World) (u1 : Int) (x2 : Int) : Option (Value × World) :=
some (.pointer (some (⟨w0.heap.size, 0, none⟩)), (World.alloc w0 (.cells #[.int .u64 x2, .int .u64 u1] 40)))

noncomputable def g14 (u0 : Int) (u1 : Int) (w0 : World) : Option (Value × World) :=
if (decide ((u0 : Int) > u1)) = true then
(g14_j1 w0 u1 u1)
else
(g14_j1 w0 u1 u0)

theorem g14_eq (u0 : Int) (u1 : Int) (w0 : World) : evFn Try.prog 14 g14_ann #[.int .u64 u0, .int .u64 u1] w0 = g14 u0 u1 w0 := by kernel_rfl

theorem g14_call {u0 : Int} {u1 : Int} {w0 : World} {r : Value × World} (h : g14 u0 u1 w0 = some r) : callF Try.prog 14 #[.int .u64 u0, .int .u64 u1] w0 = some r :=
  callF_of_evFn (ann := g14_ann) Try.call14 (by kernel_rfl) ((g14_eq u0 u1 w0).trans h)

/-! 15: (*penstock/penstockref01.Counter).Block (c: *penstockref01.Counter, n: uint64) -/
def g15_ann : List (List Nat × List Nat) := []

noncomputable def g15 (u0 : Option Addr) (u1 : Int) (w0 : World) : Option (Value × World) :=
u0.bind fun a1 =>
(World.cell? (World.drew w0) (Addr.add a1 1)).bind fun v2 =>
(asI .u64 v2).bind fun n3 =>
u0.bind fun a4 =>
(World.cell? (World.drew w0) a4).bind fun v5 =>
(asI .u64 v5).bind fun n6 =>
if (decide ((u1 : Int) < 1)) = true then
(some (.tuple #[.int .u64 0, .bool false], (World.drew w0)))
else
(if (decide ((u1 : Int) > (IntKind.u64.wrap (n3 - n6)))) = true then
(some (.tuple #[.int .u64 0, .bool false], (World.drew w0)))
else
(u0.bind fun a7 =>
(World.cell? (World.drew w0) a7).bind fun v8 =>
(asI .u64 v8).bind fun n9 =>
u0.bind fun a10 =>
(st1 (World.drew w0) a10 (.int .u64 (IntKind.u64.wrap (n9 + u1)))).bind fun w11 =>
some (.tuple #[.int .u64 n9, .bool true], w11)))

theorem g15_eq (u0 : Option Addr) (u1 : Int) (w0 : World) : evFn Try.prog 15 g15_ann #[.pointer u0, .int .u64 u1] w0 = g15 u0 u1 w0 := by kernel_rfl

theorem g15_call {u0 : Option Addr} {u1 : Int} {w0 : World} {r : Value × World} (h : g15 u0 u1 w0 = some r) : callF Try.prog 15 #[.pointer u0, .int .u64 u1] w0 = some r :=
  callF_of_evFn (ann := g15_ann) Try.call15 (by kernel_rfl) ((g15_eq u0 u1 w0).trans h)

/-! 16: (*penstock/gate.Counter).Next (c: *gate.Counter) -/
def g16_ann : List (List Nat × List Nat) := []

noncomputable def g16 (u0 : Option Addr) (w0 : World) : Option (Value × World) :=
(callF Try.prog 13 #[.pointer u0, .int .u64 1] w0).bind fun r1 =>
(asTup 2 r1.1).bind fun l2 =>
(asI .u64 (l2.getD 0 undef)).bind fun n3 =>
(asB (l2.getD 1 undef)).bind fun b4 =>
some (.tuple #[.int .u64 n3, .bool b4], r1.2)

theorem g16_eq (u0 : Option Addr) (w0 : World) : evFn Try.prog 16 g16_ann #[.pointer u0] w0 = g16 u0 w0 := by kernel_rfl

theorem g16_call {u0 : Option Addr} {w0 : World} {r : Value × World} (h : g16 u0 w0 = some r) : callF Try.prog 16 #[.pointer u0] w0 = some r :=
  callF_of_evFn (ann := g16_ann) Try.call16 (by kernel_rfl) ((g16_eq u0 w0).trans h)

/-! 17: (*penstock/gate.Counter).Raise (c: *gate.Counter, to: uint64) -/
def g17_ann : List (List Nat × List Nat) := [([0, 1], [0, 1])]

def g17_l1_cs (u0 : Option Addr) (u1 : Int) : List (Nat × Value) := ([(0, .pointer u0), (1, .int .u64 u1)] : List (Nat × Value))

/-- the round of a loop ((*penstock/gate.Counter).Raise) -/
noncomputable def g17_l1_b (u0 : Option Addr) (u1 : Int) (s2 : Unit) (w3 : World) : Option (Exit × (Unit) × World) :=
u0.bind fun a4 =>
(callF Try.prog 29 #[.pointer (some a4)] w3).bind fun r5 =>
(asI .u64 r5.1).bind fun n6 =>
if (decide ((n6 : Int) ≥ u1)) = true then
(some (.ret, (), (World.drew r5.2)))
else
(u0.bind fun a7 =>
(World.cell? (World.drew r5.2) (Addr.add a7 1)).bind fun v8 =>
(asI .u64 v8).bind fun n9 =>
if (decide ((n6 : Int) ≥ n9)) = true then
(some (.ret, (), (World.drew r5.2)))
else
(u0.bind fun a10 =>
u0.bind fun a11 =>
(World.cell? (World.drew r5.2) (Addr.add a11 1)).bind fun v12 =>
(asI .u64 v12).bind fun n13 =>
(callF Try.prog 30 #[.pointer (some a10), .int .u64 n6, .int .u64 (if (n13 : Int) < u1 then n13 else u1)] (World.drew r5.2)).bind fun r15 =>
(asB r15.1).bind fun b16 =>
if b16 = true then
(some (.ret, (), r15.2))
else
(some (.normal, (), r15.2))))

noncomputable def g17_K17  : Exit → Env → World → Option (Value × World) :=
  retK Try.prog Try.f17.results.toList

noncomputable def g17_K18  : Exit → Env → World → Option (Value × World) :=
  blkK 0 g17_K17

/-- the loop, from a state on -/
noncomputable def g17_l1 (u0 : Option Addr) (u1 : Int) (s : Unit) (w : World) : Option (Value × World) :=
  loopM Try.prog 35 17 g17_ann (cAt [1, 0, 0] (bodyOf Try.f17)) [0, 1] g17_K18 ((g17_l1_cs u0 u1) ++ sputs [] s) w

/-- behind the loop, left by ret -/
noncomputable def g17_l1_ret  (t19 : Unit) (w20 : World) : Option (Value × World) :=
some (.tuple #[], w20)

noncomputable def g17 (u0 : Option Addr) (u1 : Int) (w0 : World) : Option (Value × World) :=
if (u0.isNone) = true then
(some (.tuple #[], w0))
else
(g17_l1 u0 u1 () w0)

theorem g17_eq (u0 : Option Addr) (u1 : Int) (w0 : World) : evFn Try.prog 17 g17_ann #[.pointer u0, .int .u64 u1] w0 = g17 u0 u1 w0 := by kernel_rfl

theorem g17_call {u0 : Option Addr} {u1 : Int} {w0 : World} {r : Value × World} (h : g17 u0 u1 w0 = some r) : callF Try.prog 17 #[.pointer u0, .int .u64 u1] w0 = some r :=
  callF_of_evFn (ann := g17_ann) Try.call17 (by kernel_rfl) ((g17_eq u0 u1 w0).trans h)

theorem g17_l1_ret_of {u0 : Option Addr} {u1 : Int} {s t : Unit} {w w' : World} (h : loopS (g17_l1_b u0 u1) s w = some (.ret, t, w')) : g17_l1 u0 u1 s w = g17_l1_ret t w' := by
  have h1 : g17_l1 u0 u1 s w = loopM Try.prog 35 17 g17_ann (cAt [1, 0, 0] (bodyOf Try.f17)) [0, 1] g17_K18 ((g17_l1_cs u0 u1) ++ sputs [] s) w := by kernel_rfl
  have h2 : loopM Try.prog 35 17 g17_ann (cAt [1, 0, 0] (bodyOf Try.f17)) [0, 1] g17_K18 ((g17_l1_cs u0 u1) ++ sputs [] s) w = g17_K18 (.ret) (puts 35 ((g17_l1_cs u0 u1) ++ sputs [] t)) w' :=
    loop_rule (P := Try.prog) (N := 35) (f := 17) (ann := g17_ann) (body := (cAt [1, 0, 0] (bodyOf Try.f17))) (pt := [0, 1]) (K := g17_K18) (g17_l1_cs u0 u1) [] (b := g17_l1_b u0 u1) (fun s w => by kernel_rfl) (by kernel_rfl) (by kernel_rfl) (by kernel_rfl) h
  have h3 : g17_K18 (.ret) (puts 35 ((g17_l1_cs u0 u1) ++ sputs [] t)) w' = g17_l1_ret t w' := by kernel_rfl
  exact h1.trans (h2.trans h3)

/-! 18: (*penstock/penstockref01.Counter).Raise (c: *penstockref01.Counter, to: uint64) -/
def g18_ann : List (List Nat × List Nat) := []

noncomputable def g18_j1 (u0 : Option Addr) (w0 : World) (x8 : Int) : Option (Value × World) :=
u0.bind fun a9 =>
(World.cell? w0 a9).bind fun v10 =>
(asI .u64 v10).bind fun n11 =>
if (decide ((x8 : Int) > n11)) = true then
(u0.bind fun a12 =>
(st1 w0 a12 (.int .u64 x8)).bind fun w13 =>
some (.tuple #[], w13))
else
(some (.tuple #[], w0))

noncomputable def g18 (u0 : Option Addr) (u1 : Int) (w0 : World) : Option (Value × World) :=
u0.bind fun a2 =>
(World.cell? w0 (Addr.add a2 1)).bind fun v3 =>
(asI .u64 v3).bind fun n4 =>
if (decide ((u1 : Int) > n4)) = true then
(u0.bind fun a5 =>
(World.cell? w0 (Addr.add a5 1)).bind fun v6 =>
(asI .u64 v6).bind fun n7 =>
g18_j1 u0 w0 n7)
else
(g18_j1 u0 w0 u1)

theorem g18_eq (u0 : Option Addr) (u1 : Int) (w0 : World) : evFn Try.prog 18 g18_ann #[.pointer u0, .int .u64 u1] w0 = g18 u0 u1 w0 := by kernel_rfl

theorem g18_call {u0 : Option Addr} {u1 : Int} {w0 : World} {r : Value × World} (h : g18 u0 u1 w0 = some r) : callF Try.prog 18 #[.pointer u0, .int .u64 u1] w0 = some r :=
  callF_of_evFn (ann := g18_ann) Try.call18 (by kernel_rfl) ((g18_eq u0 u1 w0).trans h)

/-! 28: (*sync/atomic.Uint64).Store (x: *atomic.Uint64, val: uint64) -/
def g28_ann : List (List Nat × List Nat) := []

noncomputable def g28 (u0 : Option Addr) (u1 : Int) (w0 : World) : Option (Value × World) :=
u0.bind fun a1 =>
(callF Try.prog 37 #[.pointer (some a1), .int .u64 u1] w0).bind fun r2 =>
(asTup 0 r2.1).bind fun _ =>
some (.tuple #[], r2.2)

theorem g28_eq (u0 : Option Addr) (u1 : Int) (w0 : World) : evFn Try.prog 28 g28_ann #[.pointer u0, .int .u64 u1] w0 = g28 u0 u1 w0 := by kernel_rfl

theorem g28_call {u0 : Option Addr} {u1 : Int} {w0 : World} {r : Value × World} (h : g28 u0 u1 w0 = some r) : callF Try.prog 28 #[.pointer u0, .int .u64 u1] w0 = some r :=
  callF_of_evFn (ann := g28_ann) Try.call28 (by kernel_rfl) ((g28_eq u0 u1 w0).trans h)

/-! 29: (*sync/atomic.Uint64).Load (x: *atomic.Uint64) -/
def g29_ann : List (List Nat × List Nat) := []

noncomputable def g29 (u0 : Option Addr) (w0 : World) : Option (Value × World) :=
u0.bind fun a1 =>
(callF Try.prog 38 #[.pointer (some a1)] w0).bind fun r2 =>
(asI .u64 r2.1).bind fun n3 =>
some (.int .u64 n3, r2.2)

theorem g29_eq (u0 : Option Addr) (w0 : World) : evFn Try.prog 29 g29_ann #[.pointer u0] w0 = g29 u0 w0 := by kernel_rfl

theorem g29_call {u0 : Option Addr} {w0 : World} {r : Value × World} (h : g29 u0 w0 = some r) : callF Try.prog 29 #[.pointer u0] w0 = some r :=
  callF_of_evFn (ann := g29_ann) Try.call29 (by kernel_rfl) ((g29_eq u0 w0).trans h)

/-! 30: (*sync/atomic.Uint64).CompareAndSwap (x: *atomic.Uint64, old: uint64, new: uint64) -/
def g30_ann : List (List Nat × List Nat) := []

noncomputable def g30 (u0 : Option Addr) (u1 : Int) (u2 : Int) (w0 : World) : Option (Value × World) :=
u0.bind fun a1 =>
(callF Try.prog 39 #[.pointer (some a1), .int .u64 u1, .int .u64 u2] w0).bind fun r2 =>
(asB r2.1).bind fun b3 =>
some (.bool b3, r2.2)

theorem g30_eq (u0 : Option Addr) (u1 : Int) (u2 : Int) (w0 : World) : evFn Try.prog 30 g30_ann #[.pointer u0, .int .u64 u1, .int .u64 u2] w0 = g30 u0 u1 u2 w0 := by kernel_rfl

theorem g30_call {u0 : Option Addr} {u1 : Int} {u2 : Int} {w0 : World} {r : Value × World} (h : g30 u0 u1 u2 w0 = some r) : callF Try.prog 30 #[.pointer u0, .int .u64 u1, .int .u64 u2] w0 = some r :=
  callF_of_evFn (ann := g30_ann) Try.call30 (by kernel_rfl) ((g30_eq u0 u1 u2 w0).trans h)

end Go.Proofs.Ytniibeofggdfoaa
