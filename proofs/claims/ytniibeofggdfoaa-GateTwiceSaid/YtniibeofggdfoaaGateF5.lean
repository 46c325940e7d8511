/-
  GateF5: lemmas on what Go functions of this seat come to (for whatever arguments, as each says). No condition but those that stand in each lemma.
-/
import Derived.Test.YtniibeofggdfoaaGateC
namespace Go.Proofs.Ytniibeofggdfoaa
open Go Go.Ev
set_option maxRecDepth 100000
set_option linter.unusedVariables false
/-! 6: penstock/penstocklaw01.GateTwice (l: []uint8) -/
def g6_ann : List (List Nat × List Nat) := [([0, 1, 0, 1, 1, 1, 1], [0, 3, 15, 16, 2, 4, 17]), ([0, 1, 0, 1, 1, 0, 0, 1, 1, 0, 0, 1, 0, 1, 1, 1, 1], [0, 2, 3, 4, 5, 6, 15, 16, 17, 7, 8]), ([0, 1, 0, 1, 1, 1, 1, 1, 1], [3, 50, 51, 4, 52])]

def g6_l4_cs (u0 : Option Addr × Nat × Nat) (w0 : World) : List (Nat × Value) := ([(0, .slice u0.1 u0.2.1 u0.2.2), (3, .pointer (some (⟨w0.heap.size, 0, none⟩))), (15, .slice u0.1 u0.2.1 u0.2.2), (16, .int .i64 (u0.2.1 : Int))] : List (Nat × Value))

def g6_l10_cs (u0 : Option Addr × Nat × Nat) (s5 : Bool × Int × Int) (w0 : World) (n9 : Int) : List (Nat × Value) := ([(0, .slice u0.1 u0.2.1 u0.2.2), (2, .bool s5.1), (3, .pointer (some (⟨w0.heap.size, 0, none⟩))), (4, .int .i64 s5.2.1), (5, .int .i64 s5.2.2), (6, .int .u8 n9), (15, .slice u0.1 u0.2.1 u0.2.2), (16, .int .i64 (u0.2.1 : Int)), (17, .int .i64 s5.2.2)] : List (Nat × Value))

/-- the round of a loop (penstock/penstocklaw01.GateTwice) -/
noncomputable def g6_l10_b (s5 : Bool × Int × Int) (u0 : Option Addr × Nat × Nat) (n9 : Int) (w0 : World) (s11 : Bool × Int) (w12 : World) : Option (Exit × (Bool × Int) × World) :=
if (decide ((s11.2 : Int) < s5.2.2)) = true then
(if s11.1 = true then
((idxA u0.1 u0.2.1 1 s11.2).bind fun a13 =>
(World.cell? w12 a13).bind fun v14 =>
(asI .u8 v14).bind fun n15 =>
some (.normal, (((n15 : Int) != n9), (IntKind.i64.wrap (s11.2 + 1))), w12))
else
(some (.normal, (false, (IntKind.i64.wrap (s11.2 + 1))), w12)))
else
(some ((.exit 2), (s11.1, s11.2), w12))

noncomputable def g6_K16 (u0 : Option Addr × Nat × Nat) (w0 : World) : Exit → Env → World → Option (Exit × (Bool × Int × Int) × World) :=
  fun e ρ w => ((List.map (·.1) (g6_l4_cs u0 w0)).mapM ρ).bind fun _ => loopK [(2, .b), (4, .i .i64), (17, .i .i64)] e ρ w

noncomputable def g6_K17 (u0 : Option Addr × Nat × Nat) (w0 : World) : Exit → Env → World → Option (Exit × (Bool × Int × Int) × World) :=
  seqK (ev Try.prog 70 6 g6_ann (cAt [1, 1, 1, 1, 0, 1, 0, 0, 1, 1, 1] (bodyOf Try.f6)) [1, 1, 1, 0, 0, 1, 0, 1, 1, 1, 1] (g6_K16 u0 w0)) (g6_K16 u0 w0)

noncomputable def g6_K18 (u0 : Option Addr × Nat × Nat) (w0 : World) : Exit → Env → World → Option (Exit × (Bool × Int × Int) × World) :=
  blkK 1 (g6_K17 u0 w0)

noncomputable def g6_K19 (u0 : Option Addr × Nat × Nat) (w0 : World) : Exit → Env → World → Option (Exit × (Bool × Int × Int) × World) :=
  seqK (ev Try.prog 70 6 g6_ann (cAt [1, 1, 1, 1, 0, 1, 0, 0, 1, 1, 0, 0, 1, 1, 1] (bodyOf Try.f6)) [1, 1, 1, 0, 0, 1, 1, 0, 0, 1, 0, 1, 1, 1, 1] (g6_K18 u0 w0)) (g6_K18 u0 w0)

noncomputable def g6_K20 (u0 : Option Addr × Nat × Nat) (w0 : World) : Exit → Env → World → Option (Exit × (Bool × Int × Int) × World) :=
  blkK 2 (g6_K19 u0 w0)

/-- the loop, from a state on -/
noncomputable def g6_l10 (u0 : Option Addr × Nat × Nat) (s5 : Bool × Int × Int) (w0 : World) (n9 : Int) (s : Bool × Int) (w : World) : Option (Exit × (Bool × Int × Int) × World) :=
  loopM Try.prog 70 6 g6_ann (cAt [1, 1, 1, 1, 0, 1, 0, 0, 1, 1, 0, 0, 1, 1, 0, 1, 0, 0] (bodyOf Try.f6)) [0, 1, 0, 1, 1, 0, 0, 1, 1, 0, 0, 1, 0, 1, 1, 1, 1] (g6_K20 u0 w0) ((g6_l10_cs u0 s5 w0 n9) ++ sputs [(7, .b), (8, .i .i64)] s) w

/-- behind the loop, left by x2 -/
noncomputable def g6_l10_x2 (w0 : World) (n9 : Int) (s5 : Bool × Int × Int) (t21 : Bool × Int) (w22 : World) : Option (Exit × (Bool × Int × Int) × World) :=
(callF Try.prog 19 #[.pointer (some (⟨w0.heap.size, 0, none⟩)), .int .i64 (IntKind.i64.wrap n9)] w22).bind fun r23 =>
(asB r23.1).bind fun b24 =>
if (!(b24 == t21.1)) = true then
(some (.ret, (false, s5.2.1, s5.2.2), r23.2))
else
(if t21.1 = true then
(some (.normal, (s5.1, (IntKind.i64.wrap (s5.2.1 + 1)), (IntKind.i64.wrap (s5.2.2 + 1))), r23.2))
else
(some (.normal, (s5.1, s5.2.1, (IntKind.i64.wrap (s5.2.2 + 1))), r23.2)))

/-- the round of a loop (penstock/penstocklaw01.GateTwice) -/
noncomputable def g6_l4_b (u0 : Option Addr × Nat × Nat) (w0 : World) (s5 : Bool × Int × Int) (w6 : World) : Option (Exit × (Bool × Int × Int) × World) :=
if (decide ((s5.2.2 : Int) < (u0.2.1 : Int))) = true then
((idxA u0.1 u0.2.1 1 s5.2.2).bind fun a7 =>
(World.cell? w6 a7).bind fun v8 =>
(asI .u8 v8).bind fun n9 =>
g6_l10 u0 s5 w0 n9 (true, 0) w6)
else
(some ((.exit 0), (s5.1, s5.2.1, s5.2.2), w6))

noncomputable def g6_K25  : Exit → Env → World → Option (Value × World) :=
  retK Try.prog Try.f6.results.toList

noncomputable def g6_K26  : Exit → Env → World → Option (Value × World) :=
  seqK (ev Try.prog 70 6 g6_ann (cAt [1, 1, 1, 1, 1] (bodyOf Try.f6)) [1, 1, 1, 1, 1] g6_K25) g6_K25

noncomputable def g6_K27  : Exit → Env → World → Option (Value × World) :=
  blkK 0 g6_K26

/-- the loop, from a state on -/
noncomputable def g6_l4 (u0 : Option Addr × Nat × Nat) (w0 : World) (s : Bool × Int × Int) (w : World) : Option (Value × World) :=
  loopM Try.prog 70 6 g6_ann (cAt [1, 1, 1, 1, 0, 1, 0, 0] (bodyOf Try.f6)) [0, 1, 0, 1, 1, 1, 1] g6_K27 ((g6_l4_cs u0 w0) ++ sputs [(2, .b), (4, .i .i64), (17, .i .i64)] s) w

def g6_l33_cs (w0 : World) (u0 : Option Addr × Nat × Nat) : List (Nat × Value) := ([(3, .pointer (some (⟨w0.heap.size, 0, none⟩))), (50, .slice u0.1 u0.2.1 u0.2.2), (51, .int .i64 (u0.2.1 : Int))] : List (Nat × Value))

/-- the round of a loop (penstock/penstocklaw01.GateTwice) -/
noncomputable def g6_l33_b (u0 : Option Addr × Nat × Nat) (w0 : World) (s34 : Int × Int) (w35 : World) : Option (Exit × (Int × Int) × World) :=
if (decide ((s34.2 : Int) < (u0.2.1 : Int))) = true then
((idxA u0.1 u0.2.1 1 s34.2).bind fun a36 =>
(World.cell? w35 a36).bind fun v37 =>
(asI .u8 v37).bind fun n38 =>
(callF Try.prog 21 #[.pointer (some (⟨w0.heap.size, 0, none⟩)), .int .i64 (IntKind.i64.wrap n38)] w35).bind fun r39 =>
(asB r39.1).bind fun b40 =>
if b40 = true then
(some (.normal, ((IntKind.i64.wrap (s34.1 - 1)), (IntKind.i64.wrap (s34.2 + 1))), r39.2))
else
(some (.normal, (s34.1, (IntKind.i64.wrap (s34.2 + 1))), r39.2)))
else
(some ((.exit 4), (s34.1, s34.2), w35))

noncomputable def g6_K41  : Exit → Env → World → Option (Value × World) :=
  seqK (ev Try.prog 70 6 g6_ann (cAt [1, 1, 1, 1, 1, 1, 1] (bodyOf Try.f6)) [1, 1, 1, 1, 1, 1, 1] g6_K25) g6_K25

noncomputable def g6_K42  : Exit → Env → World → Option (Value × World) :=
  blkK 4 g6_K41

/-- the loop, from a state on -/
noncomputable def g6_l33 (w0 : World) (u0 : Option Addr × Nat × Nat) (s : Int × Int) (w : World) : Option (Value × World) :=
  loopM Try.prog 70 6 g6_ann (cAt [1, 1, 1, 1, 1, 1, 0, 1, 0, 0] (bodyOf Try.f6)) [0, 1, 0, 1, 1, 1, 1, 1, 1] g6_K42 ((g6_l33_cs w0 u0) ++ sputs [(4, .i .i64), (52, .i .i64)] s) w

/-- behind the loop, left by x4 -/
noncomputable def g6_l33_x4 (w0 : World) (t43 : Int × Int) (w44 : World) : Option (Value × World) :=
if ((t43.1 : Int) == 0) = true then
((callF Try.prog 20 #[.pointer (some (⟨w0.heap.size, 0, none⟩))] w44).bind fun r45 =>
(asI .i64 r45.1).bind fun n46 =>
some (.bool ((n46 : Int) == 0), r45.2))
else
(some (.bool false, w44))

/-- behind the loop, left by x0 -/
noncomputable def g6_l4_x0 (w0 : World) (u0 : Option Addr × Nat × Nat) (t28 : Bool × Int × Int) (w29 : World) : Option (Value × World) :=
(callF Try.prog 20 #[.pointer (some (⟨w0.heap.size, 0, none⟩))] w29).bind fun r30 =>
(asI .i64 r30.1).bind fun n31 =>
if ((n31 : Int) != t28.2.1) = true then
(some (.bool false, r30.2))
else
(g6_l33 w0 u0 (t28.2.1, 0) r30.2)

/-- behind the loop, left by ret -/
noncomputable def g6_l4_ret  (t47 : Bool × Int × Int) (w48 : World) : Option (Value × World) :=
some (.bool t47.1, w48)

noncomputable def g6 (u0 : Option Addr × Nat × Nat) (w0 : World) : Option (Value × World) :=
(callF Try.prog 11 #[] (World.alloc w0 (.cells #[.int .u64 0, .int .u64 0, .int .u64 0, .int .u64 0] 51))).bind fun r1 =>
(asB r1.1).bind fun b2 =>
if (!b2) = true then
(some (.bool false, r1.2))
else
(g6_l4 u0 w0 (false, 0, 0) r1.2)

theorem g6_eq (u0 : Option Addr × Nat × Nat) (w0 : World) : evFn Try.prog 6 g6_ann #[.slice u0.1 u0.2.1 u0.2.2] w0 = g6 u0 w0 := by kernel_rfl

theorem g6_call {u0 : Option Addr × Nat × Nat} {w0 : World} {r : Value × World} (h : g6 u0 w0 = some r) : callF Try.prog 6 #[.slice u0.1 u0.2.1 u0.2.2] w0 = some r :=
  callF_of_evFn (ann := g6_ann) Try.call6 (by kernel_rfl) ((g6_eq u0 w0).trans h)

theorem g6_l10_x2_of {u0 : Option Addr × Nat × Nat} {s5 : Bool × Int × Int} {w0 : World} {n9 : Int} {s t : Bool × Int} {w w' : World} (h : loopS (g6_l10_b s5 u0 n9 w0) s w = some (.exit 2, t, w')) : g6_l10 u0 s5 w0 n9 s w = g6_l10_x2 w0 n9 s5 t w' := by
  have h1 : g6_l10 u0 s5 w0 n9 s w = loopM Try.prog 70 6 g6_ann (cAt [1, 1, 1, 1, 0, 1, 0, 0, 1, 1, 0, 0, 1, 1, 0, 1, 0, 0] (bodyOf Try.f6)) [0, 1, 0, 1, 1, 0, 0, 1, 1, 0, 0, 1, 0, 1, 1, 1, 1] (g6_K20 u0 w0) ((g6_l10_cs u0 s5 w0 n9) ++ sputs [(7, .b), (8, .i .i64)] s) w := by kernel_rfl
  have h2 : loopM Try.prog 70 6 g6_ann (cAt [1, 1, 1, 1, 0, 1, 0, 0, 1, 1, 0, 0, 1, 1, 0, 1, 0, 0] (bodyOf Try.f6)) [0, 1, 0, 1, 1, 0, 0, 1, 1, 0, 0, 1, 0, 1, 1, 1, 1] (g6_K20 u0 w0) ((g6_l10_cs u0 s5 w0 n9) ++ sputs [(7, .b), (8, .i .i64)] s) w = (g6_K20 u0 w0) (.exit 2) (puts 70 ((g6_l10_cs u0 s5 w0 n9) ++ sputs [(7, .b), (8, .i .i64)] t)) w' :=
    loop_rule (P := Try.prog) (N := 70) (f := 6) (ann := g6_ann) (body := (cAt [1, 1, 1, 1, 0, 1, 0, 0, 1, 1, 0, 0, 1, 1, 0, 1, 0, 0] (bodyOf Try.f6))) (pt := [0, 1, 0, 1, 1, 0, 0, 1, 1, 0, 0, 1, 0, 1, 1, 1, 1]) (K := (g6_K20 u0 w0)) (g6_l10_cs u0 s5 w0 n9) [(7, .b), (8, .i .i64)] (b := g6_l10_b s5 u0 n9 w0) (fun s w => by kernel_rfl) (by kernel_rfl) (by kernel_rfl) (by kernel_rfl) h
  have h3 : (g6_K20 u0 w0) (.exit 2) (puts 70 ((g6_l10_cs u0 s5 w0 n9) ++ sputs [(7, .b), (8, .i .i64)] t)) w' = g6_l10_x2 w0 n9 s5 t w' := by kernel_rfl
  exact h1.trans (h2.trans h3)

theorem g6_l33_x4_of {w0 : World} {u0 : Option Addr × Nat × Nat} {s t : Int × Int} {w w' : World} (h : loopS (g6_l33_b u0 w0) s w = some (.exit 4, t, w')) : g6_l33 w0 u0 s w = g6_l33_x4 w0 t w' := by
  have h1 : g6_l33 w0 u0 s w = loopM Try.prog 70 6 g6_ann (cAt [1, 1, 1, 1, 1, 1, 0, 1, 0, 0] (bodyOf Try.f6)) [0, 1, 0, 1, 1, 1, 1, 1, 1] g6_K42 ((g6_l33_cs w0 u0) ++ sputs [(4, .i .i64), (52, .i .i64)] s) w := by kernel_rfl
  have h2 : loopM Try.prog 70 6 g6_ann (cAt [1, 1, 1, 1, 1, 1, 0, 1, 0, 0] (bodyOf Try.f6)) [0, 1, 0, 1, 1, 1, 1, 1, 1] g6_K42 ((g6_l33_cs w0 u0) ++ sputs [(4, .i .i64), (52, .i .i64)] s) w = g6_K42 (.exit 4) (puts 70 ((g6_l33_cs w0 u0) ++ sputs [(4, .i .i64), (52, .i .i64)] t)) w' :=
    loop_rule (P := Try.prog) (N := 70) (f := 6) (ann := g6_ann) (body := (cAt [1, 1, 1, 1, 1, 1, 0, 1, 0, 0] (bodyOf Try.f6))) (pt := [0, 1, 0, 1, 1, 1, 1, 1, 1]) (K := g6_K42) (g6_l33_cs w0 u0) [(4, .i .i64), (52, .i .i64)] (b := g6_l33_b u0 w0) (fun s w => by kernel_rfl) (by kernel_rfl) (by kernel_rfl) (by kernel_rfl) h
  have h3 : g6_K42 (.exit 4) (puts 70 ((g6_l33_cs w0 u0) ++ sputs [(4, .i .i64), (52, .i .i64)] t)) w' = g6_l33_x4 w0 t w' := by kernel_rfl
  exact h1.trans (h2.trans h3)

theorem g6_l4_x0_of {u0 : Option Addr × Nat × Nat} {w0 : World} {s t : Bool × Int × Int} {w w' : World} (h : loopS (g6_l4_b u0 w0) s w = some (.exit 0, t, w')) : g6_l4 u0 w0 s w = g6_l4_x0 w0 u0 t w' := by
  have h1 : g6_l4 u0 w0 s w = loopM Try.prog 70 6 g6_ann (cAt [1, 1, 1, 1, 0, 1, 0, 0] (bodyOf Try.f6)) [0, 1, 0, 1, 1, 1, 1] g6_K27 ((g6_l4_cs u0 w0) ++ sputs [(2, .b), (4, .i .i64), (17, .i .i64)] s) w := by kernel_rfl
  have h2 : loopM Try.prog 70 6 g6_ann (cAt [1, 1, 1, 1, 0, 1, 0, 0] (bodyOf Try.f6)) [0, 1, 0, 1, 1, 1, 1] g6_K27 ((g6_l4_cs u0 w0) ++ sputs [(2, .b), (4, .i .i64), (17, .i .i64)] s) w = g6_K27 (.exit 0) (puts 70 ((g6_l4_cs u0 w0) ++ sputs [(2, .b), (4, .i .i64), (17, .i .i64)] t)) w' :=
    loop_rule (P := Try.prog) (N := 70) (f := 6) (ann := g6_ann) (body := (cAt [1, 1, 1, 1, 0, 1, 0, 0] (bodyOf Try.f6))) (pt := [0, 1, 0, 1, 1, 1, 1]) (K := g6_K27) (g6_l4_cs u0 w0) [(2, .b), (4, .i .i64), (17, .i .i64)] (b := g6_l4_b u0 w0) (fun s w => by kernel_rfl) (by kernel_rfl) (by kernel_rfl) (by kernel_rfl) h
  have h3 : g6_K27 (.exit 0) (puts 70 ((g6_l4_cs u0 w0) ++ sputs [(2, .b), (4, .i .i64), (17, .i .i64)] t)) w' = g6_l4_x0 w0 u0 t w' := by kernel_rfl
  exact h1.trans (h2.trans h3)

theorem g6_l4_ret_of {u0 : Option Addr × Nat × Nat} {w0 : World} {s t : Bool × Int × Int} {w w' : World} (h : loopS (g6_l4_b u0 w0) s w = some (.ret, t, w')) : g6_l4 u0 w0 s w = g6_l4_ret t w' := by
  have h1 : g6_l4 u0 w0 s w = loopM Try.prog 70 6 g6_ann (cAt [1, 1, 1, 1, 0, 1, 0, 0] (bodyOf Try.f6)) [0, 1, 0, 1, 1, 1, 1] g6_K27 ((g6_l4_cs u0 w0) ++ sputs [(2, .b), (4, .i .i64), (17, .i .i64)] s) w := by kernel_rfl
  have h2 : loopM Try.prog 70 6 g6_ann (cAt [1, 1, 1, 1, 0, 1, 0, 0] (bodyOf Try.f6)) [0, 1, 0, 1, 1, 1, 1] g6_K27 ((g6_l4_cs u0 w0) ++ sputs [(2, .b), (4, .i .i64), (17, .i .i64)] s) w = g6_K27 (.ret) (puts 70 ((g6_l4_cs u0 w0) ++ sputs [(2, .b), (4, .i .i64), (17, .i .i64)] t)) w' :=
    loop_rule (P := Try.prog) (N := 70) (f := 6) (ann := g6_ann) (body := (cAt [1, 1, 1, 1, 0, 1, 0, 0] (bodyOf Try.f6))) (pt := [0, 1, 0, 1, 1, 1, 1]) (K := g6_K27) (g6_l4_cs u0 w0) [(2, .b), (4, .i .i64), (17, .i .i64)] (b := g6_l4_b u0 w0) (fun s w => by kernel_rfl) (by kernel_rfl) (by kernel_rfl) (by kernel_rfl) h
  have h3 : g6_K27 (.ret) (puts 70 ((g6_l4_cs u0 w0) ++ sputs [(2, .b), (4, .i .i64), (17, .i .i64)] t)) w' = g6_l4_ret t w' := by kernel_rfl
  exact h1.trans (h2.trans h3)

/-! 7: penstock/penstocklaw01.GateMarks (script: []penstocklaw01.Mark) -/
def g7_ann : List (List Nat × List Nat) := [([0, 1, 0, 1, 1, 1], [3, 4, 15, 16, 2, 17]), ([0, 1, 0, 1, 1, 1, 1], [3, 4, 2, 8])]

def g7_l4_cs (w0 : World) (u0 : Option Addr × Nat × Nat) : List (Nat × Value) := ([(3, .pointer (some (⟨w0.heap.size, 0, none⟩))), (4, .pointer (some (⟨(World.alloc w0 (.cells #[.int .u64 0, .int .u64 0, .int .u64 0, .int .u64 0] 51)).heap.size, 0, none⟩))), (15, .slice u0.1 u0.2.1 u0.2.2), (16, .int .i64 (u0.2.1 : Int))] : List (Nat × Value))

noncomputable def g7_j12 (w6 : World) (w0 : World) (s5 : Bool × Int) (x23 : Bool) (w24 : World) : Option (Exit × (Bool × Int) × World) :=
(World.cell? (World.drew w24) (⟨w6.heap.size, 0, none⟩)).bind fun v25 =>
(asI .i64 v25).bind fun n26 =>
(World.cell? (World.drew w24) (Addr.add (⟨w6.heap.size, 0, none⟩) 1)).bind fun v27 =>
(asB v27).bind fun b28 =>
(callF Try.prog 22 #[.pointer (some (⟨(World.alloc w0 (.cells #[.int .u64 0, .int .u64 0, .int .u64 0, .int .u64 0] 51)).heap.size, 0, none⟩)), .int .i64 n26, .bool b28] (World.drew w24)).bind fun r29 =>
(asB r29.1).bind fun b30 =>
if (!(x23 == b30)) = true then
(if (ahd (Region.schedule true (opsOf (cAt [1, 1, 1, 0, 1, 0, 0, 1, 1, 0, 0, 1, 1, 1, 0] (bodyOf Try.f7))) (World.tape w24 (World.drawn w24) (.order 7 11))) 12 15 && true) = true then
(some (.ret, (false, s5.2), r29.2))
else
(some (.ret, (false, s5.2), r29.2)))
else
((World.cell? r29.2 (⟨w6.heap.size, 0, none⟩)).bind fun v31 =>
(asI .i64 v31).bind fun n32 =>
if (ahd (Region.schedule true (opsOf (cAt [1, 1, 1, 0, 1, 0, 0, 1, 1, 0, 0, 1, 1, 1, 0] (bodyOf Try.f7))) (World.tape w24 (World.drawn w24) (.order 7 11))) 12 15 && true) = true then
((callF Try.prog 23 #[.pointer (some (⟨w0.heap.size, 0, none⟩)), .int .i64 n32] r29.2).bind fun r33 =>
(asB r33.1).bind fun b34 =>
(World.cell? r33.2 (⟨w6.heap.size, 0, none⟩)).bind fun v35 =>
(asI .i64 v35).bind fun n36 =>
(callF Try.prog 24 #[.pointer (some (⟨(World.alloc w0 (.cells #[.int .u64 0, .int .u64 0, .int .u64 0, .int .u64 0] 51)).heap.size, 0, none⟩)), .int .i64 n36] r33.2).bind fun r37 =>
(asB r37.1).bind fun b38 =>
if (!(b34 == b38)) = true then
(some (.ret, (false, s5.2), r37.2))
else
((callF Try.prog 20 #[.pointer (some (⟨w0.heap.size, 0, none⟩))] r37.2).bind fun r39 =>
(asI .i64 r39.1).bind fun n40 =>
(callF Try.prog 25 #[.pointer (some (⟨(World.alloc w0 (.cells #[.int .u64 0, .int .u64 0, .int .u64 0, .int .u64 0] 51)).heap.size, 0, none⟩))] r39.2).bind fun r41 =>
(asI .i64 r41.1).bind fun n42 =>
if ((n40 : Int) != n42) = true then
(some (.ret, (false, s5.2), r41.2))
else
(some (.normal, (s5.1, (IntKind.i64.wrap (s5.2 + 1))), r41.2))))
else
((World.cell? r29.2 (⟨w6.heap.size, 0, none⟩)).bind fun v43 =>
(asI .i64 v43).bind fun n44 =>
(callF Try.prog 23 #[.pointer (some (⟨w0.heap.size, 0, none⟩)), .int .i64 n32] r29.2).bind fun r45 =>
(asB r45.1).bind fun b46 =>
(callF Try.prog 24 #[.pointer (some (⟨(World.alloc w0 (.cells #[.int .u64 0, .int .u64 0, .int .u64 0, .int .u64 0] 51)).heap.size, 0, none⟩)), .int .i64 n44] r45.2).bind fun r47 =>
(asB r47.1).bind fun b48 =>
if (!(b46 == b48)) = true then
(some (.ret, (false, s5.2), r47.2))
else
((callF Try.prog 20 #[.pointer (some (⟨w0.heap.size, 0, none⟩))] r47.2).bind fun r49 =>
(asI .i64 r49.1).bind fun n50 =>
(callF Try.prog 25 #[.pointer (some (⟨(World.alloc w0 (.cells #[.int .u64 0, .int .u64 0, .int .u64 0, .int .u64 0] 51)).heap.size, 0, none⟩))] r49.2).bind fun r51 =>
(asI .i64 r51.1).bind fun n52 =>
if ((n50 : Int) != n52) = true then
(some (.ret, (false, s5.2), r51.2))
else
(some (.normal, (s5.1, (IntKind.i64.wrap (s5.2 + 1))), r51.2)))))

/-- the round of a loop (penstock/penstocklaw01.GateMarks) -/
noncomputable def g7_l4_b (u0 : Option Addr × Nat × Nat) (w0 : World) (s5 : Bool × Int) (w6 : World) : Option (Exit × (Bool × Int) × World) :=
if (decide ((s5.2 : Int) < (u0.2.1 : Int))) = true then
((idxA u0.1 u0.2.1 2 s5.2).bind fun a7 =>
(ldN w6 a7 0 2).bind fun l8 =>
(asI .i64 (l8.getD 0 undef)).bind fun n9 =>
(asB (l8.getD 1 undef)).bind fun b10 =>
(stL (World.alloc w6 (.cells #[.int .i64 0, .bool false] 61)) (⟨w6.heap.size, 0, none⟩) [.int .i64 n9, .bool b10] 0).bind fun w11 =>
(World.cell? w11 (Addr.add (⟨w6.heap.size, 0, none⟩) 1)).bind fun v13 =>
(asB v13).bind fun b14 =>
if b14 = true then
((World.cell? w11 (⟨w6.heap.size, 0, none⟩)).bind fun v15 =>
(asI .i64 v15).bind fun n16 =>
(callF Try.prog 19 #[.pointer (some (⟨w0.heap.size, 0, none⟩)), .int .i64 n16] w11).bind fun r17 =>
(asB r17.1).bind fun b18 =>
g7_j12 w6 w0 s5 b18 r17.2)
else
((World.cell? w11 (⟨w6.heap.size, 0, none⟩)).bind fun v19 =>
(asI .i64 v19).bind fun n20 =>
(callF Try.prog 21 #[.pointer (some (⟨w0.heap.size, 0, none⟩)), .int .i64 n20] w11).bind fun r21 =>
(asB r21.1).bind fun b22 =>
g7_j12 w6 w0 s5 b22 r21.2))
else
(some ((.exit 0), (s5.1, s5.2), w6))

noncomputable def g7_K53  : Exit → Env → World → Option (Value × World) :=
  retK Try.prog Try.f7.results.toList

noncomputable def g7_K54  : Exit → Env → World → Option (Value × World) :=
  seqK (ev Try.prog 69 7 g7_ann (cAt [1, 1, 1, 1] (bodyOf Try.f7)) [1, 1, 1, 1] g7_K53) g7_K53

noncomputable def g7_K55  : Exit → Env → World → Option (Value × World) :=
  blkK 0 g7_K54

/-- the loop, from a state on -/
noncomputable def g7_l4 (w0 : World) (u0 : Option Addr × Nat × Nat) (s : Bool × Int) (w : World) : Option (Value × World) :=
  loopM Try.prog 69 7 g7_ann (cAt [1, 1, 1, 0, 1, 0, 0] (bodyOf Try.f7)) [0, 1, 0, 1, 1, 1] g7_K55 ((g7_l4_cs w0 u0) ++ sputs [(2, .b), (17, .i .i64)] s) w

def g7_l58_cs (w0 : World) : List (Nat × Value) := ([(3, .pointer (some (⟨w0.heap.size, 0, none⟩))), (4, .pointer (some (⟨(World.alloc w0 (.cells #[.int .u64 0, .int .u64 0, .int .u64 0, .int .u64 0] 51)).heap.size, 0, none⟩)))] : List (Nat × Value))

/-- the round of a loop (penstock/penstocklaw01.GateMarks) -/
noncomputable def g7_l58_b (w0 : World) (s59 : Bool × Int) (w60 : World) : Option (Exit × (Bool × Int) × World) :=
if (decide ((s59.2 : Int) < 260)) = true then
((callF Try.prog 23 #[.pointer (some (⟨w0.heap.size, 0, none⟩)), .int .i64 s59.2] w60).bind fun r61 =>
(asB r61.1).bind fun b62 =>
(callF Try.prog 24 #[.pointer (some (⟨(World.alloc w0 (.cells #[.int .u64 0, .int .u64 0, .int .u64 0, .int .u64 0] 51)).heap.size, 0, none⟩)), .int .i64 s59.2] r61.2).bind fun r63 =>
(asB r63.1).bind fun b64 =>
if (!(b62 == b64)) = true then
(some (.ret, (false, s59.2), r63.2))
else
(some (.normal, (s59.1, (IntKind.i64.wrap (s59.2 + 1))), r63.2)))
else
(some ((.exit 2), (s59.1, s59.2), w60))

noncomputable def g7_K65  : Exit → Env → World → Option (Value × World) :=
  seqK (ev Try.prog 69 7 g7_ann (cAt [1, 1, 1, 1, 1] (bodyOf Try.f7)) [1, 1, 1, 1, 1] g7_K53) g7_K53

noncomputable def g7_K66  : Exit → Env → World → Option (Value × World) :=
  blkK 2 g7_K65

/-- the loop, from a state on -/
noncomputable def g7_l58 (w0 : World) (s : Bool × Int) (w : World) : Option (Value × World) :=
  loopM Try.prog 69 7 g7_ann (cAt [1, 1, 1, 1, 0, 1, 0, 0] (bodyOf Try.f7)) [0, 1, 0, 1, 1, 1, 1] g7_K66 ((g7_l58_cs w0) ++ sputs [(2, .b), (8, .i .i64)] s) w

/-- behind the loop, left by x2 -/
noncomputable def g7_l58_x2  (t67 : Bool × Int) (w68 : World) : Option (Value × World) :=
some (.bool true, w68)

/-- behind the loop, left by ret -/
noncomputable def g7_l58_ret  (t69 : Bool × Int) (w70 : World) : Option (Value × World) :=
some (.bool t69.1, w70)

/-- behind the loop, left by x0 -/
noncomputable def g7_l4_x0 (w0 : World) (t56 : Bool × Int) (w57 : World) : Option (Value × World) :=
g7_l58 w0 (t56.1, (-2)) w57

/-- behind the loop, left by ret -/
noncomputable def g7_l4_ret  (t71 : Bool × Int) (w72 : World) : Option (Value × World) :=
some (.bool t71.1, w72)

noncomputable def g7 (u0 : Option Addr × Nat × Nat) (w0 : World) : Option (Value × World) :=
(callF Try.prog 11 #[] (World.alloc (World.alloc w0 (.cells #[.int .u64 0, .int .u64 0, .int .u64 0, .int .u64 0] 51)) (.cells #[.bool false, .bool false, .bool false, .bool false, .bool false, .bool false, .bool false, .bool false, .bool false, .bool false, .bool false, .bool false, .bool false, .bool false, .bool false, .bool false, .bool false, .bool false, .bool false, .bool false, .bool false, .bool false, .bool false, .bool false, .bool false, .bool false, .bool false, .bool false, .bool false, .bool false, .bool false, .bool false, .bool false, .bool false, .bool false, .bool false, .bool false, .bool false, .bool false, .bool false, .bool false, .bool false, .bool false, .bool false, .bool false, .bool false, .bool false, .bool false, .bool false, .bool false, .bool false, .bool false, .bool false, .bool false, .bool false, .bool false, .bool false, .bool false, .bool false, .bool false, .bool false, .bool false, .bool false, .bool false, .bool false, .bool false, .bool false, .bool false, .bool false, .bool false, .bool false, .bool false, .bool false, .bool false, .bool false, .bool false, .bool false, .bool false, .bool false, .bool false, .bool false, .bool false, .bool false, .bool false, .bool false, .bool false, .bool false, .bool false, .bool false, .bool false, .bool false, .bool false, .bool false, .bool false, .bool false, .bool false, .bool false, .bool false, .bool false, .bool false, .bool false, .bool false, .bool false, .bool false, .bool false, .bool false, .bool false, .bool false, .bool false, .bool false, .bool false, .bool false, .bool false, .bool false, .bool false, .bool false, .bool false, .bool false, .bool false, .bool false, .bool false, .bool false, .bool false, .bool false, .bool false, .bool false, .bool false, .bool false, .bool false, .bool false, .bool false, .bool false, .bool false, .bool false, .bool false, .bool false, .bool false, .bool false, .bool false, .bool false, .bool false, .bool false, .bool false, .bool false, .bool false, .bool false, .bool false, .bool false, .bool false, .bool false, .bool false, .bool false, .bool false, .bool false, .bool false, .bool false, .bool false, .bool false, .bool false, .bool false, .bool false, .bool false, .bool false, .bool false, .bool false, .bool false, .bool false, .bool false, .bool false, .bool false, .bool false, .bool false, .bool false, .bool false, .bool false, .bool false, .bool false, .bool false, .bool false, .bool false, .bool false, .bool false, .bool false, .bool false, .bool false, .bool false, .bool false, .bool false, .bool false, .bool false, .bool false, .bool false, .bool false, .bool false, .bool false, .bool false, .bool false, .bool false, .bool false, .bool false, .bool false, .bool false, .bool false, .bool false, .bool false, .bool false, .bool false, .bool false, .bool false, .bool false, .bool false, .bool false, .bool false, .bool false, .bool false, .bool false, .bool false, .bool false, .bool false, .bool false, .bool false, .bool false, .bool false, .bool false, .bool false, .bool false, .bool false, .bool false, .bool false, .bool false, .bool false, .bool false, .bool false, .bool false, .bool false, .bool false, .bool false, .bool false, .bool false, .bool false, .bool false, .bool false, .bool false, .bool false, .bool false, .bool false, .bool false, .bool false, .bool false, .bool false, .bool false, .bool false, .bool false, .bool false, .bool false, .bool false] 59))).bind fun r1 =>
(asB r1.1).bind fun b2 =>
if (!b2) = true then
(some (.bool false, r1.2))
else
(g7_l4 w0 u0 (false, 0) r1.2)

theorem g7_eq (u0 : Option Addr × Nat × Nat) (w0 : World) : evFn Try.prog 7 g7_ann #[.slice u0.1 u0.2.1 u0.2.2] w0 = g7 u0 w0 := by kernel_rfl

theorem g7_call {u0 : Option Addr × Nat × Nat} {w0 : World} {r : Value × World} (h : g7 u0 w0 = some r) : callF Try.prog 7 #[.slice u0.1 u0.2.1 u0.2.2] w0 = some r :=
  callF_of_evFn (ann := g7_ann) Try.call7 (by kernel_rfl) ((g7_eq u0 w0).trans h)

theorem g7_l58_x2_of {w0 : World} {s t : Bool × Int} {w w' : World} (h : loopS (g7_l58_b w0) s w = some (.exit 2, t, w')) : g7_l58 w0 s w = g7_l58_x2 t w' := by
  have h1 : g7_l58 w0 s w = loopM Try.prog 69 7 g7_ann (cAt [1, 1, 1, 1, 0, 1, 0, 0] (bodyOf Try.f7)) [0, 1, 0, 1, 1, 1, 1] g7_K66 ((g7_l58_cs w0) ++ sputs [(2, .b), (8, .i .i64)] s) w := by kernel_rfl
  have h2 : loopM Try.prog 69 7 g7_ann (cAt [1, 1, 1, 1, 0, 1, 0, 0] (bodyOf Try.f7)) [0, 1, 0, 1, 1, 1, 1] g7_K66 ((g7_l58_cs w0) ++ sputs [(2, .b), (8, .i .i64)] s) w = g7_K66 (.exit 2) (puts 69 ((g7_l58_cs w0) ++ sputs [(2, .b), (8, .i .i64)] t)) w' :=
    loop_rule (P := Try.prog) (N := 69) (f := 7) (ann := g7_ann) (body := (cAt [1, 1, 1, 1, 0, 1, 0, 0] (bodyOf Try.f7))) (pt := [0, 1, 0, 1, 1, 1, 1]) (K := g7_K66) (g7_l58_cs w0) [(2, .b), (8, .i .i64)] (b := g7_l58_b w0) (fun s w => by kernel_rfl) (by kernel_rfl) (by kernel_rfl) (by kernel_rfl) h
  have h3 : g7_K66 (.exit 2) (puts 69 ((g7_l58_cs w0) ++ sputs [(2, .b), (8, .i .i64)] t)) w' = g7_l58_x2 t w' := by kernel_rfl
  exact h1.trans (h2.trans h3)

theorem g7_l58_ret_of {w0 : World} {s t : Bool × Int} {w w' : World} (h : loopS (g7_l58_b w0) s w = some (.ret, t, w')) : g7_l58 w0 s w = g7_l58_ret t w' := by
  have h1 : g7_l58 w0 s w = loopM Try.prog 69 7 g7_ann (cAt [1, 1, 1, 1, 0, 1, 0, 0] (bodyOf Try.f7)) [0, 1, 0, 1, 1, 1, 1] g7_K66 ((g7_l58_cs w0) ++ sputs [(2, .b), (8, .i .i64)] s) w := by kernel_rfl
  have h2 : loopM Try.prog 69 7 g7_ann (cAt [1, 1, 1, 1, 0, 1, 0, 0] (bodyOf Try.f7)) [0, 1, 0, 1, 1, 1, 1] g7_K66 ((g7_l58_cs w0) ++ sputs [(2, .b), (8, .i .i64)] s) w = g7_K66 (.ret) (puts 69 ((g7_l58_cs w0) ++ sputs [(2, .b), (8, .i .i64)] t)) w' :=
    loop_rule (P := Try.prog) (N := 69) (f := 7) (ann := g7_ann) (body := (cAt [1, 1, 1, 1, 0, 1, 0, 0] (bodyOf Try.f7))) (pt := [0, 1, 0, 1, 1, 1, 1]) (K := g7_K66) (g7_l58_cs w0) [(2, .b), (8, .i .i64)] (b := g7_l58_b w0) (fun s w => by kernel_rfl) (by kernel_rfl) (by kernel_rfl) (by kernel_rfl) h
  have h3 : g7_K66 (.ret) (puts 69 ((g7_l58_cs w0) ++ sputs [(2, .b), (8, .i .i64)] t)) w' = g7_l58_ret t w' := by kernel_rfl
  exact h1.trans (h2.trans h3)

theorem g7_l4_x0_of {w0 : World} {u0 : Option Addr × Nat × Nat} {s t : Bool × Int} {w w' : World} (h : loopS (g7_l4_b u0 w0) s w = some (.exit 0, t, w')) : g7_l4 w0 u0 s w = g7_l4_x0 w0 t w' := by
  have h1 : g7_l4 w0 u0 s w = loopM Try.prog 69 7 g7_ann (cAt [1, 1, 1, 0, 1, 0, 0] (bodyOf Try.f7)) [0, 1, 0, 1, 1, 1] g7_K55 ((g7_l4_cs w0 u0) ++ sputs [(2, .b), (17, .i .i64)] s) w := by kernel_rfl
  have h2 : loopM Try.prog 69 7 g7_ann (cAt [1, 1, 1, 0, 1, 0, 0] (bodyOf Try.f7)) [0, 1, 0, 1, 1, 1] g7_K55 ((g7_l4_cs w0 u0) ++ sputs [(2, .b), (17, .i .i64)] s) w = g7_K55 (.exit 0) (puts 69 ((g7_l4_cs w0 u0) ++ sputs [(2, .b), (17, .i .i64)] t)) w' :=
    loop_rule (P := Try.prog) (N := 69) (f := 7) (ann := g7_ann) (body := (cAt [1, 1, 1, 0, 1, 0, 0] (bodyOf Try.f7))) (pt := [0, 1, 0, 1, 1, 1]) (K := g7_K55) (g7_l4_cs w0 u0) [(2, .b), (17, .i .i64)] (b := g7_l4_b u0 w0) (fun s w => by kernel_rfl) (by kernel_rfl) (by kernel_rfl) (by kernel_rfl) h
  have h3 : g7_K55 (.exit 0) (puts 69 ((g7_l4_cs w0 u0) ++ sputs [(2, .b), (17, .i .i64)] t)) w' = g7_l4_x0 w0 t w' := by kernel_rfl
  exact h1.trans (h2.trans h3)

theorem g7_l4_ret_of {w0 : World} {u0 : Option Addr × Nat × Nat} {s t : Bool × Int} {w w' : World} (h : loopS (g7_l4_b u0 w0) s w = some (.ret, t, w')) : g7_l4 w0 u0 s w = g7_l4_ret t w' := by
  have h1 : g7_l4 w0 u0 s w = loopM Try.prog 69 7 g7_ann (cAt [1, 1, 1, 0, 1, 0, 0] (bodyOf Try.f7)) [0, 1, 0, 1, 1, 1] g7_K55 ((g7_l4_cs w0 u0) ++ sputs [(2, .b), (17, .i .i64)] s) w := by kernel_rfl
  have h2 : loopM Try.prog 69 7 g7_ann (cAt [1, 1, 1, 0, 1, 0, 0] (bodyOf Try.f7)) [0, 1, 0, 1, 1, 1] g7_K55 ((g7_l4_cs w0 u0) ++ sputs [(2, .b), (17, .i .i64)] s) w = g7_K55 (.ret) (puts 69 ((g7_l4_cs w0 u0) ++ sputs [(2, .b), (17, .i .i64)] t)) w' :=
    loop_rule (P := Try.prog) (N := 69) (f := 7) (ann := g7_ann) (body := (cAt [1, 1, 1, 0, 1, 0, 0] (bodyOf Try.f7))) (pt := [0, 1, 0, 1, 1, 1]) (K := g7_K55) (g7_l4_cs w0 u0) [(2, .b), (17, .i .i64)] (b := g7_l4_b u0 w0) (fun s w => by kernel_rfl) (by kernel_rfl) (by kernel_rfl) (by kernel_rfl) h
  have h3 : g7_K55 (.ret) (puts 69 ((g7_l4_cs w0 u0) ++ sputs [(2, .b), (17, .i .i64)] t)) w' = g7_l4_ret t w' := by kernel_rfl
  exact h1.trans (h2.trans h3)

/-! 22: (*penstock/penstockref01.Marks).Turn (m: *penstockref01.Marks, i: int, to: bool) -/
def g22_ann : List (List Nat × List Nat) := []

noncomputable def g22 (u0 : Option Addr) (u1 : Int) (u2 : Bool) (w0 : World) : Option (Value × World) :=
if (decide ((u1 : Int) < 0)) = true then
(some (.bool false, w0))
else
(if (decide ((u1 : Int) > 255)) = true then
(some (.bool false, w0))
else
(u0.bind fun a1 =>
(idxA (some a1) 256 1 u1).bind fun a2 =>
(World.cell? w0 a2).bind fun v3 =>
(asB v3).bind fun b4 =>
u0.bind fun a5 =>
(idxA (some a5) 256 1 u1).bind fun a6 =>
(st1 w0 a6 (.bool u2)).bind fun w7 =>
some (.bool (!(b4 == u2)), w7)))

theorem g22_eq (u0 : Option Addr) (u1 : Int) (u2 : Bool) (w0 : World) : evFn Try.prog 22 g22_ann #[.pointer u0, .int .i64 u1, .bool u2] w0 = g22 u0 u1 u2 w0 := by kernel_rfl

theorem g22_call {u0 : Option Addr} {u1 : Int} {u2 : Bool} {w0 : World} {r : Value × World} (h : g22 u0 u1 u2 w0 = some r) : callF Try.prog 22 #[.pointer u0, .int .i64 u1, .bool u2] w0 = some r :=
  callF_of_evFn (ann := g22_ann) Try.call22 (by kernel_rfl) ((g22_eq u0 u1 u2 w0).trans h)

/-! 24: (*penstock/penstockref01.Marks).Has (m: *penstockref01.Marks, i: int) -/
def g24_ann : List (List Nat × List Nat) := []

noncomputable def g24 (u0 : Option Addr) (u1 : Int) (w0 : World) : Option (Value × World) :=
if (decide ((u1 : Int) ≥ 0)) = true then
(if (decide ((u1 : Int) < 256)) = true then
(u0.bind fun a1 =>
(idxA (some a1) 256 1 u1).bind fun a2 =>
(World.cell? w0 a2).bind fun v3 =>
(asB v3).bind fun b4 =>
some (.bool b4, w0))
else
(some (.bool false, w0)))
else
(some (.bool false, w0))

theorem g24_eq (u0 : Option Addr) (u1 : Int) (w0 : World) : evFn Try.prog 24 g24_ann #[.pointer u0, .int .i64 u1] w0 = g24 u0 u1 w0 := by kernel_rfl

theorem g24_call {u0 : Option Addr} {u1 : Int} {w0 : World} {r : Value × World} (h : g24 u0 u1 w0 = some r) : callF Try.prog 24 #[.pointer u0, .int .i64 u1] w0 = some r :=
  callF_of_evFn (ann := g24_ann) Try.call24 (by kernel_rfl) ((g24_eq u0 u1 w0).trans h)

/-! 25: (*penstock/penstockref01.Marks).Count (m: *penstockref01.Marks) -/
def g25_ann : List (List Nat × List Nat) := [([0, 1, 0, 1, 1], [0, 3, 4])]

def g25_l1_cs (u0 : Option Addr) : List (Nat × Value) := ([(0, .pointer u0)] : List (Nat × Value))

/-- the round of a loop ((*penstock/penstockref01.Marks).Count) -/
noncomputable def g25_l1_b (u0 : Option Addr) (s2 : Int × Int) (w3 : World) : Option (Exit × (Int × Int) × World) :=
if (decide ((s2.2 : Int) < 256)) = true then
(u0.bind fun a4 =>
(idxA (some a4) 256 1 s2.2).bind fun a5 =>
(World.cell? w3 a5).bind fun v6 =>
(asB v6).bind fun b7 =>
if b7 = true then
(some (.normal, ((IntKind.i64.wrap (s2.1 + 1)), (IntKind.i64.wrap (s2.2 + 1))), w3))
else
(some (.normal, (s2.1, (IntKind.i64.wrap (s2.2 + 1))), w3)))
else
(some ((.exit 0), (s2.1, s2.2), w3))

noncomputable def g25_K8  : Exit → Env → World → Option (Value × World) :=
  retK Try.prog Try.f25.results.toList

noncomputable def g25_K9  : Exit → Env → World → Option (Value × World) :=
  seqK (ev Try.prog 18 25 g25_ann (cAt [1, 1, 1] (bodyOf Try.f25)) [1, 1, 1] g25_K8) g25_K8

noncomputable def g25_K10  : Exit → Env → World → Option (Value × World) :=
  blkK 0 g25_K9

/-- the loop, from a state on -/
noncomputable def g25_l1 (u0 : Option Addr) (s : Int × Int) (w : World) : Option (Value × World) :=
  loopM Try.prog 18 25 g25_ann (cAt [1, 1, 0, 1, 0, 0] (bodyOf Try.f25)) [0, 1, 0, 1, 1] g25_K10 ((g25_l1_cs u0) ++ sputs [(3, .i .i64), (4, .i .i64)] s) w

/-- behind the loop, left by x0 -/
noncomputable def g25_l1_x0  (t11 : Int × Int) (w12 : World) : Option (Value × World) :=
some (.int .i64 t11.1, w12)

noncomputable def g25 (u0 : Option Addr) (w0 : World) : Option (Value × World) :=
g25_l1 u0 (0, 0) w0

theorem g25_eq (u0 : Option Addr) (w0 : World) : evFn Try.prog 25 g25_ann #[.pointer u0] w0 = g25 u0 w0 := by kernel_rfl

theorem g25_call {u0 : Option Addr} {w0 : World} {r : Value × World} (h : g25 u0 w0 = some r) : callF Try.prog 25 #[.pointer u0] w0 = some r :=
  callF_of_evFn (ann := g25_ann) Try.call25 (by kernel_rfl) ((g25_eq u0 w0).trans h)

theorem g25_l1_x0_of {u0 : Option Addr} {s t : Int × Int} {w w' : World} (h : loopS (g25_l1_b u0) s w = some (.exit 0, t, w')) : g25_l1 u0 s w = g25_l1_x0 t w' := by
  have h1 : g25_l1 u0 s w = loopM Try.prog 18 25 g25_ann (cAt [1, 1, 0, 1, 0, 0] (bodyOf Try.f25)) [0, 1, 0, 1, 1] g25_K10 ((g25_l1_cs u0) ++ sputs [(3, .i .i64), (4, .i .i64)] s) w := by kernel_rfl
  have h2 : loopM Try.prog 18 25 g25_ann (cAt [1, 1, 0, 1, 0, 0] (bodyOf Try.f25)) [0, 1, 0, 1, 1] g25_K10 ((g25_l1_cs u0) ++ sputs [(3, .i .i64), (4, .i .i64)] s) w = g25_K10 (.exit 0) (puts 18 ((g25_l1_cs u0) ++ sputs [(3, .i .i64), (4, .i .i64)] t)) w' :=
    loop_rule (P := Try.prog) (N := 18) (f := 25) (ann := g25_ann) (body := (cAt [1, 1, 0, 1, 0, 0] (bodyOf Try.f25))) (pt := [0, 1, 0, 1, 1]) (K := g25_K10) (g25_l1_cs u0) [(3, .i .i64), (4, .i .i64)] (b := g25_l1_b u0) (fun s w => by kernel_rfl) (by kernel_rfl) (by kernel_rfl) (by kernel_rfl) h
  have h3 : g25_K10 (.exit 0) (puts 18 ((g25_l1_cs u0) ++ sputs [(3, .i .i64), (4, .i .i64)] t)) w' = g25_l1_x0 t w' := by kernel_rfl
  exact h1.trans (h2.trans h3)

/-! 32: math/bits.OnesCount64 (x: uint64) -/
def g32_ann : List (List Nat × List Nat) := []

noncomputable def g32 (u0 : Int) (w0 : World) : Option (Value × World) :=
some (.int .i64 (IntKind.i64.wrap ((BitVec.ofInt 64 (IntKind.i64.wrap (IntKind.u64.wrap ((IntKind.u64.wrap ((IntKind.u64.wrap ((IntKind.u64.wrap ((BitVec.ofInt 64 (IntKind.u64.wrap ((Int.fdiv (IntKind.u64.wrap ((IntKind.u64.wrap ((BitVec.ofInt 64 (Int.fdiv (IntKind.u64.wrap ((IntKind.u64.wrap ((BitVec.ofInt 64 (Int.fdiv u0 (2 ^ (min (Int.toNat 1) 64))) &&& BitVec.ofInt 64 6148914691236517205).toNat : Nat)) + (IntKind.u64.wrap ((BitVec.ofInt 64 u0 &&& BitVec.ofInt 64 6148914691236517205).toNat : Nat)))) (2 ^ (min (Int.toNat 2) 64))) &&& BitVec.ofInt 64 3689348814741910323).toNat : Nat)) + (IntKind.u64.wrap ((BitVec.ofInt 64 (IntKind.u64.wrap ((IntKind.u64.wrap ((BitVec.ofInt 64 (Int.fdiv u0 (2 ^ (min (Int.toNat 1) 64))) &&& BitVec.ofInt 64 6148914691236517205).toNat : Nat)) + (IntKind.u64.wrap ((BitVec.ofInt 64 u0 &&& BitVec.ofInt 64 6148914691236517205).toNat : Nat)))) &&& BitVec.ofInt 64 3689348814741910323).toNat : Nat)))) (2 ^ (min (Int.toNat 4) 64))) + (IntKind.u64.wrap ((IntKind.u64.wrap ((BitVec.ofInt 64 (Int.fdiv (IntKind.u64.wrap ((IntKind.u64.wrap ((BitVec.ofInt 64 (Int.fdiv u0 (2 ^ (min (Int.toNat 1) 64))) &&& BitVec.ofInt 64 6148914691236517205).toNat : Nat)) + (IntKind.u64.wrap ((BitVec.ofInt 64 u0 &&& BitVec.ofInt 64 6148914691236517205).toNat : Nat)))) (2 ^ (min (Int.toNat 2) 64))) &&& BitVec.ofInt 64 3689348814741910323).toNat : Nat)) + (IntKind.u64.wrap ((BitVec.ofInt 64 (IntKind.u64.wrap ((IntKind.u64.wrap ((BitVec.ofInt 64 (Int.fdiv u0 (2 ^ (min (Int.toNat 1) 64))) &&& BitVec.ofInt 64 6148914691236517205).toNat : Nat)) + (IntKind.u64.wrap ((BitVec.ofInt 64 u0 &&& BitVec.ofInt 64 6148914691236517205).toNat : Nat)))) &&& BitVec.ofInt 64 3689348814741910323).toNat : Nat)))))) &&& BitVec.ofInt 64 1085102592571150095).toNat : Nat)) + (Int.fdiv (IntKind.u64.wrap ((BitVec.ofInt 64 (IntKind.u64.wrap ((Int.fdiv (IntKind.u64.wrap ((IntKind.u64.wrap ((BitVec.ofInt 64 (Int.fdiv (IntKind.u64.wrap ((IntKind.u64.wrap ((BitVec.ofInt 64 (Int.fdiv u0 (2 ^ (min (Int.toNat 1) 64))) &&& BitVec.ofInt 64 6148914691236517205).toNat : Nat)) + (IntKind.u64.wrap ((BitVec.ofInt 64 u0 &&& BitVec.ofInt 64 6148914691236517205).toNat : Nat)))) (2 ^ (min (Int.toNat 2) 64))) &&& BitVec.ofInt 64 3689348814741910323).toNat : Nat)) + (IntKind.u64.wrap ((BitVec.ofInt 64 (IntKind.u64.wrap ((IntKind.u64.wrap ((BitVec.ofInt 64 (Int.fdiv u0 (2 ^ (min (Int.toNat 1) 64))) &&& BitVec.ofInt 64 6148914691236517205).toNat : Nat)) + (IntKind.u64.wrap ((BitVec.ofInt 64 u0 &&& BitVec.ofInt 64 6148914691236517205).toNat : Nat)))) &&& BitVec.ofInt 64 3689348814741910323).toNat : Nat)))) (2 ^ (min (Int.toNat 4) 64))) + (IntKind.u64.wrap ((IntKind.u64.wrap ((BitVec.ofInt 64 (Int.fdiv (IntKind.u64.wrap ((IntKind.u64.wrap ((BitVec.ofInt 64 (Int.fdiv u0 (2 ^ (min (Int.toNat 1) 64))) &&& BitVec.ofInt 64 6148914691236517205).toNat : Nat)) + (IntKind.u64.wrap ((BitVec.ofInt 64 u0 &&& BitVec.ofInt 64 6148914691236517205).toNat : Nat)))) (2 ^ (min (Int.toNat 2) 64))) &&& BitVec.ofInt 64 3689348814741910323).toNat : Nat)) + (IntKind.u64.wrap ((BitVec.ofInt 64 (IntKind.u64.wrap ((IntKind.u64.wrap ((BitVec.ofInt 64 (Int.fdiv u0 (2 ^ (min (Int.toNat 1) 64))) &&& BitVec.ofInt 64 6148914691236517205).toNat : Nat)) + (IntKind.u64.wrap ((BitVec.ofInt 64 u0 &&& BitVec.ofInt 64 6148914691236517205).toNat : Nat)))) &&& BitVec.ofInt 64 3689348814741910323).toNat : Nat)))))) &&& BitVec.ofInt 64 1085102592571150095).toNat : Nat)) (2 ^ (min (Int.toNat 8) 64))))) + (Int.fdiv (IntKind.u64.wrap ((IntKind.u64.wrap ((BitVec.ofInt 64 (IntKind.u64.wrap ((Int.fdiv (IntKind.u64.wrap ((IntKind.u64.wrap ((BitVec.ofInt 64 (Int.fdiv (IntKind.u64.wrap ((IntKind.u64.wrap ((BitVec.ofInt 64 (Int.fdiv u0 (2 ^ (min (Int.toNat 1) 64))) &&& BitVec.ofInt 64 6148914691236517205).toNat : Nat)) + (IntKind.u64.wrap ((BitVec.ofInt 64 u0 &&& BitVec.ofInt 64 6148914691236517205).toNat : Nat)))) (2 ^ (min (Int.toNat 2) 64))) &&& BitVec.ofInt 64 3689348814741910323).toNat : Nat)) + (IntKind.u64.wrap ((BitVec.ofInt 64 (IntKind.u64.wrap ((IntKind.u64.wrap ((BitVec.ofInt 64 (Int.fdiv u0 (2 ^ (min (Int.toNat 1) 64))) &&& BitVec.ofInt 64 6148914691236517205).toNat : Nat)) + (IntKind.u64.wrap ((BitVec.ofInt 64 u0 &&& BitVec.ofInt 64 6148914691236517205).toNat : Nat)))) &&& BitVec.ofInt 64 3689348814741910323).toNat : Nat)))) (2 ^ (min (Int.toNat 4) 64))) + (IntKind.u64.wrap ((IntKind.u64.wrap ((BitVec.ofInt 64 (Int.fdiv (IntKind.u64.wrap ((IntKind.u64.wrap ((BitVec.ofInt 64 (Int.fdiv u0 (2 ^ (min (Int.toNat 1) 64))) &&& BitVec.ofInt 64 6148914691236517205).toNat : Nat)) + (IntKind.u64.wrap ((BitVec.ofInt 64 u0 &&& BitVec.ofInt 64 6148914691236517205).toNat : Nat)))) (2 ^ (min (Int.toNat 2) 64))) &&& BitVec.ofInt 64 3689348814741910323).toNat : Nat)) + (IntKind.u64.wrap ((BitVec.ofInt 64 (IntKind.u64.wrap ((IntKind.u64.wrap ((BitVec.ofInt 64 (Int.fdiv u0 (2 ^ (min (Int.toNat 1) 64))) &&& BitVec.ofInt 64 6148914691236517205).toNat : Nat)) + (IntKind.u64.wrap ((BitVec.ofInt 64 u0 &&& BitVec.ofInt 64 6148914691236517205).toNat : Nat)))) &&& BitVec.ofInt 64 3689348814741910323).toNat : Nat)))))) &&& BitVec.ofInt 64 1085102592571150095).toNat : Nat)) + (Int.fdiv (IntKind.u64.wrap ((BitVec.ofInt 64 (IntKind.u64.wrap ((Int.fdiv (IntKind.u64.wrap ((IntKind.u64.wrap ((BitVec.ofInt 64 (Int.fdiv (IntKind.u64.wrap ((IntKind.u64.wrap ((BitVec.ofInt 64 (Int.fdiv u0 (2 ^ (min (Int.toNat 1) 64))) &&& BitVec.ofInt 64 6148914691236517205).toNat : Nat)) + (IntKind.u64.wrap ((BitVec.ofInt 64 u0 &&& BitVec.ofInt 64 6148914691236517205).toNat : Nat)))) (2 ^ (min (Int.toNat 2) 64))) &&& BitVec.ofInt 64 3689348814741910323).toNat : Nat)) + (IntKind.u64.wrap ((BitVec.ofInt 64 (IntKind.u64.wrap ((IntKind.u64.wrap ((BitVec.ofInt 64 (Int.fdiv u0 (2 ^ (min (Int.toNat 1) 64))) &&& BitVec.ofInt 64 6148914691236517205).toNat : Nat)) + (IntKind.u64.wrap ((BitVec.ofInt 64 u0 &&& BitVec.ofInt 64 6148914691236517205).toNat : Nat)))) &&& BitVec.ofInt 64 3689348814741910323).toNat : Nat)))) (2 ^ (min (Int.toNat 4) 64))) + (IntKind.u64.wrap ((IntKind.u64.wrap ((BitVec.ofInt 64 (Int.fdiv (IntKind.u64.wrap ((IntKind.u64.wrap ((BitVec.ofInt 64 (Int.fdiv u0 (2 ^ (min (Int.toNat 1) 64))) &&& BitVec.ofInt 64 6148914691236517205).toNat : Nat)) + (IntKind.u64.wrap ((BitVec.ofInt 64 u0 &&& BitVec.ofInt 64 6148914691236517205).toNat : Nat)))) (2 ^ (min (Int.toNat 2) 64))) &&& BitVec.ofInt 64 3689348814741910323).toNat : Nat)) + (IntKind.u64.wrap ((BitVec.ofInt 64 (IntKind.u64.wrap ((IntKind.u64.wrap ((BitVec.ofInt 64 (Int.fdiv u0 (2 ^ (min (Int.toNat 1) 64))) &&& BitVec.ofInt 64 6148914691236517205).toNat : Nat)) + (IntKind.u64.wrap ((BitVec.ofInt 64 u0 &&& BitVec.ofInt 64 6148914691236517205).toNat : Nat)))) &&& BitVec.ofInt 64 3689348814741910323).toNat : Nat)))))) &&& BitVec.ofInt 64 1085102592571150095).toNat : Nat)) (2 ^ (min (Int.toNat 8) 64))))) (2 ^ (min (Int.toNat 16) 64))))) + (Int.fdiv (IntKind.u64.wrap ((IntKind.u64.wrap ((IntKind.u64.wrap ((BitVec.ofInt 64 (IntKind.u64.wrap ((Int.fdiv (IntKind.u64.wrap ((IntKind.u64.wrap ((BitVec.ofInt 64 (Int.fdiv (IntKind.u64.wrap ((IntKind.u64.wrap ((BitVec.ofInt 64 (Int.fdiv u0 (2 ^ (min (Int.toNat 1) 64))) &&& BitVec.ofInt 64 6148914691236517205).toNat : Nat)) + (IntKind.u64.wrap ((BitVec.ofInt 64 u0 &&& BitVec.ofInt 64 6148914691236517205).toNat : Nat)))) (2 ^ (min (Int.toNat 2) 64))) &&& BitVec.ofInt 64 3689348814741910323).toNat : Nat)) + (IntKind.u64.wrap ((BitVec.ofInt 64 (IntKind.u64.wrap ((IntKind.u64.wrap ((BitVec.ofInt 64 (Int.fdiv u0 (2 ^ (min (Int.toNat 1) 64))) &&& BitVec.ofInt 64 6148914691236517205).toNat : Nat)) + (IntKind.u64.wrap ((BitVec.ofInt 64 u0 &&& BitVec.ofInt 64 6148914691236517205).toNat : Nat)))) &&& BitVec.ofInt 64 3689348814741910323).toNat : Nat)))) (2 ^ (min (Int.toNat 4) 64))) + (IntKind.u64.wrap ((IntKind.u64.wrap ((BitVec.ofInt 64 (Int.fdiv (IntKind.u64.wrap ((IntKind.u64.wrap ((BitVec.ofInt 64 (Int.fdiv u0 (2 ^ (min (Int.toNat 1) 64))) &&& BitVec.ofInt 64 6148914691236517205).toNat : Nat)) + (IntKind.u64.wrap ((BitVec.ofInt 64 u0 &&& BitVec.ofInt 64 6148914691236517205).toNat : Nat)))) (2 ^ (min (Int.toNat 2) 64))) &&& BitVec.ofInt 64 3689348814741910323).toNat : Nat)) + (IntKind.u64.wrap ((BitVec.ofInt 64 (IntKind.u64.wrap ((IntKind.u64.wrap ((BitVec.ofInt 64 (Int.fdiv u0 (2 ^ (min (Int.toNat 1) 64))) &&& BitVec.ofInt 64 6148914691236517205).toNat : Nat)) + (IntKind.u64.wrap ((BitVec.ofInt 64 u0 &&& BitVec.ofInt 64 6148914691236517205).toNat : Nat)))) &&& BitVec.ofInt 64 3689348814741910323).toNat : Nat)))))) &&& BitVec.ofInt 64 1085102592571150095).toNat : Nat)) + (Int.fdiv (IntKind.u64.wrap ((BitVec.ofInt 64 (IntKind.u64.wrap ((Int.fdiv (IntKind.u64.wrap ((IntKind.u64.wrap ((BitVec.ofInt 64 (Int.fdiv (IntKind.u64.wrap ((IntKind.u64.wrap ((BitVec.ofInt 64 (Int.fdiv u0 (2 ^ (min (Int.toNat 1) 64))) &&& BitVec.ofInt 64 6148914691236517205).toNat : Nat)) + (IntKind.u64.wrap ((BitVec.ofInt 64 u0 &&& BitVec.ofInt 64 6148914691236517205).toNat : Nat)))) (2 ^ (min (Int.toNat 2) 64))) &&& BitVec.ofInt 64 3689348814741910323).toNat : Nat)) + (IntKind.u64.wrap ((BitVec.ofInt 64 (IntKind.u64.wrap ((IntKind.u64.wrap ((BitVec.ofInt 64 (Int.fdiv u0 (2 ^ (min (Int.toNat 1) 64))) &&& BitVec.ofInt 64 6148914691236517205).toNat : Nat)) + (IntKind.u64.wrap ((BitVec.ofInt 64 u0 &&& BitVec.ofInt 64 6148914691236517205).toNat : Nat)))) &&& BitVec.ofInt 64 3689348814741910323).toNat : Nat)))) (2 ^ (min (Int.toNat 4) 64))) + (IntKind.u64.wrap ((IntKind.u64.wrap ((BitVec.ofInt 64 (Int.fdiv (IntKind.u64.wrap ((IntKind.u64.wrap ((BitVec.ofInt 64 (Int.fdiv u0 (2 ^ (min (Int.toNat 1) 64))) &&& BitVec.ofInt 64 6148914691236517205).toNat : Nat)) + (IntKind.u64.wrap ((BitVec.ofInt 64 u0 &&& BitVec.ofInt 64 6148914691236517205).toNat : Nat)))) (2 ^ (min (Int.toNat 2) 64))) &&& BitVec.ofInt 64 3689348814741910323).toNat : Nat)) + (IntKind.u64.wrap ((BitVec.ofInt 64 (IntKind.u64.wrap ((IntKind.u64.wrap ((BitVec.ofInt 64 (Int.fdiv u0 (2 ^ (min (Int.toNat 1) 64))) &&& BitVec.ofInt 64 6148914691236517205).toNat : Nat)) + (IntKind.u64.wrap ((BitVec.ofInt 64 u0 &&& BitVec.ofInt 64 6148914691236517205).toNat : Nat)))) &&& BitVec.ofInt 64 3689348814741910323).toNat : Nat)))))) &&& BitVec.ofInt 64 1085102592571150095).toNat : Nat)) (2 ^ (min (Int.toNat 8) 64))))) + (Int.fdiv (IntKind.u64.wrap ((IntKind.u64.wrap ((BitVec.ofInt 64 (IntKind.u64.wrap ((Int.fdiv (IntKind.u64.wrap ((IntKind.u64.wrap ((BitVec.ofInt 64 (Int.fdiv (IntKind.u64.wrap ((IntKind.u64.wrap ((BitVec.ofInt 64 (Int.fdiv u0 (2 ^ (min (Int.toNat 1) 64))) &&& BitVec.ofInt 64 6148914691236517205).toNat : Nat)) + (IntKind.u64.wrap ((BitVec.ofInt 64 u0 &&& BitVec.ofInt 64 6148914691236517205).toNat : Nat)))) (2 ^ (min (Int.toNat 2) 64))) &&& BitVec.ofInt 64 3689348814741910323).toNat : Nat)) + (IntKind.u64.wrap ((BitVec.ofInt 64 (IntKind.u64.wrap ((IntKind.u64.wrap ((BitVec.ofInt 64 (Int.fdiv u0 (2 ^ (min (Int.toNat 1) 64))) &&& BitVec.ofInt 64 6148914691236517205).toNat : Nat)) + (IntKind.u64.wrap ((BitVec.ofInt 64 u0 &&& BitVec.ofInt 64 6148914691236517205).toNat : Nat)))) &&& BitVec.ofInt 64 3689348814741910323).toNat : Nat)))) (2 ^ (min (Int.toNat 4) 64))) + (IntKind.u64.wrap ((IntKind.u64.wrap ((BitVec.ofInt 64 (Int.fdiv (IntKind.u64.wrap ((IntKind.u64.wrap ((BitVec.ofInt 64 (Int.fdiv u0 (2 ^ (min (Int.toNat 1) 64))) &&& BitVec.ofInt 64 6148914691236517205).toNat : Nat)) + (IntKind.u64.wrap ((BitVec.ofInt 64 u0 &&& BitVec.ofInt 64 6148914691236517205).toNat : Nat)))) (2 ^ (min (Int.toNat 2) 64))) &&& BitVec.ofInt 64 3689348814741910323).toNat : Nat)) + (IntKind.u64.wrap ((BitVec.ofInt 64 (IntKind.u64.wrap ((IntKind.u64.wrap ((BitVec.ofInt 64 (Int.fdiv u0 (2 ^ (min (Int.toNat 1) 64))) &&& BitVec.ofInt 64 6148914691236517205).toNat : Nat)) + (IntKind.u64.wrap ((BitVec.ofInt 64 u0 &&& BitVec.ofInt 64 6148914691236517205).toNat : Nat)))) &&& BitVec.ofInt 64 3689348814741910323).toNat : Nat)))))) &&& BitVec.ofInt 64 1085102592571150095).toNat : Nat)) + (Int.fdiv (IntKind.u64.wrap ((BitVec.ofInt 64 (IntKind.u64.wrap ((Int.fdiv (IntKind.u64.wrap ((IntKind.u64.wrap ((BitVec.ofInt 64 (Int.fdiv (IntKind.u64.wrap ((IntKind.u64.wrap ((BitVec.ofInt 64 (Int.fdiv u0 (2 ^ (min (Int.toNat 1) 64))) &&& BitVec.ofInt 64 6148914691236517205).toNat : Nat)) + (IntKind.u64.wrap ((BitVec.ofInt 64 u0 &&& BitVec.ofInt 64 6148914691236517205).toNat : Nat)))) (2 ^ (min (Int.toNat 2) 64))) &&& BitVec.ofInt 64 3689348814741910323).toNat : Nat)) + (IntKind.u64.wrap ((BitVec.ofInt 64 (IntKind.u64.wrap ((IntKind.u64.wrap ((BitVec.ofInt 64 (Int.fdiv u0 (2 ^ (min (Int.toNat 1) 64))) &&& BitVec.ofInt 64 6148914691236517205).toNat : Nat)) + (IntKind.u64.wrap ((BitVec.ofInt 64 u0 &&& BitVec.ofInt 64 6148914691236517205).toNat : Nat)))) &&& BitVec.ofInt 64 3689348814741910323).toNat : Nat)))) (2 ^ (min (Int.toNat 4) 64))) + (IntKind.u64.wrap ((IntKind.u64.wrap ((BitVec.ofInt 64 (Int.fdiv (IntKind.u64.wrap ((IntKind.u64.wrap ((BitVec.ofInt 64 (Int.fdiv u0 (2 ^ (min (Int.toNat 1) 64))) &&& BitVec.ofInt 64 6148914691236517205).toNat : Nat)) + (IntKind.u64.wrap ((BitVec.ofInt 64 u0 &&& BitVec.ofInt 64 6148914691236517205).toNat : Nat)))) (2 ^ (min (Int.toNat 2) 64))) &&& BitVec.ofInt 64 3689348814741910323).toNat : Nat)) + (IntKind.u64.wrap ((BitVec.ofInt 64 (IntKind.u64.wrap ((IntKind.u64.wrap ((BitVec.ofInt 64 (Int.fdiv u0 (2 ^ (min (Int.toNat 1) 64))) &&& BitVec.ofInt 64 6148914691236517205).toNat : Nat)) + (IntKind.u64.wrap ((BitVec.ofInt 64 u0 &&& BitVec.ofInt 64 6148914691236517205).toNat : Nat)))) &&& BitVec.ofInt 64 3689348814741910323).toNat : Nat)))))) &&& BitVec.ofInt 64 1085102592571150095).toNat : Nat)) (2 ^ (min (Int.toNat 8) 64))))) (2 ^ (min (Int.toNat 16) 64))))) (2 ^ (min (Int.toNat 32) 64)))))) &&& BitVec.ofInt 64 127).toNat : Nat)), w0)

theorem g32_eq (u0 : Int) (w0 : World) : evFn Try.prog 32 g32_ann #[.int .u64 u0] w0 = g32 u0 w0 := by kernel_rfl

theorem g32_call {u0 : Int} {w0 : World} {r : Value × World} (h : g32 u0 w0 = some r) : callF Try.prog 32 #[.int .u64 u0] w0 = some r :=
  callF_of_evFn (ann := g32_ann) Try.call32 (by kernel_rfl) ((g32_eq u0 w0).trans h)

end Go.Proofs.Ytniibeofggdfoaa
