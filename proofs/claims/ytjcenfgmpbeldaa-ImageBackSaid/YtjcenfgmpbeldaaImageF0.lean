/-
  ImageF0: lemmas on what Go functions of this seat come to (for whatever arguments, as each says). No condition but those that stand in each lemma.
-/
import Derived.Test.YtjcenfgmpbeldaaLb9
import Derived.Test.YtjcenfgmpbeldaaProg
namespace Go.Proofs.Ytjcenfgmpbeldaa
open Go Go.Ev
set_option maxRecDepth 100000
set_option linter.unusedVariables false
/-! 11: penstock/image.New (nodes: int, parts: int, copies: int) -/
def g11_ann : List (List Nat × List Nat) := [([0, 1, 0, 1, 1, 1], [0, 2, 8, 40, 41]), ([0, 1, 0, 1, 1, 0, 0, 1, 1, 0, 0, 1, 0, 1, 1, 1], [0, 2, 8, 9, 40, 41, 44, 10, 45])]

noncomputable def g11_K77  : Exit → Env → World → Option (Value × World) :=
  retK Try.prog Try.f11.results.toList

noncomputable def g11_K78  : Exit → Env → World → Option (Value × World) :=
  seqK (ev Try.prog 74 11 g11_ann (cAt [1, 1, 1, 1] (bodyOf Try.f11)) [1, 1, 1, 1] g11_K77) g11_K77

noncomputable def g11_K79  : Exit → Env → World → Option (Value × World) :=
  blkK 0 g11_K78

def g11_l15_cs (u0 : Int) (u2 : Int) (w11 : World) (u1 : Int) : List (Nat × Value) := ([(0, .int .i64 u0), (2, .int .i64 u2), (8, .pointer (some (⟨w11.heap.size, 0, none⟩))), (40, .int .i64 u1)] : List (Nat × Value))

/-- the loop, from a state on -/
noncomputable def g11_l15 (u0 : Int) (u2 : Int) (w11 : World) (u1 : Int) (s : Int) (w : World) : Option (Value × World) :=
  loopM Try.prog 74 11 g11_ann (cAt [1, 1, 1, 0, 1, 0, 0] (bodyOf Try.f11)) [0, 1, 0, 1, 1, 1] g11_K79 ((g11_l15_cs u0 u2 w11 u1) ++ sputs [(41, .i .i64)] s) w

noncomputable def g11_j8 (u0 : Int) (u1 : Int) (u2 : Int) (w0 : World) (x9 : Option Addr × Nat × Nat) (x10 : Option Addr) (w11 : World) : Option (Value × World) :=
g11_l15 u0 u2 w11 u1 0 (World.alloc w11 (.cells #[.slice x9.1 x9.2.1 x9.2.2, .slice none 0 0, .pointer x10, .int .i64 0] 79))

def g11_l18_cs (u0 : Int) (u2 : Int) (w11 : World) (s16 : Int) (u1 : Int) : List (Nat × Value) := ([(0, .int .i64 u0), (2, .int .i64 u2), (8, .pointer (some (⟨w11.heap.size, 0, none⟩))), (9, .int .i64 s16), (40, .int .i64 u1), (41, .int .i64 s16), (44, .int .i64 u2)] : List (Nat × Value))

/-- the round of a loop (penstock/image.New) -/
noncomputable def g11_l18_b (u2 : Int) (u0 : Int) (s16 : Int) (w11 : World) (u1 : Int) (s19 : (Option Addr × Nat × Nat) × Int) (w20 : World) : Option (Exit × ((Option Addr × Nat × Nat) × Int) × World) :=
if (decide ((s19.2 : Int) < u2)) = true then
(if (u0 : Int) = 0 then
(none)
else
((callB Try.prog .append #[28, 28] 28 #[false, false] #[.slice s19.1.1 s19.1.2.1 s19.1.2.2, .slice (some (⟨w20.heap.size, 0, none⟩)) 1 1] (World.alloc w20 (.cells #[.int .i64 (Int.tmod (IntKind.i64.wrap (s16 + s19.2)) u0)] 3))).bind fun r21 =>
(asSl r21.1).bind fun q22 =>
some (.normal, ((q22.1, q22.2.1, q22.2.2), (IntKind.i64.wrap (s19.2 + 1))), r21.2)))
else
(some ((.exit 2), ((s19.1.1, s19.1.2.1, s19.1.2.2), s19.2), w20))

noncomputable def g11_K23 (u0 : Int) (u2 : Int) (w11 : World) (u1 : Int) : Exit → Env → World → Option (Exit × (Int) × World) :=
  fun e ρ w => ((List.map (·.1) (g11_l15_cs u0 u2 w11 u1)).mapM ρ).bind fun _ => loopK [(41, .i .i64)] e ρ w

noncomputable def g11_K24 (u0 : Int) (u2 : Int) (w11 : World) (u1 : Int) : Exit → Env → World → Option (Exit × (Int) × World) :=
  seqK (ev Try.prog 74 11 g11_ann (cAt [1, 1, 1, 0, 1, 0, 0, 1, 1, 1] (bodyOf Try.f11)) [1, 1, 1, 0, 0, 1, 0, 1, 1, 1] (g11_K23 u0 u2 w11 u1)) (g11_K23 u0 u2 w11 u1)

noncomputable def g11_K25 (u0 : Int) (u2 : Int) (w11 : World) (u1 : Int) : Exit → Env → World → Option (Exit × (Int) × World) :=
  blkK 1 (g11_K24 u0 u2 w11 u1)

noncomputable def g11_K26 (u0 : Int) (u2 : Int) (w11 : World) (u1 : Int) : Exit → Env → World → Option (Exit × (Int) × World) :=
  seqK (ev Try.prog 74 11 g11_ann (cAt [1, 1, 1, 0, 1, 0, 0, 1, 1, 0, 0, 1, 1, 1] (bodyOf Try.f11)) [1, 1, 1, 0, 0, 1, 1, 0, 0, 1, 0, 1, 1, 1] (g11_K25 u0 u2 w11 u1)) (g11_K25 u0 u2 w11 u1)

noncomputable def g11_K27 (u0 : Int) (u2 : Int) (w11 : World) (u1 : Int) : Exit → Env → World → Option (Exit × (Int) × World) :=
  blkK 2 (g11_K26 u0 u2 w11 u1)

/-- the loop, from a state on -/
noncomputable def g11_l18 (u0 : Int) (u2 : Int) (w11 : World) (s16 : Int) (u1 : Int) (s : (Option Addr × Nat × Nat) × Int) (w : World) : Option (Exit × (Int) × World) :=
  loopM Try.prog 74 11 g11_ann (cAt [1, 1, 1, 0, 1, 0, 0, 1, 1, 0, 0, 1, 1, 0, 1, 0, 0] (bodyOf Try.f11)) [0, 1, 0, 1, 1, 0, 0, 1, 1, 0, 0, 1, 0, 1, 1, 1] (g11_K27 u0 u2 w11 u1) ((g11_l18_cs u0 u2 w11 s16 u1) ++ sputs [(10, .sl), (45, .i .i64)] s) w

noncomputable def g11_j52 (u0 : Int) (u2 : Int) (w11 : World) (s16 : Int) (t28 : (Option Addr × Nat × Nat) × Int) (u1 : Int) (r30 : Value × World) (x56 : Option Addr × Nat × Nat) (x57 : Int) (x58 : Int) (x59 : Int) (x60 : Option Addr × Nat × Nat) (x61 : Option Addr × Nat × Nat) (x62 : Option Addr × Nat × Nat) (w63 : World) : Option (Exit × (Int) × World) :=
(callB Try.prog .append #[77, 77] 77 #[false, false] #[.slice x56.1 x56.2.1 x56.2.2, .slice (some (⟨w63.heap.size, 0, none⟩)) 1 1] (World.alloc w63 (.cells #[.int .i64 x57, .int .i64 x58, .int .i64 x59, .slice x60.1 x60.2.1 x60.2.2, .slice x61.1 x61.2.1 x61.2.2, .slice x62.1 x62.2.1 x62.2.2] 30))).bind fun r67 =>
(asSl r67.1).bind fun q68 =>
(st1 r67.2 (Addr.add (⟨w11.heap.size, 0, none⟩) 1) (.slice q68.1 q68.2.1 q68.2.2)).bind fun w74 =>
some (.normal, (IntKind.i64.wrap (s16 + 1)), w74)

noncomputable def g11_j45 (u0 : Int) (u2 : Int) (w11 : World) (s16 : Int) (t28 : (Option Addr × Nat × Nat) × Int) (u1 : Int) (r30 : Value × World) (x49 : Option Addr × Nat × Nat) (x50 : Option Addr × Nat × Nat) (w51 : World) : Option (Exit × (Int) × World) :=
g11_j52 u0 u2 w11 s16 t28 u1 r30 (x49.1, x49.2.1, x49.2.2) (-1) 0 0 (x50.1, x50.2.1, x50.2.2) (t28.1.1, t28.1.2.1, t28.1.2.2) (none, 0, 0) w51

/-- behind the loop, left by x2 -/
noncomputable def g11_l18_x2 (w11 : World) (u0 : Int) (u2 : Int) (s16 : Int) (u1 : Int) (t28 : (Option Addr × Nat × Nat) × Int) (w29 : World) : Option (Exit × (Int) × World) :=
(callF Try.prog 35 #[.slice t28.1.1 t28.1.2.1 t28.1.2.2] w29).bind fun r30 =>
(asTup 0 r30.1).bind fun _ =>
if (ahd (Region.schedule true (opsOf (cAt [1, 1, 1, 0, 1, 0, 0, 1, 1, 0, 0, 1, 1, 1, 1] (bodyOf Try.f11))) (World.tape r30.2 (World.drawn r30.2) (.order 11 14))) 4 6 && true) = true then
((World.cell? (World.drew r30.2) (Addr.add (⟨w11.heap.size, 0, none⟩) 1)).bind fun v37 =>
(asSl v37).bind fun q38 =>
(callF Try.prog 36 #[.slice t28.1.1 t28.1.2.1 t28.1.2.2] (World.drew r30.2)).bind fun r43 =>
(asSl r43.1).bind fun q44 =>
g11_j45 u0 u2 w11 s16 t28 u1 r30 (q38.1, q38.2.1, q38.2.2) (q44.1, q44.2.1, q44.2.2) r43.2)
else
((callF Try.prog 36 #[.slice t28.1.1 t28.1.2.1 t28.1.2.2] (World.drew r30.2)).bind fun r40 =>
(asSl r40.1).bind fun q41 =>
if (ahd (Region.schedule true (opsOf (cAt [1, 1, 1, 0, 1, 0, 0, 1, 1, 0, 0, 1, 1, 1, 1] (bodyOf Try.f11))) (World.tape r30.2 (World.drawn r30.2) (.order 11 14))) 4 8 && true) = true then
((World.cell? r40.2 (Addr.add (⟨w11.heap.size, 0, none⟩) 1)).bind fun v46 =>
(asSl v46).bind fun q47 =>
g11_j45 u0 u2 w11 s16 t28 u1 r30 (q47.1, q47.2.1, q47.2.2) (q41.1, q41.2.1, q41.2.2) r40.2)
else
(if (ahd (Region.schedule true (opsOf (cAt [1, 1, 1, 0, 1, 0, 0, 1, 1, 0, 0, 1, 1, 1, 1] (bodyOf Try.f11))) (World.tape r30.2 (World.drawn r30.2) (.order 11 14))) 4 9 && true) = true then
((World.cell? r40.2 (Addr.add (⟨w11.heap.size, 0, none⟩) 1)).bind fun v53 =>
(asSl v53).bind fun q54 =>
g11_j52 u0 u2 w11 s16 t28 u1 r30 (q54.1, q54.2.1, q54.2.2) (-1) 0 0 (q41.1, q41.2.1, q41.2.2) (t28.1.1, t28.1.2.1, t28.1.2.2) (none, 0, 0) r40.2)
else
((World.cell? (World.alloc r40.2 (.cells #[.int .i64 (-1), .int .i64 0, .int .i64 0, .slice q41.1 q41.2.1 q41.2.2, .slice t28.1.1 t28.1.2.1 t28.1.2.2, .slice none 0 0] 30)) (Addr.add (⟨w11.heap.size, 0, none⟩) 1)).bind fun v65 =>
(asSl v65).bind fun q66 =>
(callB Try.prog .append #[77, 77] 77 #[false, false] #[.slice q66.1 q66.2.1 q66.2.2, .slice (some (⟨r40.2.heap.size, 0, none⟩)) 1 1] (World.alloc r40.2 (.cells #[.int .i64 (-1), .int .i64 0, .int .i64 0, .slice q41.1 q41.2.1 q41.2.2, .slice t28.1.1 t28.1.2.1 t28.1.2.2, .slice none 0 0] 30))).bind fun r70 =>
(asSl r70.1).bind fun q71 =>
(st1 r70.2 (Addr.add (⟨w11.heap.size, 0, none⟩) 1) (.slice q71.1 q71.2.1 q71.2.2)).bind fun w76 =>
some (.normal, (IntKind.i64.wrap (s16 + 1)), w76))))

/-- the round of a loop (penstock/image.New) -/
noncomputable def g11_l15_b (u1 : Int) (u0 : Int) (u2 : Int) (w11 : World) (s16 : Int) (w17 : World) : Option (Exit × (Int) × World) :=
if (decide ((s16 : Int) < u1)) = true then
(g11_l18 u0 u2 w11 s16 u1 ((none, 0, 0), 0) w17)
else
(some ((.exit 0), s16, w17))

/-- behind the loop, left by x0 -/
noncomputable def g11_l15_x0 (w11 : World) (t80 : Int) (w81 : World) : Option (Value × World) :=
some (.tuple #[.pointer (some (⟨w11.heap.size, 0, none⟩)), .int .i64 0], w81)

noncomputable def g11 (u0 : Int) (u1 : Int) (u2 : Int) (w0 : World) : Option (Value × World) :=
if (decide ((u0 : Int) < 1)) = true then
(some (.tuple #[.pointer none, .int .i64 1], w0))
else
(if (decide ((u0 : Int) > 5)) = true then
(some (.tuple #[.pointer none, .int .i64 1], w0))
else
(if (decide ((u1 : Int) < 1)) = true then
(some (.tuple #[.pointer none, .int .i64 1], w0))
else
(if (decide ((u1 : Int) > 6)) = true then
(some (.tuple #[.pointer none, .int .i64 1], w0))
else
(if (decide ((u2 : Int) < 1)) = true then
(some (.tuple #[.pointer none, .int .i64 1], w0))
else
(if (decide ((u2 : Int) > u0)) = true then
(some (.tuple #[.pointer none, .int .i64 1], w0))
else
(if (ahd (Region.schedule true (opsOf (cAt [1, 1, 0] (bodyOf Try.f11))) (World.tape w0 (World.drawn w0) (.order 11 3))) 1 2 && true) = true then
(if 0 ≤ (u0 : Int) ∧ (u0 : Int) ≤ u0 ∧ (u0 : Int) < 9223372036854775808 ∧ ((24 : Nat) : Int) * u0 ≤ 2 ^ 48 ∧ (0 : Nat) < 3 then
((callF Try.prog 34 #[.int .u64 1, .int .u64 1001] (World.alloc (World.drew w0) (.cells (zrow (.agg #[.bool false, .int .i64 0, .int .u64 0]) (Int.toNat u0 * 3)) 85))).bind fun r6 =>
(asP r6.1).bind fun p7 =>
g11_j8 u0 u1 u2 w0 ((some (⟨(World.drew w0).heap.size, 0, none⟩)), (Int.toNat u0), (Int.toNat u0)) p7 r6.2)
else
(none))
else
((callF Try.prog 34 #[.int .u64 1, .int .u64 1001] (World.drew w0)).bind fun r3 =>
(asP r3.1).bind fun p4 =>
if 0 ≤ (u0 : Int) ∧ (u0 : Int) ≤ u0 ∧ (u0 : Int) < 9223372036854775808 ∧ ((24 : Nat) : Int) * u0 ≤ 2 ^ 48 ∧ (0 : Nat) < 3 then
(g11_j8 u0 u1 u2 w0 ((some (⟨r3.2.heap.size, 0, none⟩)), (Int.toNat u0), (Int.toNat u0)) p4 (World.alloc r3.2 (.cells (zrow (.agg #[.bool false, .int .i64 0, .int .u64 0]) (Int.toNat u0 * 3)) 85)))
else
(none))))))))

theorem g11_eq (u0 : Int) (u1 : Int) (u2 : Int) (w0 : World) : evFn Try.prog 11 g11_ann #[.int .i64 u0, .int .i64 u1, .int .i64 u2] w0 = g11 u0 u1 u2 w0 := by kernel_rfl

theorem g11_call {u0 : Int} {u1 : Int} {u2 : Int} {w0 : World} {r : Value × World} (h : g11 u0 u1 u2 w0 = some r) : callF Try.prog 11 #[.int .i64 u0, .int .i64 u1, .int .i64 u2] w0 = some r :=
  callF_of_evFn (ann := g11_ann) Try.call11 (by kernel_rfl) ((g11_eq u0 u1 u2 w0).trans h)

theorem g11_l18_x2_of {u0 : Int} {u2 : Int} {w11 : World} {s16 : Int} {u1 : Int} {s t : (Option Addr × Nat × Nat) × Int} {w w' : World} (h : loopS (g11_l18_b u2 u0 s16 w11 u1) s w = some (.exit 2, t, w')) : g11_l18 u0 u2 w11 s16 u1 s w = g11_l18_x2 w11 u0 u2 s16 u1 t w' := by
  have h1 : g11_l18 u0 u2 w11 s16 u1 s w = loopM Try.prog 74 11 g11_ann (cAt [1, 1, 1, 0, 1, 0, 0, 1, 1, 0, 0, 1, 1, 0, 1, 0, 0] (bodyOf Try.f11)) [0, 1, 0, 1, 1, 0, 0, 1, 1, 0, 0, 1, 0, 1, 1, 1] (g11_K27 u0 u2 w11 u1) ((g11_l18_cs u0 u2 w11 s16 u1) ++ sputs [(10, .sl), (45, .i .i64)] s) w := by kernel_rfl
  have h2 : loopM Try.prog 74 11 g11_ann (cAt [1, 1, 1, 0, 1, 0, 0, 1, 1, 0, 0, 1, 1, 0, 1, 0, 0] (bodyOf Try.f11)) [0, 1, 0, 1, 1, 0, 0, 1, 1, 0, 0, 1, 0, 1, 1, 1] (g11_K27 u0 u2 w11 u1) ((g11_l18_cs u0 u2 w11 s16 u1) ++ sputs [(10, .sl), (45, .i .i64)] s) w = (g11_K27 u0 u2 w11 u1) (.exit 2) (puts 74 ((g11_l18_cs u0 u2 w11 s16 u1) ++ sputs [(10, .sl), (45, .i .i64)] t)) w' :=
    loop_rule (P := Try.prog) (N := 74) (f := 11) (ann := g11_ann) (body := (cAt [1, 1, 1, 0, 1, 0, 0, 1, 1, 0, 0, 1, 1, 0, 1, 0, 0] (bodyOf Try.f11))) (pt := [0, 1, 0, 1, 1, 0, 0, 1, 1, 0, 0, 1, 0, 1, 1, 1]) (K := (g11_K27 u0 u2 w11 u1)) (g11_l18_cs u0 u2 w11 s16 u1) [(10, .sl), (45, .i .i64)] (b := g11_l18_b u2 u0 s16 w11 u1) (fun s w => by kernel_rfl) (by kernel_rfl) (by kernel_rfl) (by kernel_rfl) h
  have h3 : (g11_K27 u0 u2 w11 u1) (.exit 2) (puts 74 ((g11_l18_cs u0 u2 w11 s16 u1) ++ sputs [(10, .sl), (45, .i .i64)] t)) w' = g11_l18_x2 w11 u0 u2 s16 u1 t w' := by kernel_rfl
  exact h1.trans (h2.trans h3)

theorem g11_l15_x0_of {u0 : Int} {u2 : Int} {w11 : World} {u1 : Int} {s t : Int} {w w' : World} (h : loopS (g11_l15_b u1 u0 u2 w11) s w = some (.exit 0, t, w')) : g11_l15 u0 u2 w11 u1 s w = g11_l15_x0 w11 t w' := by
  have h1 : g11_l15 u0 u2 w11 u1 s w = loopM Try.prog 74 11 g11_ann (cAt [1, 1, 1, 0, 1, 0, 0] (bodyOf Try.f11)) [0, 1, 0, 1, 1, 1] g11_K79 ((g11_l15_cs u0 u2 w11 u1) ++ sputs [(41, .i .i64)] s) w := by kernel_rfl
  have h2 : loopM Try.prog 74 11 g11_ann (cAt [1, 1, 1, 0, 1, 0, 0] (bodyOf Try.f11)) [0, 1, 0, 1, 1, 1] g11_K79 ((g11_l15_cs u0 u2 w11 u1) ++ sputs [(41, .i .i64)] s) w = g11_K79 (.exit 0) (puts 74 ((g11_l15_cs u0 u2 w11 u1) ++ sputs [(41, .i .i64)] t)) w' :=
    loop_rule (P := Try.prog) (N := 74) (f := 11) (ann := g11_ann) (body := (cAt [1, 1, 1, 0, 1, 0, 0] (bodyOf Try.f11))) (pt := [0, 1, 0, 1, 1, 1]) (K := g11_K79) (g11_l15_cs u0 u2 w11 u1) [(41, .i .i64)] (b := g11_l15_b u1 u0 u2 w11) (fun s w => by kernel_rfl) (by kernel_rfl) (by kernel_rfl) (by kernel_rfl) h
  have h3 : g11_K79 (.exit 0) (puts 74 ((g11_l15_cs u0 u2 w11 u1) ++ sputs [(41, .i .i64)] t)) w' = g11_l15_x0 w11 t w' := by kernel_rfl
  exact h1.trans (h2.trans h3)

/-! 12: penstock/penstocklaw13.awake () -/
def g12_ann : List (List Nat × List Nat) := []

noncomputable def g12  (w0 : World) : Option (Value × World) :=
(callF Try.prog 11 #[.int .i64 3, .int .i64 2, .int .i64 2] w0).bind fun r1 =>
(asTup 2 r1.1).bind fun l2 =>
(asP (l2.getD 0 undef)).bind fun p3 =>
(asI .i64 (l2.getD 1 undef)).bind fun n4 =>
if (p3.isNone) = true then
(some (.bool false, r1.2))
else
(if ((n4 : Int) != 0) = true then
(some (.bool false, r1.2))
else
((callF Try.prog 13 #[.pointer p3, .agg #[.int .i64 1, .int .i64 1, .int .i64 0, .int .i64 1, .int .i64 0, .slice none 0 0]] r1.2).bind fun r5 =>
(asI .i64 r5.1).bind fun n6 =>
if ((n6 : Int) != 0) = true then
(some (.bool false, r5.2))
else
((callF Try.prog 15 #[.pointer p3, .int .i64 1] r5.2).bind fun r7 =>
(asTup 2 r7.1).bind fun l8 =>
(Ev.asAgg 6 (l8.getD 0 undef)).bind fun l9 =>
(asI .i64 (l9.getD 0 undef)).bind fun n10 =>
(asI .i64 (l9.getD 1 undef)).bind fun n11 =>
(asI .i64 (l9.getD 2 undef)).bind fun n12 =>
(asSl (l9.getD 3 undef)).bind fun q13 =>
(asSl (l9.getD 4 undef)).bind fun q14 =>
(asSl (l9.getD 5 undef)).bind fun q15 =>
(asB (l8.getD 1 undef)).bind fun b16 =>
(stL (World.alloc r7.2 (.cells #[.int .i64 0, .int .i64 0, .int .i64 0, .slice none 0 0, .slice none 0 0, .slice none 0 0] 30)) (⟨r7.2.heap.size, 0, none⟩) [.int .i64 n10, .int .i64 n11, .int .i64 n12, .slice q13.1 q13.2.1 q13.2.2, .slice q14.1 q14.2.1 q14.2.2, .slice q15.1 q15.2.1 q15.2.2] 0).bind fun w17 =>
if b16 = true then
((World.cell? w17 (⟨r7.2.heap.size, 0, none⟩)).bind fun v18 =>
(asI .i64 v18).bind fun n19 =>
if ((n19 : Int) == 1) = true then
((World.cell? w17 (Addr.add (⟨r7.2.heap.size, 0, none⟩) 1)).bind fun v20 =>
(asI .i64 v20).bind fun n21 =>
if ((n21 : Int) == 1) = true then
((World.cell? w17 (Addr.add (⟨r7.2.heap.size, 0, none⟩) 3)).bind fun v22 =>
(asSl v22).bind fun q23 =>
some (.bool (((q23.2.1 : Int) : Int) == 2), w17))
else
(some (.bool false, w17)))
else
(some (.bool false, w17)))
else
(some (.bool false, w17)))))

theorem g12_eq  (w0 : World) : evFn Try.prog 12 g12_ann #[] w0 = g12 w0 := by kernel_rfl

theorem g12_call  {w0 : World} {r : Value × World} (h : g12 w0 = some r) : callF Try.prog 12 #[] w0 = some r :=
  callF_of_evFn (ann := g12_ann) Try.call12 (by kernel_rfl) ((g12_eq  w0).trans h)

/-! 13: (*penstock/image.Image).Apply (m: *image.Image, c: api.Cmd) -/
def g13_ann : List (List Nat × List Nat) := []

noncomputable def g13_j6 (w0 : World) (u0 : Option Addr) (w29 : World) : Option (Value × World) :=
(World.cell? w29 (⟨w0.heap.size, 0, none⟩)).bind fun v30 =>
(asI .i64 v30).bind fun n31 =>
if ((n31 : Int) == 1) = true then
((World.cell? w29 (Addr.add (⟨w0.heap.size, 0, none⟩) 1)).bind fun v32 =>
(asI .i64 v32).bind fun n33 =>
(World.cell? w29 (Addr.add (⟨w0.heap.size, 0, none⟩) 3)).bind fun v34 =>
(asI .i64 v34).bind fun n35 =>
(callF Try.prog 37 #[.pointer u0, .int .i64 n33, .int .i64 n35] w29).bind fun r36 =>
(asI .i64 r36.1).bind fun n37 =>
some (.int .i64 n37, r36.2))
else
(if ((n31 : Int) == 2) = true then
((World.cell? w29 (Addr.add (⟨w0.heap.size, 0, none⟩) 1)).bind fun v38 =>
(asI .i64 v38).bind fun n39 =>
(callF Try.prog 38 #[.pointer u0, .int .i64 n39] w29).bind fun r40 =>
(asI .i64 r40.1).bind fun n41 =>
some (.int .i64 n41, r40.2))
else
(if ((n31 : Int) == 3) = true then
((ldN w29 (⟨w0.heap.size, 0, none⟩) 0 6).bind fun l42 =>
(asI .i64 (l42.getD 0 undef)).bind fun n43 =>
(asI .i64 (l42.getD 1 undef)).bind fun n44 =>
(asI .i64 (l42.getD 2 undef)).bind fun n45 =>
(asI .i64 (l42.getD 3 undef)).bind fun n46 =>
(asI .i64 (l42.getD 4 undef)).bind fun n47 =>
(asSl (l42.getD 5 undef)).bind fun q48 =>
(callF Try.prog 39 #[.pointer u0, .agg #[.int .i64 n43, .int .i64 n44, .int .i64 n45, .int .i64 n46, .int .i64 n47, .slice q48.1 q48.2.1 q48.2.2]] w29).bind fun r49 =>
(asI .i64 r49.1).bind fun n50 =>
some (.int .i64 n50, r49.2))
else
(if ((n31 : Int) == 4) = true then
((ldN w29 (⟨w0.heap.size, 0, none⟩) 0 6).bind fun l51 =>
(asI .i64 (l51.getD 0 undef)).bind fun n52 =>
(asI .i64 (l51.getD 1 undef)).bind fun n53 =>
(asI .i64 (l51.getD 2 undef)).bind fun n54 =>
(asI .i64 (l51.getD 3 undef)).bind fun n55 =>
(asI .i64 (l51.getD 4 undef)).bind fun n56 =>
(asSl (l51.getD 5 undef)).bind fun q57 =>
(callF Try.prog 40 #[.pointer u0, .agg #[.int .i64 n52, .int .i64 n53, .int .i64 n54, .int .i64 n55, .int .i64 n56, .slice q57.1 q57.2.1 q57.2.2]] w29).bind fun r58 =>
(asI .i64 r58.1).bind fun n59 =>
some (.int .i64 n59, r58.2))
else
(if ((n31 : Int) == 5) = true then
((World.cell? w29 (Addr.add (⟨w0.heap.size, 0, none⟩) 1)).bind fun v60 =>
(asI .i64 v60).bind fun n61 =>
(callF Try.prog 41 #[.pointer u0, .int .i64 n61] w29).bind fun r62 =>
(asI .i64 r62.1).bind fun n63 =>
some (.int .i64 n63, r62.2))
else
(some (.int .i64 1, w29))))))

noncomputable def g13_j19 (w5 : World) (w0 : World) (u0 : Option Addr) (x20 : Bool) : Option (Value × World) :=
if x20 = true then
((World.cell? (World.drew w5) (Addr.add (⟨w0.heap.size, 0, none⟩) 2)).bind fun v21 =>
(asI .i64 v21).bind fun n22 =>
if (decide ((n22 : Int) < 0)) = true then
(some (.int .i64 1, (World.drew w5)))
else
((World.cell? (World.drew w5) (Addr.add (⟨w0.heap.size, 0, none⟩) 2)).bind fun v23 =>
(asI .i64 v23).bind fun n24 =>
u0.bind fun a25 =>
(World.cell? (World.drew w5) (Addr.add a25 1)).bind fun v26 =>
(asSl v26).bind fun q27 =>
if (decide ((n24 : Int) ≥ (q27.2.1 : Int))) = true then
(some (.int .i64 1, (World.drew w5)))
else
(g13_j6 w0 u0 (World.drew w5))))
else
(g13_j6 w0 u0 w5)

noncomputable def g13_j9 (w5 : World) (w0 : World) (u0 : Option Addr) (n8 : Int) (x10 : Bool) : Option (Value × World) :=
if x10 = true then
((World.cell? (World.drew w5) (Addr.add (⟨w0.heap.size, 0, none⟩) 1)).bind fun v11 =>
(asI .i64 v11).bind fun n12 =>
if (decide ((n12 : Int) < 0)) = true then
(some (.int .i64 1, (World.drew w5)))
else
((World.cell? (World.drew w5) (Addr.add (⟨w0.heap.size, 0, none⟩) 1)).bind fun v13 =>
(asI .i64 v13).bind fun n14 =>
u0.bind fun a15 =>
(World.cell? (World.drew w5) a15).bind fun v16 =>
(asSl v16).bind fun q17 =>
if (decide ((n14 : Int) ≥ (q17.2.1 : Int))) = true then
(some (.int .i64 1, (World.drew w5)))
else
(g13_j6 w0 u0 (World.drew w5))))
else
(if ((n8 : Int) == 3) = true then
(g13_j19 w5 w0 u0 ((n8 : Int) == 3))
else
(g13_j19 w5 w0 u0 ((n8 : Int) == 4)))

noncomputable def g13 (u0 : Option Addr) (u1c0 : Int) (u1c1 : Int) (u1c2 : Int) (u1c3 : Int) (u1c4 : Int) (u1c5 : Option Addr × Nat × Nat) (w0 : World) : Option (Value × World) :=
if (u0.isNone) = true then
(some (.int .i64 5, (World.alloc w0 (.cells #[.int .i64 u1c0, .int .i64 u1c1, .int .i64 u1c2, .int .i64 u1c3, .int .i64 u1c4, .slice u1c5.1 u1c5.2.1 u1c5.2.2] 33))))
else
(u0.bind fun a1 =>
(World.cell? (World.alloc w0 (.cells #[.int .i64 u1c0, .int .i64 u1c1, .int .i64 u1c2, .int .i64 u1c3, .int .i64 u1c4, .slice u1c5.1 u1c5.2.1 u1c5.2.2] 33)) (Addr.add a1 3)).bind fun v2 =>
(asI .i64 v2).bind fun n3 =>
u0.bind fun a4 =>
(st1 (World.alloc w0 (.cells #[.int .i64 u1c0, .int .i64 u1c1, .int .i64 u1c2, .int .i64 u1c3, .int .i64 u1c4, .slice u1c5.1 u1c5.2.1 u1c5.2.2] 33)) (Addr.add a4 3) (.int .i64 (IntKind.i64.wrap (n3 + 1)))).bind fun w5 =>
(World.cell? w5 (⟨w0.heap.size, 0, none⟩)).bind fun v7 =>
(asI .i64 v7).bind fun n8 =>
if ((n8 : Int) == 1) = true then
(g13_j9 w5 w0 u0 n8 ((n8 : Int) == 1))
else
(if ((n8 : Int) == 2) = true then
(g13_j9 w5 w0 u0 n8 ((n8 : Int) == 2))
else
(g13_j9 w5 w0 u0 n8 ((n8 : Int) == 5))))

theorem g13_eq (u0 : Option Addr) (u1c0 : Int) (u1c1 : Int) (u1c2 : Int) (u1c3 : Int) (u1c4 : Int) (u1c5 : Option Addr × Nat × Nat) (w0 : World) : evFn Try.prog 13 g13_ann #[.pointer u0, .agg #[.int .i64 u1c0, .int .i64 u1c1, .int .i64 u1c2, .int .i64 u1c3, .int .i64 u1c4, .slice u1c5.1 u1c5.2.1 u1c5.2.2]] w0 = g13 u0 u1c0 u1c1 u1c2 u1c3 u1c4 u1c5 w0 := by kernel_rfl

theorem g13_call {u0 : Option Addr} {u1c0 : Int} {u1c1 : Int} {u1c2 : Int} {u1c3 : Int} {u1c4 : Int} {u1c5 : Option Addr × Nat × Nat} {w0 : World} {r : Value × World} (h : g13 u0 u1c0 u1c1 u1c2 u1c3 u1c4 u1c5 w0 = some r) : callF Try.prog 13 #[.pointer u0, .agg #[.int .i64 u1c0, .int .i64 u1c1, .int .i64 u1c2, .int .i64 u1c3, .int .i64 u1c4, .slice u1c5.1 u1c5.2.1 u1c5.2.2]] w0 = some r :=
  callF_of_evFn (ann := g13_ann) Try.call13 (by kernel_rfl) ((g13_eq u0 u1c0 u1c1 u1c2 u1c3 u1c4 u1c5 w0).trans h)

/-! 14: penstock/penstocklaw13.own (c: api.Cmd) -/
def g14_ann : List (List Nat × List Nat) := []

noncomputable def g14 (u0c0 : Int) (u0c1 : Int) (u0c2 : Int) (u0c3 : Int) (u0c4 : Int) (u0c5 : Option Addr × Nat × Nat) (w0 : World) : Option (Value × World) :=
(World.cell? (World.alloc (World.alloc (World.alloc w0 (.cells #[.int .i64 u0c0, .int .i64 u0c1, .int .i64 u0c2, .int .i64 u0c3, .int .i64 u0c4, .slice u0c5.1 u0c5.2.1 u0c5.2.2] 33)) (.cells #[.int .i64 0, .int .i64 0, .int .i64 0, .int .i64 0, .int .i64 0, .slice none 0 0] 33)) (.cells #[] 3)) (Addr.add (⟨w0.heap.size, 0, none⟩) 5)).bind fun v1 =>
(asSl v1).bind fun q2 =>
(callB Try.prog .append #[28, 28] 28 #[false, false] #[.slice (some (⟨(World.alloc (World.alloc w0 (.cells #[.int .i64 u0c0, .int .i64 u0c1, .int .i64 u0c2, .int .i64 u0c3, .int .i64 u0c4, .slice u0c5.1 u0c5.2.1 u0c5.2.2] 33)) (.cells #[.int .i64 0, .int .i64 0, .int .i64 0, .int .i64 0, .int .i64 0, .slice none 0 0] 33)).heap.size, 0, none⟩)) 0 0, .slice q2.1 q2.2.1 q2.2.2] (World.alloc (World.alloc (World.alloc w0 (.cells #[.int .i64 u0c0, .int .i64 u0c1, .int .i64 u0c2, .int .i64 u0c3, .int .i64 u0c4, .slice u0c5.1 u0c5.2.1 u0c5.2.2] 33)) (.cells #[.int .i64 0, .int .i64 0, .int .i64 0, .int .i64 0, .int .i64 0, .slice none 0 0] 33)) (.cells #[] 3))).bind fun r3 =>
(asSl r3.1).bind fun q4 =>
(st1 r3.2 (Addr.add (⟨w0.heap.size, 0, none⟩) 5) (.slice q4.1 q4.2.1 q4.2.2)).bind fun w5 =>
(ldN w5 (⟨w0.heap.size, 0, none⟩) 0 6).bind fun l6 =>
(asI .i64 (l6.getD 0 undef)).bind fun n7 =>
(asI .i64 (l6.getD 1 undef)).bind fun n8 =>
(asI .i64 (l6.getD 2 undef)).bind fun n9 =>
(asI .i64 (l6.getD 3 undef)).bind fun n10 =>
(asI .i64 (l6.getD 4 undef)).bind fun n11 =>
(asSl (l6.getD 5 undef)).bind fun q12 =>
(stL w5 (⟨(World.alloc w0 (.cells #[.int .i64 u0c0, .int .i64 u0c1, .int .i64 u0c2, .int .i64 u0c3, .int .i64 u0c4, .slice u0c5.1 u0c5.2.1 u0c5.2.2] 33)).heap.size, 0, none⟩) [.int .i64 n7, .int .i64 n8, .int .i64 n9, .int .i64 n10, .int .i64 n11, .slice q12.1 q12.2.1 q12.2.2] 0).bind fun w13 =>
(ldN w13 (⟨(World.alloc w0 (.cells #[.int .i64 u0c0, .int .i64 u0c1, .int .i64 u0c2, .int .i64 u0c3, .int .i64 u0c4, .slice u0c5.1 u0c5.2.1 u0c5.2.2] 33)).heap.size, 0, none⟩) 0 6).bind fun l14 =>
(asI .i64 (l14.getD 0 undef)).bind fun n15 =>
(asI .i64 (l14.getD 1 undef)).bind fun n16 =>
(asI .i64 (l14.getD 2 undef)).bind fun n17 =>
(asI .i64 (l14.getD 3 undef)).bind fun n18 =>
(asI .i64 (l14.getD 4 undef)).bind fun n19 =>
(asSl (l14.getD 5 undef)).bind fun q20 =>
some (.agg #[.int .i64 n15, .int .i64 n16, .int .i64 n17, .int .i64 n18, .int .i64 n19, .slice q20.1 q20.2.1 q20.2.2], w13)

theorem g14_eq (u0c0 : Int) (u0c1 : Int) (u0c2 : Int) (u0c3 : Int) (u0c4 : Int) (u0c5 : Option Addr × Nat × Nat) (w0 : World) : evFn Try.prog 14 g14_ann #[.agg #[.int .i64 u0c0, .int .i64 u0c1, .int .i64 u0c2, .int .i64 u0c3, .int .i64 u0c4, .slice u0c5.1 u0c5.2.1 u0c5.2.2]] w0 = g14 u0c0 u0c1 u0c2 u0c3 u0c4 u0c5 w0 := by kernel_rfl

theorem g14_call {u0c0 : Int} {u0c1 : Int} {u0c2 : Int} {u0c3 : Int} {u0c4 : Int} {u0c5 : Option Addr × Nat × Nat} {w0 : World} {r : Value × World} (h : g14 u0c0 u0c1 u0c2 u0c3 u0c4 u0c5 w0 = some r) : callF Try.prog 14 #[.agg #[.int .i64 u0c0, .int .i64 u0c1, .int .i64 u0c2, .int .i64 u0c3, .int .i64 u0c4, .slice u0c5.1 u0c5.2.1 u0c5.2.2]] w0 = some r :=
  callF_of_evFn (ann := g14_ann) Try.call14 (by kernel_rfl) ((g14_eq u0c0 u0c1 u0c2 u0c3 u0c4 u0c5 w0).trans h)

/-! 15: (*penstock/image.Image).Part (m: *image.Image, k: int) -/
def g15_ann : List (List Nat × List Nat) := []

noncomputable def g15_j92 (w0 : World) (w40 : World) (x95 : Option Addr × Nat × Nat) (x96 : Option Addr × Nat × Nat) (x97 : Option Addr × Nat × Nat) (w98 : World) : Option (Value × World) :=
(callF Try.prog 36 #[.slice x97.1 x97.2.1 x97.2.2] w98).bind fun r99 =>
(asSl r99.1).bind fun q100 =>
(st1 r99.2 (Addr.add (⟨(World.alloc w0 (.cells #[.int .i64 0, .int .i64 0, .int .i64 0, .slice none 0 0, .slice none 0 0, .slice none 0 0] 30)).heap.size, 0, none⟩) 3) (.slice x95.1 x95.2.1 x95.2.2)).bind fun w102 =>
(st1 w102 (Addr.add (⟨(World.alloc w0 (.cells #[.int .i64 0, .int .i64 0, .int .i64 0, .slice none 0 0, .slice none 0 0, .slice none 0 0] 30)).heap.size, 0, none⟩) 4) (.slice x96.1 x96.2.1 x96.2.2)).bind fun w105 =>
(st1 w105 (Addr.add (⟨(World.alloc w0 (.cells #[.int .i64 0, .int .i64 0, .int .i64 0, .slice none 0 0, .slice none 0 0, .slice none 0 0] 30)).heap.size, 0, none⟩) 5) (.slice q100.1 q100.2.1 q100.2.2)).bind fun w108 =>
(ldN w108 (⟨(World.alloc w0 (.cells #[.int .i64 0, .int .i64 0, .int .i64 0, .slice none 0 0, .slice none 0 0, .slice none 0 0] 30)).heap.size, 0, none⟩) 0 6).bind fun l110 =>
(asI .i64 (l110.getD 0 undef)).bind fun n111 =>
(asI .i64 (l110.getD 1 undef)).bind fun n112 =>
(asI .i64 (l110.getD 2 undef)).bind fun n113 =>
(asSl (l110.getD 3 undef)).bind fun q114 =>
(asSl (l110.getD 4 undef)).bind fun q115 =>
(asSl (l110.getD 5 undef)).bind fun q116 =>
(stL w108 (⟨w0.heap.size, 0, none⟩) [.int .i64 n111, .int .i64 n112, .int .i64 n113, .slice q114.1 q114.2.1 q114.2.2, .slice q115.1 q115.2.1 q115.2.2, .slice q116.1 q116.2.1 q116.2.2] 0).bind fun w117 =>
(ldN w117 (⟨w0.heap.size, 0, none⟩) 0 6).bind fun l118 =>
(asI .i64 (l118.getD 0 undef)).bind fun n119 =>
(asI .i64 (l118.getD 1 undef)).bind fun n120 =>
(asI .i64 (l118.getD 2 undef)).bind fun n121 =>
(asSl (l118.getD 3 undef)).bind fun q122 =>
(asSl (l118.getD 4 undef)).bind fun q123 =>
(asSl (l118.getD 5 undef)).bind fun q124 =>
some (.tuple #[.agg #[.int .i64 n119, .int .i64 n120, .int .i64 n121, .slice q122.1 q122.2.1 q122.2.2, .slice q123.1 q123.2.1 q123.2.2, .slice q124.1 q124.2.1 q124.2.2], .bool true], w117)

noncomputable def g15_j77 (w0 : World) (w40 : World) (x87 : Option Addr × Nat × Nat) (x88 : Option Addr × Nat × Nat) (x89 : Option Addr × Nat × Nat) (w90 : World) : Option (Value × World) :=
(callF Try.prog 36 #[.slice x88.1 x88.2.1 x88.2.2] w90).bind fun r93 =>
(asSl r93.1).bind fun q94 =>
g15_j92 w0 w40 (x87.1, x87.2.1, x87.2.2) (q94.1, q94.2.1, q94.2.2) (x89.1, x89.2.1, x89.2.2) r93.2

noncomputable def g15_j58 (w40 : World) (w0 : World) (x69 : Option Addr × Nat × Nat) (x70 : Option Addr × Nat × Nat) (w71 : World) : Option (Value × World) :=
if (ahd (Region.schedule true (opsOf (cAt [1, 1, 1, 0] (bodyOf Try.f15))) (World.tape w40 (World.drawn w40) (.order 15 4))) 5 7 && true) = true then
((callF Try.prog 36 #[.slice x70.1 x70.2.1 x70.2.2] w71).bind fun r72 =>
(asSl r72.1).bind fun q73 =>
(World.cell? r72.2 (Addr.add (⟨(World.alloc w0 (.cells #[.int .i64 0, .int .i64 0, .int .i64 0, .slice none 0 0, .slice none 0 0, .slice none 0 0] 30)).heap.size, 0, none⟩) 5)).bind fun v84 =>
(asSl v84).bind fun q85 =>
g15_j92 w0 w40 (x69.1, x69.2.1, x69.2.2) (q73.1, q73.2.1, q73.2.2) (q85.1, q85.2.1, q85.2.2) r72.2)
else
((World.cell? w71 (Addr.add (⟨(World.alloc w0 (.cells #[.int .i64 0, .int .i64 0, .int .i64 0, .slice none 0 0, .slice none 0 0, .slice none 0 0] 30)).heap.size, 0, none⟩) 5)).bind fun v75 =>
(asSl v75).bind fun q76 =>
g15_j77 w0 w40 (x69.1, x69.2.1, x69.2.2) (x70.1, x70.2.1, x70.2.2) (q76.1, q76.2.1, q76.2.2) w71)

noncomputable def g15_j63 (q43 : Option Addr × Nat × Nat) (w40 : World) (w0 : World) (x78 : Option Addr × Nat × Nat) (x79 : Option Addr × Nat × Nat) : Option (Value × World) :=
(callF Try.prog 36 #[.slice q43.1 q43.2.1 q43.2.2] (World.drew w40)).bind fun r80 =>
(asSl r80.1).bind fun q81 =>
g15_j77 w0 w40 (q81.1, q81.2.1, q81.2.2) (x78.1, x78.2.1, x78.2.2) (x79.1, x79.2.1, x79.2.2) r80.2

noncomputable def g15 (u0 : Option Addr) (u1 : Int) (w0 : World) : Option (Value × World) :=
if (u0.isNone) = true then
((stL (World.alloc w0 (.cells #[.int .i64 0, .int .i64 0, .int .i64 0, .slice none 0 0, .slice none 0 0, .slice none 0 0] 30)) (⟨w0.heap.size, 0, none⟩) [.int .i64 0, .int .i64 0, .int .i64 0, .slice none 0 0, .slice none 0 0, .slice none 0 0] 0).bind fun w1 =>
(ldN w1 (⟨w0.heap.size, 0, none⟩) 0 6).bind fun l2 =>
(asI .i64 (l2.getD 0 undef)).bind fun n3 =>
(asI .i64 (l2.getD 1 undef)).bind fun n4 =>
(asI .i64 (l2.getD 2 undef)).bind fun n5 =>
(asSl (l2.getD 3 undef)).bind fun q6 =>
(asSl (l2.getD 4 undef)).bind fun q7 =>
(asSl (l2.getD 5 undef)).bind fun q8 =>
some (.tuple #[.agg #[.int .i64 n3, .int .i64 n4, .int .i64 n5, .slice q6.1 q6.2.1 q6.2.2, .slice q7.1 q7.2.1 q7.2.2, .slice q8.1 q8.2.1 q8.2.2], .bool false], w1))
else
(if (decide ((u1 : Int) < 0)) = true then
((stL (World.alloc w0 (.cells #[.int .i64 0, .int .i64 0, .int .i64 0, .slice none 0 0, .slice none 0 0, .slice none 0 0] 30)) (⟨w0.heap.size, 0, none⟩) [.int .i64 0, .int .i64 0, .int .i64 0, .slice none 0 0, .slice none 0 0, .slice none 0 0] 0).bind fun w9 =>
(ldN w9 (⟨w0.heap.size, 0, none⟩) 0 6).bind fun l10 =>
(asI .i64 (l10.getD 0 undef)).bind fun n11 =>
(asI .i64 (l10.getD 1 undef)).bind fun n12 =>
(asI .i64 (l10.getD 2 undef)).bind fun n13 =>
(asSl (l10.getD 3 undef)).bind fun q14 =>
(asSl (l10.getD 4 undef)).bind fun q15 =>
(asSl (l10.getD 5 undef)).bind fun q16 =>
some (.tuple #[.agg #[.int .i64 n11, .int .i64 n12, .int .i64 n13, .slice q14.1 q14.2.1 q14.2.2, .slice q15.1 q15.2.1 q15.2.2, .slice q16.1 q16.2.1 q16.2.2], .bool false], w9))
else
(u0.bind fun a17 =>
(World.cell? (World.alloc w0 (.cells #[.int .i64 0, .int .i64 0, .int .i64 0, .slice none 0 0, .slice none 0 0, .slice none 0 0] 30)) (Addr.add a17 1)).bind fun v18 =>
(asSl v18).bind fun q19 =>
if (decide ((u1 : Int) ≥ (q19.2.1 : Int))) = true then
((stL (World.alloc w0 (.cells #[.int .i64 0, .int .i64 0, .int .i64 0, .slice none 0 0, .slice none 0 0, .slice none 0 0] 30)) (⟨w0.heap.size, 0, none⟩) [.int .i64 0, .int .i64 0, .int .i64 0, .slice none 0 0, .slice none 0 0, .slice none 0 0] 0).bind fun w21 =>
(ldN w21 (⟨w0.heap.size, 0, none⟩) 0 6).bind fun l22 =>
(asI .i64 (l22.getD 0 undef)).bind fun n23 =>
(asI .i64 (l22.getD 1 undef)).bind fun n24 =>
(asI .i64 (l22.getD 2 undef)).bind fun n25 =>
(asSl (l22.getD 3 undef)).bind fun q26 =>
(asSl (l22.getD 4 undef)).bind fun q27 =>
(asSl (l22.getD 5 undef)).bind fun q28 =>
some (.tuple #[.agg #[.int .i64 n23, .int .i64 n24, .int .i64 n25, .slice q26.1 q26.2.1 q26.2.2, .slice q27.1 q27.2.1 q27.2.2, .slice q28.1 q28.2.1 q28.2.2], .bool false], w21))
else
(u0.bind fun a29 =>
(World.cell? (World.alloc w0 (.cells #[.int .i64 0, .int .i64 0, .int .i64 0, .slice none 0 0, .slice none 0 0, .slice none 0 0] 30)) (Addr.add a29 1)).bind fun v30 =>
(asSl v30).bind fun q31 =>
(idxA q31.1 q31.2.1 6 u1).bind fun a32 =>
(ldN (World.alloc w0 (.cells #[.int .i64 0, .int .i64 0, .int .i64 0, .slice none 0 0, .slice none 0 0, .slice none 0 0] 30)) a32 0 6).bind fun l33 =>
(asI .i64 (l33.getD 0 undef)).bind fun n34 =>
(asI .i64 (l33.getD 1 undef)).bind fun n35 =>
(asI .i64 (l33.getD 2 undef)).bind fun n36 =>
(asSl (l33.getD 3 undef)).bind fun q37 =>
(asSl (l33.getD 4 undef)).bind fun q38 =>
(asSl (l33.getD 5 undef)).bind fun q39 =>
(stL (World.alloc (World.alloc w0 (.cells #[.int .i64 0, .int .i64 0, .int .i64 0, .slice none 0 0, .slice none 0 0, .slice none 0 0] 30)) (.cells #[.int .i64 0, .int .i64 0, .int .i64 0, .slice none 0 0, .slice none 0 0, .slice none 0 0] 30)) (⟨(World.alloc w0 (.cells #[.int .i64 0, .int .i64 0, .int .i64 0, .slice none 0 0, .slice none 0 0, .slice none 0 0] 30)).heap.size, 0, none⟩) [.int .i64 n34, .int .i64 n35, .int .i64 n36, .slice q37.1 q37.2.1 q37.2.2, .slice q38.1 q38.2.1 q38.2.2, .slice q39.1 q39.2.1 q39.2.2] 0).bind fun w40 =>
(World.cell? (World.drew w40) (Addr.add (⟨(World.alloc w0 (.cells #[.int .i64 0, .int .i64 0, .int .i64 0, .slice none 0 0, .slice none 0 0, .slice none 0 0] 30)).heap.size, 0, none⟩) 3)).bind fun v42 =>
(asSl v42).bind fun q43 =>
if (ahd (Region.schedule true (opsOf (cAt [1, 1, 1, 0] (bodyOf Try.f15))) (World.tape w40 (World.drawn w40) (.order 15 4))) 2 4 && (ahd (Region.schedule true (opsOf (cAt [1, 1, 1, 0] (bodyOf Try.f15))) (World.tape w40 (World.drawn w40) (.order 15 4))) 2 7 && true)) = true then
((callF Try.prog 36 #[.slice q43.1 q43.2.1 q43.2.2] (World.drew w40)).bind fun r47 =>
(asSl r47.1).bind fun q48 =>
(World.cell? r47.2 (Addr.add (⟨(World.alloc w0 (.cells #[.int .i64 0, .int .i64 0, .int .i64 0, .slice none 0 0, .slice none 0 0, .slice none 0 0] 30)).heap.size, 0, none⟩) 4)).bind fun v56 =>
(asSl v56).bind fun q57 =>
g15_j58 w40 w0 (q48.1, q48.2.1, q48.2.2) (q57.1, q57.2.1, q57.2.2) r47.2)
else
(if (ahd (Region.schedule true (opsOf (cAt [1, 1, 1, 0] (bodyOf Try.f15))) (World.tape w40 (World.drawn w40) (.order 15 4))) 4 7 && true) = true then
((World.cell? (World.drew w40) (Addr.add (⟨(World.alloc w0 (.cells #[.int .i64 0, .int .i64 0, .int .i64 0, .slice none 0 0, .slice none 0 0, .slice none 0 0] 30)).heap.size, 0, none⟩) 4)).bind fun v50 =>
(asSl v50).bind fun q51 =>
if (ahd (Region.schedule true (opsOf (cAt [1, 1, 1, 0] (bodyOf Try.f15))) (World.tape w40 (World.drawn w40) (.order 15 4))) 2 7 && true) = true then
((callF Try.prog 36 #[.slice q43.1 q43.2.1 q43.2.2] (World.drew w40)).bind fun r59 =>
(asSl r59.1).bind fun q60 =>
g15_j58 w40 w0 (q60.1, q60.2.1, q60.2.2) (q51.1, q51.2.1, q51.2.2) r59.2)
else
((World.cell? (World.drew w40) (Addr.add (⟨(World.alloc w0 (.cells #[.int .i64 0, .int .i64 0, .int .i64 0, .slice none 0 0, .slice none 0 0, .slice none 0 0] 30)).heap.size, 0, none⟩) 5)).bind fun v61 =>
(asSl v61).bind fun q62 =>
g15_j63 q43 w40 w0 (q51.1, q51.2.1, q51.2.2) (q62.1, q62.2.1, q62.2.2)))
else
((World.cell? (World.drew w40) (Addr.add (⟨(World.alloc w0 (.cells #[.int .i64 0, .int .i64 0, .int .i64 0, .slice none 0 0, .slice none 0 0, .slice none 0 0] 30)).heap.size, 0, none⟩) 5)).bind fun v53 =>
(asSl v53).bind fun q54 =>
if (ahd (Region.schedule true (opsOf (cAt [1, 1, 1, 0] (bodyOf Try.f15))) (World.tape w40 (World.drawn w40) (.order 15 4))) 2 4 && true) = true then
((callF Try.prog 36 #[.slice q43.1 q43.2.1 q43.2.2] (World.drew w40)).bind fun r64 =>
(asSl r64.1).bind fun q65 =>
(World.cell? r64.2 (Addr.add (⟨(World.alloc w0 (.cells #[.int .i64 0, .int .i64 0, .int .i64 0, .slice none 0 0, .slice none 0 0, .slice none 0 0] 30)).heap.size, 0, none⟩) 4)).bind fun v82 =>
(asSl v82).bind fun q83 =>
g15_j77 w0 w40 (q65.1, q65.2.1, q65.2.2) (q83.1, q83.2.1, q83.2.2) (q54.1, q54.2.1, q54.2.2) r64.2)
else
((World.cell? (World.drew w40) (Addr.add (⟨(World.alloc w0 (.cells #[.int .i64 0, .int .i64 0, .int .i64 0, .slice none 0 0, .slice none 0 0, .slice none 0 0] 30)).heap.size, 0, none⟩) 4)).bind fun v67 =>
(asSl v67).bind fun q68 =>
g15_j63 q43 w40 w0 (q68.1, q68.2.1, q68.2.2) (q54.1, q54.2.1, q54.2.2)))))))

theorem g15_eq (u0 : Option Addr) (u1 : Int) (w0 : World) : evFn Try.prog 15 g15_ann #[.pointer u0, .int .i64 u1] w0 = g15 u0 u1 w0 := by kernel_rfl

theorem g15_call {u0 : Option Addr} {u1 : Int} {w0 : World} {r : Value × World} (h : g15 u0 u1 w0 = some r) : callF Try.prog 15 #[.pointer u0, .int .i64 u1] w0 = some r :=
  callF_of_evFn (ann := g15_ann) Try.call15 (by kernel_rfl) ((g15_eq u0 u1 w0).trans h)

/-! 16: (*penstock/image.Image).Node (m: *image.Image, n: int) -/
def g16_ann : List (List Nat × List Nat) := []

noncomputable def g16 (u0 : Option Addr) (u1 : Int) (w0 : World) : Option (Value × World) :=
if (u0.isNone) = true then
(some (.tuple #[.bool false, .int .i64 0, .int .u64 0], w0))
else
(if (decide ((u1 : Int) < 0)) = true then
(some (.tuple #[.bool false, .int .i64 0, .int .u64 0], w0))
else
(u0.bind fun a1 =>
(World.cell? w0 a1).bind fun v2 =>
(asSl v2).bind fun q3 =>
if (decide ((u1 : Int) ≥ (q3.2.1 : Int))) = true then
(some (.tuple #[.bool false, .int .i64 0, .int .u64 0], w0))
else
(u0.bind fun a5 =>
(World.cell? (World.drew w0) a5).bind fun v6 =>
(asSl v6).bind fun q7 =>
(idxA q7.1 q7.2.1 3 u1).bind fun a8 =>
(World.cell? (World.drew w0) a8).bind fun v9 =>
(asB v9).bind fun b10 =>
u0.bind fun a11 =>
(World.cell? (World.drew w0) a11).bind fun v12 =>
(asSl v12).bind fun q13 =>
(idxA q13.1 q13.2.1 3 u1).bind fun a14 =>
(World.cell? (World.drew w0) (Addr.add a14 1)).bind fun v15 =>
(asI .i64 v15).bind fun n16 =>
u0.bind fun a17 =>
(World.cell? (World.drew w0) a17).bind fun v18 =>
(asSl v18).bind fun q19 =>
(idxA q19.1 q19.2.1 3 u1).bind fun a20 =>
(World.cell? (World.drew w0) (Addr.add a20 2)).bind fun v21 =>
(asI .u64 v21).bind fun n22 =>
some (.tuple #[.bool b10, .int .i64 n16, .int .u64 n22], (World.drew w0)))))

theorem g16_eq (u0 : Option Addr) (u1 : Int) (w0 : World) : evFn Try.prog 16 g16_ann #[.pointer u0, .int .i64 u1] w0 = g16 u0 u1 w0 := by kernel_rfl

theorem g16_call {u0 : Option Addr} {u1 : Int} {w0 : World} {r : Value × World} (h : g16 u0 u1 w0 = some r) : callF Try.prog 16 #[.pointer u0, .int .i64 u1] w0 = some r :=
  callF_of_evFn (ann := g16_ann) Try.call16 (by kernel_rfl) ((g16_eq u0 u1 w0).trans h)

/-! 17: penstock/penstockref13.Has (l: []int, n: int) -/
/-! 18: penstock/penstocklaw13.after (l: []api.Cmd) -/
def g18_ann : List (List Nat × List Nat) := [([0, 1, 0, 1, 1], [3, 11, 12, 13])]

def g18_l6_cs (p3 : Option Addr) (u0 : Option Addr × Nat × Nat) : List (Nat × Value) := ([(3, .pointer p3), (11, .slice u0.1 u0.2.1 u0.2.2), (12, .int .i64 (u0.2.1 : Int))] : List (Nat × Value))

/-- the round of a loop (penstock/penstocklaw13.after) -/
noncomputable def g18_l6_b (u0 : Option Addr × Nat × Nat) (p3 : Option Addr) (s7 : Int) (w8 : World) : Option (Exit × (Int) × World) :=
if (decide ((s7 : Int) < (u0.2.1 : Int))) = true then
((idxA u0.1 u0.2.1 6 s7).bind fun a9 =>
(ldN w8 a9 0 6).bind fun l10 =>
(asI .i64 (l10.getD 0 undef)).bind fun n11 =>
(asI .i64 (l10.getD 1 undef)).bind fun n12 =>
(asI .i64 (l10.getD 2 undef)).bind fun n13 =>
(asI .i64 (l10.getD 3 undef)).bind fun n14 =>
(asI .i64 (l10.getD 4 undef)).bind fun n15 =>
(asSl (l10.getD 5 undef)).bind fun q16 =>
(stL (World.alloc w8 (.cells #[.int .i64 0, .int .i64 0, .int .i64 0, .int .i64 0, .int .i64 0, .slice none 0 0] 33)) (⟨w8.heap.size, 0, none⟩) [.int .i64 n11, .int .i64 n12, .int .i64 n13, .int .i64 n14, .int .i64 n15, .slice q16.1 q16.2.1 q16.2.2] 0).bind fun w17 =>
(ldN w17 (⟨w8.heap.size, 0, none⟩) 0 6).bind fun l18 =>
(asI .i64 (l18.getD 0 undef)).bind fun n19 =>
(asI .i64 (l18.getD 1 undef)).bind fun n20 =>
(asI .i64 (l18.getD 2 undef)).bind fun n21 =>
(asI .i64 (l18.getD 3 undef)).bind fun n22 =>
(asI .i64 (l18.getD 4 undef)).bind fun n23 =>
(asSl (l18.getD 5 undef)).bind fun q24 =>
(callF Try.prog 14 #[.agg #[.int .i64 n19, .int .i64 n20, .int .i64 n21, .int .i64 n22, .int .i64 n23, .slice q24.1 q24.2.1 q24.2.2]] w17).bind fun r25 =>
(Ev.asAgg 6 r25.1).bind fun l26 =>
(asI .i64 (l26.getD 0 undef)).bind fun n27 =>
(asI .i64 (l26.getD 1 undef)).bind fun n28 =>
(asI .i64 (l26.getD 2 undef)).bind fun n29 =>
(asI .i64 (l26.getD 3 undef)).bind fun n30 =>
(asI .i64 (l26.getD 4 undef)).bind fun n31 =>
(asSl (l26.getD 5 undef)).bind fun q32 =>
(callF Try.prog 13 #[.pointer p3, .agg #[.int .i64 n27, .int .i64 n28, .int .i64 n29, .int .i64 n30, .int .i64 n31, .slice q32.1 q32.2.1 q32.2.2]] r25.2).bind fun r33 =>
(asI .i64 r33.1).bind fun n34 =>
some (.normal, (IntKind.i64.wrap (s7 + 1)), r33.2))
else
(some ((.exit 0), s7, w8))

noncomputable def g18_K35  : Exit → Env → World → Option (Value × World) :=
  retK Try.prog Try.f18.results.toList

noncomputable def g18_K36  : Exit → Env → World → Option (Value × World) :=
  seqK (ev Try.prog 23 18 g18_ann (cAt [1, 1, 1] (bodyOf Try.f18)) [1, 1, 1] g18_K35) g18_K35

noncomputable def g18_K37  : Exit → Env → World → Option (Value × World) :=
  blkK 0 g18_K36

/-- the loop, from a state on -/
noncomputable def g18_l6 (p3 : Option Addr) (u0 : Option Addr × Nat × Nat) (s : Int) (w : World) : Option (Value × World) :=
  loopM Try.prog 23 18 g18_ann (cAt [1, 1, 0, 1, 0, 0] (bodyOf Try.f18)) [0, 1, 0, 1, 1] g18_K37 ((g18_l6_cs p3 u0) ++ sputs [(13, .i .i64)] s) w

/-- behind the loop, left by x0 -/
noncomputable def g18_l6_x0 (p3 : Option Addr) (t38 : Int) (w39 : World) : Option (Value × World) :=
some (.pointer p3, w39)

noncomputable def g18 (u0 : Option Addr × Nat × Nat) (w0 : World) : Option (Value × World) :=
(callF Try.prog 11 #[.int .i64 5, .int .i64 4, .int .i64 3] w0).bind fun r1 =>
(asTup 2 r1.1).bind fun l2 =>
(asP (l2.getD 0 undef)).bind fun p3 =>
(asI .i64 (l2.getD 1 undef)).bind fun n4 =>
g18_l6 p3 u0 0 r1.2

theorem g18_eq (u0 : Option Addr × Nat × Nat) (w0 : World) : evFn Try.prog 18 g18_ann #[.slice u0.1 u0.2.1 u0.2.2] w0 = g18 u0 w0 := by kernel_rfl

theorem g18_call {u0 : Option Addr × Nat × Nat} {w0 : World} {r : Value × World} (h : g18 u0 w0 = some r) : callF Try.prog 18 #[.slice u0.1 u0.2.1 u0.2.2] w0 = some r :=
  callF_of_evFn (ann := g18_ann) Try.call18 (by kernel_rfl) ((g18_eq u0 w0).trans h)

theorem g18_l6_x0_of {p3 : Option Addr} {u0 : Option Addr × Nat × Nat} {s t : Int} {w w' : World} (h : loopS (g18_l6_b u0 p3) s w = some (.exit 0, t, w')) : g18_l6 p3 u0 s w = g18_l6_x0 p3 t w' := by
  have h1 : g18_l6 p3 u0 s w = loopM Try.prog 23 18 g18_ann (cAt [1, 1, 0, 1, 0, 0] (bodyOf Try.f18)) [0, 1, 0, 1, 1] g18_K37 ((g18_l6_cs p3 u0) ++ sputs [(13, .i .i64)] s) w := by kernel_rfl
  have h2 : loopM Try.prog 23 18 g18_ann (cAt [1, 1, 0, 1, 0, 0] (bodyOf Try.f18)) [0, 1, 0, 1, 1] g18_K37 ((g18_l6_cs p3 u0) ++ sputs [(13, .i .i64)] s) w = g18_K37 (.exit 0) (puts 23 ((g18_l6_cs p3 u0) ++ sputs [(13, .i .i64)] t)) w' :=
    loop_rule (P := Try.prog) (N := 23) (f := 18) (ann := g18_ann) (body := (cAt [1, 1, 0, 1, 0, 0] (bodyOf Try.f18))) (pt := [0, 1, 0, 1, 1]) (K := g18_K37) (g18_l6_cs p3 u0) [(13, .i .i64)] (b := g18_l6_b u0 p3) (fun s w => by kernel_rfl) (by kernel_rfl) (by kernel_rfl) (by kernel_rfl) h
  have h3 : g18_K37 (.exit 0) (puts 23 ((g18_l6_cs p3 u0) ++ sputs [(13, .i .i64)] t)) w' = g18_l6_x0 p3 t w' := by kernel_rfl
  exact h1.trans (h2.trans h3)

/-! 20: (*penstock/image.Image).Pids (m: *image.Image) -/
def g20_ann : List (List Nat × List Nat) := []

noncomputable def g20 (u0 : Option Addr) (w0 : World) : Option (Value × World) :=
if (u0.isNone) = true then
(some (.tuple #[.int .u64 0, .int .u64 0], w0))
else
(u0.bind fun a1 =>
(World.cell? w0 (Addr.add a1 2)).bind fun v2 =>
(asP v2).bind fun p3 =>
(callF Try.prog 42 #[.pointer p3] w0).bind fun r4 =>
(asTup 2 r4.1).bind fun l5 =>
(asI .u64 (l5.getD 0 undef)).bind fun n6 =>
(asI .u64 (l5.getD 1 undef)).bind fun n7 =>
some (.tuple #[.int .u64 n6, .int .u64 n7], r4.2))

theorem g20_eq (u0 : Option Addr) (w0 : World) : evFn Try.prog 20 g20_ann #[.pointer u0] w0 = g20 u0 w0 := by kernel_rfl

theorem g20_call {u0 : Option Addr} {w0 : World} {r : Value × World} (h : g20 u0 w0 = some r) : callF Try.prog 20 #[.pointer u0] w0 = some r :=
  callF_of_evFn (ann := g20_ann) Try.call20 (by kernel_rfl) ((g20_eq u0 w0).trans h)

/-! 23: (*penstock/image.Image).Counts (m: *image.Image) -/
def g23_ann : List (List Nat × List Nat) := []

noncomputable def g23 (u0 : Option Addr) (w0 : World) : Option (Value × World) :=
if (u0.isNone) = true then
(some (.tuple #[.int .i64 0, .int .i64 0, .int .i64 0], w0))
else
(u0.bind fun a1 =>
(World.cell? (World.drew w0) a1).bind fun v2 =>
(asSl v2).bind fun q3 =>
u0.bind fun a5 =>
(World.cell? (World.drew w0) (Addr.add a5 1)).bind fun v6 =>
(asSl v6).bind fun q7 =>
u0.bind fun a9 =>
(World.cell? (World.drew w0) (Addr.add a9 3)).bind fun v10 =>
(asI .i64 v10).bind fun n11 =>
some (.tuple #[.int .i64 (q3.2.1 : Int), .int .i64 (q7.2.1 : Int), .int .i64 n11], (World.drew w0)))

theorem g23_eq (u0 : Option Addr) (w0 : World) : evFn Try.prog 23 g23_ann #[.pointer u0] w0 = g23 u0 w0 := by kernel_rfl

theorem g23_call {u0 : Option Addr} {w0 : World} {r : Value × World} (h : g23 u0 w0 = some r) : callF Try.prog 23 #[.pointer u0] w0 = some r :=
  callF_of_evFn (ann := g23_ann) Try.call23 (by kernel_rfl) ((g23_eq u0 w0).trans h)

/-! 34: penstock/gate.New (from: uint64, limit: uint64) -/
def g34_ann : List (List Nat × List Nat) := []

noncomputable def g34 (u0 : Int) (u1 : Int) (w0 : World) : Option (Value × World) :=
(callF Try.prog 67 #[.pointer (some (⟨w0.heap.size, 0, none⟩)), .int .u64 (if (u1 : Int) < u0 then u1 else u0)] (World.alloc w0 (.cells #[.int .u64 0, .int .u64 u1] 118))).bind fun r2 =>
(asTup 0 r2.1).bind fun _ =>
some (.pointer (some (⟨w0.heap.size, 0, none⟩)), r2.2)

theorem g34_eq (u0 : Int) (u1 : Int) (w0 : World) : evFn Try.prog 34 g34_ann #[.int .u64 u0, .int .u64 u1] w0 = g34 u0 u1 w0 := by kernel_rfl

theorem g34_call {u0 : Int} {u1 : Int} {w0 : World} {r : Value × World} (h : g34 u0 u1 w0 = some r) : callF Try.prog 34 #[.int .u64 u0, .int .u64 u1] w0 = some r :=
  callF_of_evFn (ann := g34_ann) Try.call34 (by kernel_rfl) ((g34_eq u0 u1 w0).trans h)

/-! 36: slices.Clone[[]int,int] (s: []int) -/
def g36_ann : List (List Nat × List Nat) := []

noncomputable def g36 (u0 : Option Addr × Nat × Nat) (w0 : World) : Option (Value × World) :=
if (u0.1.isNone) = true then
(some (.slice none 0 0, w0))
else
((callB Try.prog .append #[28, 28] 28 #[false, false] #[.slice (some (⟨w0.heap.size, 0, none⟩)) 0 0, .slice u0.1 u0.2.1 u0.2.2] (World.alloc w0 (.cells #[] 3))).bind fun r1 =>
(asSl r1.1).bind fun q2 =>
some (.slice q2.1 q2.2.1 q2.2.2, r1.2))

theorem g36_eq (u0 : Option Addr × Nat × Nat) (w0 : World) : evFn Try.prog 36 g36_ann #[.slice u0.1 u0.2.1 u0.2.2] w0 = g36 u0 w0 := by kernel_rfl

theorem g36_call {u0 : Option Addr × Nat × Nat} {w0 : World} {r : Value × World} (h : g36 u0 w0 = some r) : callF Try.prog 36 #[.slice u0.1 u0.2.1 u0.2.2] w0 = some r :=
  callF_of_evFn (ann := g36_ann) Try.call36 (by kernel_rfl) ((g36_eq u0 w0).trans h)

/-! 37: (*penstock/image.Image).join (m: *image.Image, n: int, times: int) -/
def g37_ann : List (List Nat × List Nat) := [([0, 1, 0, 1, 1, 1], [0, 1, 38, 39])]

def g37_l21_cs (u0 : Option Addr) (u1 : Int) (q19 : Option Addr × Nat × Nat) : List (Nat × Value) := ([(0, .pointer u0), (1, .int .i64 u1), (38, .int .i64 (q19.2.1 : Int))] : List (Nat × Value))

/-- the round of a loop ((*penstock/image.Image).join) -/
noncomputable def g37_l21_b (q19 : Option Addr × Nat × Nat) (u0 : Option Addr) (u1 : Int) (s22 : Int) (w23 : World) : Option (Exit × (Int) × World) :=
if (decide ((s22 : Int) < (q19.2.1 : Int))) = true then
(u0.bind fun a24 =>
(World.cell? w23 (Addr.add a24 1)).bind fun v25 =>
(asSl v25).bind fun q26 =>
(idxA q26.1 q26.2.1 6 s22).bind fun a27 =>
(World.cell? w23 a27).bind fun v28 =>
(asI .i64 v28).bind fun n29 =>
if ((n29 : Int) == u1) = true then
((callF Try.prog 71 #[.pointer u0, .pointer (some a27)] w23).bind fun r30 =>
(asTup 0 r30.1).bind fun _ =>
some (.normal, (IntKind.i64.wrap (s22 + 1)), r30.2))
else
((World.cell? w23 a27).bind fun v31 =>
(asI .i64 v31).bind fun n32 =>
if (decide ((n32 : Int) < 0)) = true then
((World.cell? w23 (Addr.add a27 3)).bind fun v33 =>
(asSl v33).bind fun q34 =>
(callF Try.prog 70 #[.slice q34.1 q34.2.1 q34.2.2, .int .i64 u1] w23).bind fun r35 =>
(asB r35.1).bind fun b36 =>
if b36 = true then
((callF Try.prog 71 #[.pointer u0, .pointer (some a27)] r35.2).bind fun r37 =>
(asTup 0 r37.1).bind fun _ =>
some (.normal, (IntKind.i64.wrap (s22 + 1)), r37.2))
else
(some (.normal, (IntKind.i64.wrap (s22 + 1)), r35.2)))
else
(some (.normal, (IntKind.i64.wrap (s22 + 1)), w23))))
else
(some ((.exit 0), s22, w23))

noncomputable def g37_K38  : Exit → Env → World → Option (Value × World) :=
  retK Try.prog Try.f37.results.toList

noncomputable def g37_K39  : Exit → Env → World → Option (Value × World) :=
  seqK (ev Try.prog 73 37 g37_ann (cAt [1, 1, 1, 1] (bodyOf Try.f37)) [1, 1, 1, 1] g37_K38) g37_K38

noncomputable def g37_K40  : Exit → Env → World → Option (Value × World) :=
  blkK 0 g37_K39

/-- the loop, from a state on -/
noncomputable def g37_l21 (u0 : Option Addr) (u1 : Int) (q19 : Option Addr × Nat × Nat) (s : Int) (w : World) : Option (Value × World) :=
  loopM Try.prog 73 37 g37_ann (cAt [1, 1, 1, 0, 1, 0, 0] (bodyOf Try.f37)) [0, 1, 0, 1, 1, 1] g37_K40 ((g37_l21_cs u0 u1 q19) ++ sputs [(39, .i .i64)] s) w

/-- behind the loop, left by x0 -/
noncomputable def g37_l21_x0  (t41 : Int) (w42 : World) : Option (Value × World) :=
some (.int .i64 0, w42)

noncomputable def g37 (u0 : Option Addr) (u1 : Int) (u2 : Int) (w0 : World) : Option (Value × World) :=
u0.bind fun a1 =>
(World.cell? w0 a1).bind fun v2 =>
(asSl v2).bind fun q3 =>
(idxA q3.1 q3.2.1 3 u1).bind fun a4 =>
(World.cell? w0 (Addr.add a4 1)).bind fun v5 =>
(asI .i64 v5).bind fun n6 =>
if (decide ((u2 : Int) ≤ n6)) = true then
(some (.int .i64 5, w0))
else
(u0.bind fun a7 =>
(World.cell? (World.drew w0) a7).bind fun v8 =>
(asSl v8).bind fun q9 =>
u0.bind fun a10 =>
(World.cell? (World.drew w0) a10).bind fun v11 =>
(asSl v11).bind fun q12 =>
(idxA q9.1 q9.2.1 3 u1).bind fun a13 =>
(st1 (World.drew w0) a13 (.bool true)).bind fun w14 =>
(idxA q12.1 q12.2.1 3 u1).bind fun a15 =>
(st1 w14 (Addr.add a15 1) (.int .i64 u2)).bind fun w16 =>
u0.bind fun a17 =>
(World.cell? w16 (Addr.add a17 1)).bind fun v18 =>
(asSl v18).bind fun q19 =>
g37_l21 u0 u1 q19 0 w16)

theorem g37_eq (u0 : Option Addr) (u1 : Int) (u2 : Int) (w0 : World) : evFn Try.prog 37 g37_ann #[.pointer u0, .int .i64 u1, .int .i64 u2] w0 = g37 u0 u1 u2 w0 := by kernel_rfl

theorem g37_call {u0 : Option Addr} {u1 : Int} {u2 : Int} {w0 : World} {r : Value × World} (h : g37 u0 u1 u2 w0 = some r) : callF Try.prog 37 #[.pointer u0, .int .i64 u1, .int .i64 u2] w0 = some r :=
  callF_of_evFn (ann := g37_ann) Try.call37 (by kernel_rfl) ((g37_eq u0 u1 u2 w0).trans h)

theorem g37_l21_x0_of {u0 : Option Addr} {u1 : Int} {q19 : Option Addr × Nat × Nat} {s t : Int} {w w' : World} (h : loopS (g37_l21_b q19 u0 u1) s w = some (.exit 0, t, w')) : g37_l21 u0 u1 q19 s w = g37_l21_x0 t w' := by
  have h1 : g37_l21 u0 u1 q19 s w = loopM Try.prog 73 37 g37_ann (cAt [1, 1, 1, 0, 1, 0, 0] (bodyOf Try.f37)) [0, 1, 0, 1, 1, 1] g37_K40 ((g37_l21_cs u0 u1 q19) ++ sputs [(39, .i .i64)] s) w := by kernel_rfl
  have h2 : loopM Try.prog 73 37 g37_ann (cAt [1, 1, 1, 0, 1, 0, 0] (bodyOf Try.f37)) [0, 1, 0, 1, 1, 1] g37_K40 ((g37_l21_cs u0 u1 q19) ++ sputs [(39, .i .i64)] s) w = g37_K40 (.exit 0) (puts 73 ((g37_l21_cs u0 u1 q19) ++ sputs [(39, .i .i64)] t)) w' :=
    loop_rule (P := Try.prog) (N := 73) (f := 37) (ann := g37_ann) (body := (cAt [1, 1, 1, 0, 1, 0, 0] (bodyOf Try.f37))) (pt := [0, 1, 0, 1, 1, 1]) (K := g37_K40) (g37_l21_cs u0 u1 q19) [(39, .i .i64)] (b := g37_l21_b q19 u0 u1) (fun s w => by kernel_rfl) (by kernel_rfl) (by kernel_rfl) (by kernel_rfl) h
  have h3 : g37_K40 (.exit 0) (puts 73 ((g37_l21_cs u0 u1 q19) ++ sputs [(39, .i .i64)] t)) w' = g37_l21_x0 t w' := by kernel_rfl
  exact h1.trans (h2.trans h3)

/-! 39: (*penstock/image.Image).isr (m: *image.Image, c: api.Cmd) -/
def g39_ann : List (List Nat × List Nat) := [([0, 1, 0, 1, 1, 1], [0, 3, 5, 65, 66, 4, 67])]

def g39_l34_cs (u0 : Option Addr) (w0 : World) (a6 : Addr) (q32 : Option Addr × Nat × Nat) : List (Nat × Value) := ([(0, .pointer u0), (3, .pointer (some (⟨w0.heap.size, 0, none⟩))), (5, .pointer (some a6)), (65, .slice q32.1 q32.2.1 q32.2.2), (66, .int .i64 (q32.2.1 : Int))] : List (Nat × Value))

/-- the round of a loop ((*penstock/image.Image).isr) -/
noncomputable def g39_l34_b (q32 : Option Addr × Nat × Nat) (a6 : Addr) (u0 : Option Addr) (w0 : World) (s35 : Int × Int) (w36 : World) : Option (Exit × (Int × Int) × World) :=
if (decide ((s35.2 : Int) < (q32.2.1 : Int))) = true then
((idxA q32.1 q32.2.1 1 s35.2).bind fun a37 =>
(World.cell? w36 a37).bind fun v38 =>
(asI .i64 v38).bind fun n39 =>
(World.cell? w36 (Addr.add a6 4)).bind fun v40 =>
(asSl v40).bind fun q41 =>
(callF Try.prog 70 #[.slice q41.1 q41.2.1 q41.2.2, .int .i64 n39] w36).bind fun r42 =>
(asB r42.1).bind fun b43 =>
if b43 = true then
((World.cell? r42.2 (Addr.add a6 3)).bind fun v44 =>
(asSl v44).bind fun q45 =>
(callF Try.prog 70 #[.slice q45.1 q45.2.1 q45.2.2, .int .i64 n39] r42.2).bind fun r46 =>
(asB r46.1).bind fun b47 =>
if (!b47) = true then
(u0.bind fun a48 =>
(World.cell? r46.2 a48).bind fun v49 =>
(asSl v49).bind fun q50 =>
(idxA q50.1 q50.2.1 3 n39).bind fun a51 =>
(World.cell? r46.2 a51).bind fun v52 =>
(asB v52).bind fun b53 =>
if (!b53) = true then
(some (.ret, (5, s35.2), r46.2))
else
(some (.normal, (s35.1, (IntKind.i64.wrap (s35.2 + 1))), r46.2)))
else
(some (.normal, (s35.1, (IntKind.i64.wrap (s35.2 + 1))), r46.2)))
else
((World.cell? r42.2 (Addr.add a6 5)).bind fun v54 =>
(asSl v54).bind fun q55 =>
(callF Try.prog 70 #[.slice q55.1 q55.2.1 q55.2.2, .int .i64 n39] r42.2).bind fun r56 =>
(asB r56.1).bind fun b57 =>
if (!b57) = true then
(some (.ret, (5, s35.2), r56.2))
else
((World.cell? r56.2 (Addr.add a6 3)).bind fun v58 =>
(asSl v58).bind fun q59 =>
(callF Try.prog 70 #[.slice q59.1 q59.2.1 q59.2.2, .int .i64 n39] r56.2).bind fun r60 =>
(asB r60.1).bind fun b61 =>
if (!b61) = true then
(u0.bind fun a62 =>
(World.cell? r60.2 a62).bind fun v63 =>
(asSl v63).bind fun q64 =>
(idxA q64.1 q64.2.1 3 n39).bind fun a65 =>
(World.cell? r60.2 a65).bind fun v66 =>
(asB v66).bind fun b67 =>
if (!b67) = true then
(some (.ret, (5, s35.2), r60.2))
else
(some (.normal, (s35.1, (IntKind.i64.wrap (s35.2 + 1))), r60.2)))
else
(some (.normal, (s35.1, (IntKind.i64.wrap (s35.2 + 1))), r60.2)))))
else
(some ((.exit 1), (s35.1, s35.2), w36))

noncomputable def g39_K68  : Exit → Env → World → Option (Value × World) :=
  retK Try.prog Try.f39.results.toList

noncomputable def g39_K69  : Exit → Env → World → Option (Value × World) :=
  seqK (ev Try.prog 124 39 g39_ann (cAt [1, 1, 1, 1] (bodyOf Try.f39)) [1, 1, 1, 1] g39_K68) g39_K68

noncomputable def g39_K70  : Exit → Env → World → Option (Value × World) :=
  blkK 1 g39_K69

/-- the loop, from a state on -/
noncomputable def g39_l34 (u0 : Option Addr) (w0 : World) (a6 : Addr) (q32 : Option Addr × Nat × Nat) (s : Int × Int) (w : World) : Option (Value × World) :=
  loopM Try.prog 124 39 g39_ann (cAt [1, 1, 1, 0, 1, 0, 0] (bodyOf Try.f39)) [0, 1, 0, 1, 1, 1] g39_K70 ((g39_l34_cs u0 w0 a6 q32) ++ sputs [(4, .i .i64), (67, .i .i64)] s) w

/-- behind the loop, left by x1 -/
noncomputable def g39_l34_x1 (w0 : World) (a6 : Addr) (u0 : Option Addr) (t71 : Int × Int) (w72 : World) : Option (Value × World) :=
(World.cell? w72 (Addr.add (⟨w0.heap.size, 0, none⟩) 5)).bind fun v73 =>
(asSl v73).bind fun q74 =>
(callF Try.prog 36 #[.slice q74.1 q74.2.1 q74.2.2] w72).bind fun r75 =>
(asSl r75.1).bind fun q76 =>
(st1 r75.2 (Addr.add a6 3) (.slice q76.1 q76.2.1 q76.2.2)).bind fun w77 =>
(World.cell? w77 (Addr.add a6 2)).bind fun v78 =>
(asI .i64 v78).bind fun n79 =>
(st1 w77 (Addr.add a6 2) (.int .i64 (IntKind.i64.wrap (n79 + 1)))).bind fun w80 =>
(callF Try.prog 76 #[.pointer u0, .pointer (some a6)] w80).bind fun r81 =>
(asTup 0 r81.1).bind fun _ =>
some (.int .i64 0, r81.2)

/-- behind the loop, left by ret -/
noncomputable def g39_l34_ret  (t82 : Int × Int) (w83 : World) : Option (Value × World) :=
some (.int .i64 t82.1, w83)

noncomputable def g39 (u0 : Option Addr) (u1c0 : Int) (u1c1 : Int) (u1c2 : Int) (u1c3 : Int) (u1c4 : Int) (u1c5 : Option Addr × Nat × Nat) (w0 : World) : Option (Value × World) :=
u0.bind fun a1 =>
(World.cell? (World.drew (World.alloc w0 (.cells #[.int .i64 u1c0, .int .i64 u1c1, .int .i64 u1c2, .int .i64 u1c3, .int .i64 u1c4, .slice u1c5.1 u1c5.2.1 u1c5.2.2] 33))) (Addr.add a1 1)).bind fun v2 =>
(asSl v2).bind fun q3 =>
(World.cell? (World.drew (World.alloc w0 (.cells #[.int .i64 u1c0, .int .i64 u1c1, .int .i64 u1c2, .int .i64 u1c3, .int .i64 u1c4, .slice u1c5.1 u1c5.2.1 u1c5.2.2] 33))) (Addr.add (⟨w0.heap.size, 0, none⟩) 2)).bind fun v4 =>
(asI .i64 v4).bind fun n5 =>
(idxA q3.1 q3.2.1 6 n5).bind fun a6 =>
(World.cell? (World.drew (World.alloc w0 (.cells #[.int .i64 u1c0, .int .i64 u1c1, .int .i64 u1c2, .int .i64 u1c3, .int .i64 u1c4, .slice u1c5.1 u1c5.2.1 u1c5.2.2] 33))) (Addr.add (⟨w0.heap.size, 0, none⟩) 5)).bind fun v7 =>
(asSl v7).bind fun q8 =>
(callF Try.prog 75 #[.pointer u0, .slice q8.1 q8.2.1 q8.2.2] (World.drew (World.alloc w0 (.cells #[.int .i64 u1c0, .int .i64 u1c1, .int .i64 u1c2, .int .i64 u1c3, .int .i64 u1c4, .slice u1c5.1 u1c5.2.1 u1c5.2.2] 33)))).bind fun r9 =>
(asB r9.1).bind fun b10 =>
if (!b10) = true then
(some (.int .i64 1, r9.2))
else
((World.cell? (World.drew r9.2) a6).bind fun v11 =>
(asI .i64 v11).bind fun n12 =>
if (decide ((n12 : Int) < 0)) = true then
(some (.int .i64 12, (World.drew r9.2)))
else
((World.cell? (World.drew r9.2) (Addr.add (⟨w0.heap.size, 0, none⟩) 3)).bind fun v13 =>
(asI .i64 v13).bind fun n14 =>
(World.cell? (World.drew r9.2) (Addr.add a6 1)).bind fun v15 =>
(asI .i64 v15).bind fun n16 =>
if ((n14 : Int) != n16) = true then
(some (.int .i64 12, (World.drew r9.2)))
else
((World.cell? (World.drew r9.2) (Addr.add (⟨w0.heap.size, 0, none⟩) 1)).bind fun v17 =>
(asI .i64 v17).bind fun n18 =>
(World.cell? (World.drew r9.2) a6).bind fun v19 =>
(asI .i64 v19).bind fun n20 =>
if ((n18 : Int) != n20) = true then
(some (.int .i64 12, (World.drew r9.2)))
else
((World.cell? (World.drew r9.2) (Addr.add (⟨w0.heap.size, 0, none⟩) 4)).bind fun v21 =>
(asI .i64 v21).bind fun n22 =>
(World.cell? (World.drew r9.2) (Addr.add a6 2)).bind fun v23 =>
(asI .i64 v23).bind fun n24 =>
if ((n22 : Int) != n24) = true then
(some (.int .i64 12, (World.drew r9.2)))
else
((World.cell? (World.drew (World.drew r9.2)) (Addr.add (⟨w0.heap.size, 0, none⟩) 5)).bind fun v25 =>
(asSl v25).bind fun q26 =>
(World.cell? (World.drew (World.drew r9.2)) a6).bind fun v27 =>
(asI .i64 v27).bind fun n28 =>
(callF Try.prog 70 #[.slice q26.1 q26.2.1 q26.2.2, .int .i64 n28] (World.drew (World.drew r9.2))).bind fun r29 =>
(asB r29.1).bind fun b30 =>
if (!b30) = true then
(some (.int .i64 5, r29.2))
else
((World.cell? r29.2 (Addr.add (⟨w0.heap.size, 0, none⟩) 5)).bind fun v31 =>
(asSl v31).bind fun q32 =>
g39_l34 u0 w0 a6 q32 (0, 0) r29.2))))))

theorem g39_eq (u0 : Option Addr) (u1c0 : Int) (u1c1 : Int) (u1c2 : Int) (u1c3 : Int) (u1c4 : Int) (u1c5 : Option Addr × Nat × Nat) (w0 : World) : evFn Try.prog 39 g39_ann #[.pointer u0, .agg #[.int .i64 u1c0, .int .i64 u1c1, .int .i64 u1c2, .int .i64 u1c3, .int .i64 u1c4, .slice u1c5.1 u1c5.2.1 u1c5.2.2]] w0 = g39 u0 u1c0 u1c1 u1c2 u1c3 u1c4 u1c5 w0 := by kernel_rfl

theorem g39_call {u0 : Option Addr} {u1c0 : Int} {u1c1 : Int} {u1c2 : Int} {u1c3 : Int} {u1c4 : Int} {u1c5 : Option Addr × Nat × Nat} {w0 : World} {r : Value × World} (h : g39 u0 u1c0 u1c1 u1c2 u1c3 u1c4 u1c5 w0 = some r) : callF Try.prog 39 #[.pointer u0, .agg #[.int .i64 u1c0, .int .i64 u1c1, .int .i64 u1c2, .int .i64 u1c3, .int .i64 u1c4, .slice u1c5.1 u1c5.2.1 u1c5.2.2]] w0 = some r :=
  callF_of_evFn (ann := g39_ann) Try.call39 (by kernel_rfl) ((g39_eq u0 u1c0 u1c1 u1c2 u1c3 u1c4 u1c5 w0).trans h)

theorem g39_l34_x1_of {u0 : Option Addr} {w0 : World} {a6 : Addr} {q32 : Option Addr × Nat × Nat} {s t : Int × Int} {w w' : World} (h : loopS (g39_l34_b q32 a6 u0 w0) s w = some (.exit 1, t, w')) : g39_l34 u0 w0 a6 q32 s w = g39_l34_x1 w0 a6 u0 t w' := by
  have h1 : g39_l34 u0 w0 a6 q32 s w = loopM Try.prog 124 39 g39_ann (cAt [1, 1, 1, 0, 1, 0, 0] (bodyOf Try.f39)) [0, 1, 0, 1, 1, 1] g39_K70 ((g39_l34_cs u0 w0 a6 q32) ++ sputs [(4, .i .i64), (67, .i .i64)] s) w := by kernel_rfl
  have h2 : loopM Try.prog 124 39 g39_ann (cAt [1, 1, 1, 0, 1, 0, 0] (bodyOf Try.f39)) [0, 1, 0, 1, 1, 1] g39_K70 ((g39_l34_cs u0 w0 a6 q32) ++ sputs [(4, .i .i64), (67, .i .i64)] s) w = g39_K70 (.exit 1) (puts 124 ((g39_l34_cs u0 w0 a6 q32) ++ sputs [(4, .i .i64), (67, .i .i64)] t)) w' :=
    loop_rule (P := Try.prog) (N := 124) (f := 39) (ann := g39_ann) (body := (cAt [1, 1, 1, 0, 1, 0, 0] (bodyOf Try.f39))) (pt := [0, 1, 0, 1, 1, 1]) (K := g39_K70) (g39_l34_cs u0 w0 a6 q32) [(4, .i .i64), (67, .i .i64)] (b := g39_l34_b q32 a6 u0 w0) (fun s w => by kernel_rfl) (by kernel_rfl) (by kernel_rfl) (by kernel_rfl) h
  have h3 : g39_K70 (.exit 1) (puts 124 ((g39_l34_cs u0 w0 a6 q32) ++ sputs [(4, .i .i64), (67, .i .i64)] t)) w' = g39_l34_x1 w0 a6 u0 t w' := by kernel_rfl
  exact h1.trans (h2.trans h3)

theorem g39_l34_ret_of {u0 : Option Addr} {w0 : World} {a6 : Addr} {q32 : Option Addr × Nat × Nat} {s t : Int × Int} {w w' : World} (h : loopS (g39_l34_b q32 a6 u0 w0) s w = some (.ret, t, w')) : g39_l34 u0 w0 a6 q32 s w = g39_l34_ret t w' := by
  have h1 : g39_l34 u0 w0 a6 q32 s w = loopM Try.prog 124 39 g39_ann (cAt [1, 1, 1, 0, 1, 0, 0] (bodyOf Try.f39)) [0, 1, 0, 1, 1, 1] g39_K70 ((g39_l34_cs u0 w0 a6 q32) ++ sputs [(4, .i .i64), (67, .i .i64)] s) w := by kernel_rfl
  have h2 : loopM Try.prog 124 39 g39_ann (cAt [1, 1, 1, 0, 1, 0, 0] (bodyOf Try.f39)) [0, 1, 0, 1, 1, 1] g39_K70 ((g39_l34_cs u0 w0 a6 q32) ++ sputs [(4, .i .i64), (67, .i .i64)] s) w = g39_K70 (.ret) (puts 124 ((g39_l34_cs u0 w0 a6 q32) ++ sputs [(4, .i .i64), (67, .i .i64)] t)) w' :=
    loop_rule (P := Try.prog) (N := 124) (f := 39) (ann := g39_ann) (body := (cAt [1, 1, 1, 0, 1, 0, 0] (bodyOf Try.f39))) (pt := [0, 1, 0, 1, 1, 1]) (K := g39_K70) (g39_l34_cs u0 w0 a6 q32) [(4, .i .i64), (67, .i .i64)] (b := g39_l34_b q32 a6 u0 w0) (fun s w => by kernel_rfl) (by kernel_rfl) (by kernel_rfl) (by kernel_rfl) h
  have h3 : g39_K70 (.ret) (puts 124 ((g39_l34_cs u0 w0 a6 q32) ++ sputs [(4, .i .i64), (67, .i .i64)] t)) w' = g39_l34_ret t w' := by kernel_rfl
  exact h1.trans (h2.trans h3)

/-! 40: (*penstock/image.Image).move (m: *image.Image, c: api.Cmd) -/
def g40_ann : List (List Nat × List Nat) := []

noncomputable def g40 (u0 : Option Addr) (u1c0 : Int) (u1c1 : Int) (u1c2 : Int) (u1c3 : Int) (u1c4 : Int) (u1c5 : Option Addr × Nat × Nat) (w0 : World) : Option (Value × World) :=
(World.cell? (World.alloc w0 (.cells #[.int .i64 u1c0, .int .i64 u1c1, .int .i64 u1c2, .int .i64 u1c3, .int .i64 u1c4, .slice u1c5.1 u1c5.2.1 u1c5.2.2] 33)) (Addr.add (⟨w0.heap.size, 0, none⟩) 5)).bind fun v1 =>
(asSl v1).bind fun q2 =>
(callF Try.prog 75 #[.pointer u0, .slice q2.1 q2.2.1 q2.2.2] (World.alloc w0 (.cells #[.int .i64 u1c0, .int .i64 u1c1, .int .i64 u1c2, .int .i64 u1c3, .int .i64 u1c4, .slice u1c5.1 u1c5.2.1 u1c5.2.2] 33))).bind fun r3 =>
(asB r3.1).bind fun b4 =>
if (!b4) = true then
(some (.int .i64 1, r3.2))
else
(u0.bind fun a5 =>
(World.cell? (World.drew r3.2) (Addr.add a5 1)).bind fun v6 =>
(asSl v6).bind fun q7 =>
(World.cell? (World.drew r3.2) (Addr.add (⟨w0.heap.size, 0, none⟩) 2)).bind fun v8 =>
(asI .i64 v8).bind fun n9 =>
(idxA q7.1 q7.2.1 6 n9).bind fun a10 =>
(World.cell? (World.drew r3.2) (Addr.add a10 5)).bind fun v11 =>
(asSl v11).bind fun q12 =>
if (decide (((q12.2.1 : Int) : Int) > 0)) = true then
(some (.int .i64 16, (World.drew r3.2)))
else
((World.cell? (World.drew r3.2) (Addr.add (⟨w0.heap.size, 0, none⟩) 5)).bind fun v14 =>
(asSl v14).bind fun q15 =>
(callF Try.prog 36 #[.slice q15.1 q15.2.1 q15.2.2] (World.drew r3.2)).bind fun r16 =>
(asSl r16.1).bind fun q17 =>
(st1 r16.2 (Addr.add a10 5) (.slice q17.1 q17.2.1 q17.2.2)).bind fun w18 =>
(callF Try.prog 76 #[.pointer u0, .pointer (some a10)] w18).bind fun r19 =>
(asTup 0 r19.1).bind fun _ =>
some (.int .i64 0, r19.2)))

theorem g40_eq (u0 : Option Addr) (u1c0 : Int) (u1c1 : Int) (u1c2 : Int) (u1c3 : Int) (u1c4 : Int) (u1c5 : Option Addr × Nat × Nat) (w0 : World) : evFn Try.prog 40 g40_ann #[.pointer u0, .agg #[.int .i64 u1c0, .int .i64 u1c1, .int .i64 u1c2, .int .i64 u1c3, .int .i64 u1c4, .slice u1c5.1 u1c5.2.1 u1c5.2.2]] w0 = g40 u0 u1c0 u1c1 u1c2 u1c3 u1c4 u1c5 w0 := by kernel_rfl

theorem g40_call {u0 : Option Addr} {u1c0 : Int} {u1c1 : Int} {u1c2 : Int} {u1c3 : Int} {u1c4 : Int} {u1c5 : Option Addr × Nat × Nat} {w0 : World} {r : Value × World} (h : g40 u0 u1c0 u1c1 u1c2 u1c3 u1c4 u1c5 w0 = some r) : callF Try.prog 40 #[.pointer u0, .agg #[.int .i64 u1c0, .int .i64 u1c1, .int .i64 u1c2, .int .i64 u1c3, .int .i64 u1c4, .slice u1c5.1 u1c5.2.1 u1c5.2.2]] w0 = some r :=
  callF_of_evFn (ann := g40_ann) Try.call40 (by kernel_rfl) ((g40_eq u0 u1c0 u1c1 u1c2 u1c3 u1c4 u1c5 w0).trans h)

/-! 41: (*penstock/image.Image).grant (m: *image.Image, n: int) -/
def g41_ann : List (List Nat × List Nat) := []

noncomputable def g41 (u0 : Option Addr) (u1 : Int) (w0 : World) : Option (Value × World) :=
u0.bind fun a1 =>
(World.cell? w0 (Addr.add a1 2)).bind fun v2 =>
(asP v2).bind fun p3 =>
(callF Try.prog 77 #[.pointer p3, .int .u64 10] w0).bind fun r4 =>
(asTup 2 r4.1).bind fun l5 =>
(asI .u64 (l5.getD 0 undef)).bind fun n6 =>
(asB (l5.getD 1 undef)).bind fun b7 =>
if (!b7) = true then
(some (.int .i64 17, r4.2))
else
(u0.bind fun a8 =>
(World.cell? r4.2 a8).bind fun v9 =>
(asSl v9).bind fun q10 =>
(idxA q10.1 q10.2.1 3 u1).bind fun a11 =>
(st1 r4.2 (Addr.add a11 2) (.int .u64 n6)).bind fun w12 =>
some (.int .i64 0, w12))

theorem g41_eq (u0 : Option Addr) (u1 : Int) (w0 : World) : evFn Try.prog 41 g41_ann #[.pointer u0, .int .i64 u1] w0 = g41 u0 u1 w0 := by kernel_rfl

theorem g41_call {u0 : Option Addr} {u1 : Int} {w0 : World} {r : Value × World} (h : g41 u0 u1 w0 = some r) : callF Try.prog 41 #[.pointer u0, .int .i64 u1] w0 = some r :=
  callF_of_evFn (ann := g41_ann) Try.call41 (by kernel_rfl) ((g41_eq u0 u1 w0).trans h)

/-! 42: (*penstock/gate.Counter).Left (c: *gate.Counter) -/
def g42_ann : List (List Nat × List Nat) := []

noncomputable def g42 (u0 : Option Addr) (w0 : World) : Option (Value × World) :=
if (u0.isNone) = true then
(some (.tuple #[.int .u64 0, .int .u64 0], w0))
else
(u0.bind fun a1 =>
(callF Try.prog 78 #[.pointer (some a1)] w0).bind fun r2 =>
(asI .u64 r2.1).bind fun n3 =>
u0.bind fun a4 =>
(World.cell? (World.drew r2.2) (Addr.add a4 1)).bind fun v5 =>
(asI .u64 v5).bind fun n6 =>
some (.tuple #[.int .u64 n3, .int .u64 (IntKind.u64.wrap (n6 - n3))], (World.drew r2.2)))

theorem g42_eq (u0 : Option Addr) (w0 : World) : evFn Try.prog 42 g42_ann #[.pointer u0] w0 = g42 u0 w0 := by kernel_rfl

theorem g42_call {u0 : Option Addr} {w0 : World} {r : Value × World} (h : g42 u0 w0 = some r) : callF Try.prog 42 #[.pointer u0] w0 = some r :=
  callF_of_evFn (ann := g42_ann) Try.call42 (by kernel_rfl) ((g42_eq u0 w0).trans h)

/-! 67: (*sync/atomic.Uint64).Store (x: *atomic.Uint64, val: uint64) -/
def g67_ann : List (List Nat × List Nat) := []

noncomputable def g67 (u0 : Option Addr) (u1 : Int) (w0 : World) : Option (Value × World) :=
u0.bind fun a1 =>
(callF Try.prog 83 #[.pointer (some a1), .int .u64 u1] w0).bind fun r2 =>
(asTup 0 r2.1).bind fun _ =>
some (.tuple #[], r2.2)

theorem g67_eq (u0 : Option Addr) (u1 : Int) (w0 : World) : evFn Try.prog 67 g67_ann #[.pointer u0, .int .u64 u1] w0 = g67 u0 u1 w0 := by kernel_rfl

theorem g67_call {u0 : Option Addr} {u1 : Int} {w0 : World} {r : Value × World} (h : g67 u0 u1 w0 = some r) : callF Try.prog 67 #[.pointer u0, .int .u64 u1] w0 = some r :=
  callF_of_evFn (ann := g67_ann) Try.call67 (by kernel_rfl) ((g67_eq u0 u1 w0).trans h)

/-! 70: slices.Contains[[]int,int] (s: []int, v: int) -/
def g70_ann : List (List Nat × List Nat) := []

noncomputable def g70 (u0 : Option Addr × Nat × Nat) (u1 : Int) (w0 : World) : Option (Value × World) :=
(callF Try.prog 95 #[.slice u0.1 u0.2.1 u0.2.2, .int .i64 u1] w0).bind fun r1 =>
(asI .i64 r1.1).bind fun n2 =>
some (.bool (decide ((n2 : Int) ≥ 0)), r1.2)

theorem g70_eq (u0 : Option Addr × Nat × Nat) (u1 : Int) (w0 : World) : evFn Try.prog 70 g70_ann #[.slice u0.1 u0.2.1 u0.2.2, .int .i64 u1] w0 = g70 u0 u1 w0 := by kernel_rfl

theorem g70_call {u0 : Option Addr × Nat × Nat} {u1 : Int} {w0 : World} {r : Value × World} (h : g70 u0 u1 w0 = some r) : callF Try.prog 70 #[.slice u0.1 u0.2.1 u0.2.2, .int .i64 u1] w0 = some r :=
  callF_of_evFn (ann := g70_ann) Try.call70 (by kernel_rfl) ((g70_eq u0 u1 w0).trans h)

/-! 71: (*penstock/image.Image).elect (m: *image.Image, p: *api.Part) -/
def g71_ann : List (List Nat × List Nat) := [([0, 1, 0, 1], [0, 1, 12, 13, 14])]

def g71_l7_cs (u0 : Option Addr) (u1 : Option Addr) (q5 : Option Addr × Nat × Nat) : List (Nat × Value) := ([(0, .pointer u0), (1, .pointer u1), (12, .slice q5.1 q5.2.1 q5.2.2), (13, .int .i64 (q5.2.1 : Int))] : List (Nat × Value))

/-- the round of a loop ((*penstock/image.Image).elect) -/
noncomputable def g71_l7_b (q5 : Option Addr × Nat × Nat) (u0 : Option Addr) (u1 : Option Addr) (s8 : Int) (w9 : World) : Option (Exit × (Int) × World) :=
if (decide ((s8 : Int) < (q5.2.1 : Int))) = true then
((idxA q5.1 q5.2.1 1 s8).bind fun a10 =>
(World.cell? w9 a10).bind fun v11 =>
(asI .i64 v11).bind fun n12 =>
u0.bind fun a13 =>
(World.cell? w9 a13).bind fun v14 =>
(asSl v14).bind fun q15 =>
(idxA q15.1 q15.2.1 3 n12).bind fun a16 =>
(World.cell? w9 a16).bind fun v17 =>
(asB v17).bind fun b18 =>
if b18 = true then
(u1.bind fun a19 =>
(st1 w9 a19 (.int .i64 n12)).bind fun w20 =>
some ((.exit 0), s8, w20))
else
(some (.normal, (IntKind.i64.wrap (s8 + 1)), w9)))
else
(some ((.exit 0), s8, w9))

noncomputable def g71_K21  : Exit → Env → World → Option (Value × World) :=
  retK Try.prog Try.f71.results.toList

noncomputable def g71_K22  : Exit → Env → World → Option (Value × World) :=
  seqK (ev Try.prog 38 71 g71_ann (cAt [1, 1] (bodyOf Try.f71)) [1, 1] g71_K21) g71_K21

noncomputable def g71_K23  : Exit → Env → World → Option (Value × World) :=
  blkK 0 g71_K22

/-- the loop, from a state on -/
noncomputable def g71_l7 (u0 : Option Addr) (u1 : Option Addr) (q5 : Option Addr × Nat × Nat) (s : Int) (w : World) : Option (Value × World) :=
  loopM Try.prog 38 71 g71_ann (cAt [1, 0, 1, 0, 0] (bodyOf Try.f71)) [0, 1, 0, 1] g71_K23 ((g71_l7_cs u0 u1 q5) ++ sputs [(14, .i .i64)] s) w

/-- behind the loop, left by x0 -/
noncomputable def g71_l7_x0 (u1 : Option Addr) (t24 : Int) (w25 : World) : Option (Value × World) :=
u1.bind fun a26 =>
(World.cell? w25 (Addr.add a26 1)).bind fun v27 =>
(asI .i64 v27).bind fun n28 =>
u1.bind fun a29 =>
(st1 w25 (Addr.add a29 1) (.int .i64 (IntKind.i64.wrap (n28 + 1)))).bind fun w30 =>
some (.tuple #[], w30)

noncomputable def g71 (u0 : Option Addr) (u1 : Option Addr) (w0 : World) : Option (Value × World) :=
u1.bind fun a1 =>
(st1 w0 a1 (.int .i64 (-1))).bind fun w2 =>
u1.bind fun a3 =>
(World.cell? w2 (Addr.add a3 3)).bind fun v4 =>
(asSl v4).bind fun q5 =>
g71_l7 u0 u1 q5 0 w2

theorem g71_eq (u0 : Option Addr) (u1 : Option Addr) (w0 : World) : evFn Try.prog 71 g71_ann #[.pointer u0, .pointer u1] w0 = g71 u0 u1 w0 := by kernel_rfl

theorem g71_call {u0 : Option Addr} {u1 : Option Addr} {w0 : World} {r : Value × World} (h : g71 u0 u1 w0 = some r) : callF Try.prog 71 #[.pointer u0, .pointer u1] w0 = some r :=
  callF_of_evFn (ann := g71_ann) Try.call71 (by kernel_rfl) ((g71_eq u0 u1 w0).trans h)

theorem g71_l7_x0_of {u0 : Option Addr} {u1 : Option Addr} {q5 : Option Addr × Nat × Nat} {s t : Int} {w w' : World} (h : loopS (g71_l7_b q5 u0 u1) s w = some (.exit 0, t, w')) : g71_l7 u0 u1 q5 s w = g71_l7_x0 u1 t w' := by
  have h1 : g71_l7 u0 u1 q5 s w = loopM Try.prog 38 71 g71_ann (cAt [1, 0, 1, 0, 0] (bodyOf Try.f71)) [0, 1, 0, 1] g71_K23 ((g71_l7_cs u0 u1 q5) ++ sputs [(14, .i .i64)] s) w := by kernel_rfl
  have h2 : loopM Try.prog 38 71 g71_ann (cAt [1, 0, 1, 0, 0] (bodyOf Try.f71)) [0, 1, 0, 1] g71_K23 ((g71_l7_cs u0 u1 q5) ++ sputs [(14, .i .i64)] s) w = g71_K23 (.exit 0) (puts 38 ((g71_l7_cs u0 u1 q5) ++ sputs [(14, .i .i64)] t)) w' :=
    loop_rule (P := Try.prog) (N := 38) (f := 71) (ann := g71_ann) (body := (cAt [1, 0, 1, 0, 0] (bodyOf Try.f71))) (pt := [0, 1, 0, 1]) (K := g71_K23) (g71_l7_cs u0 u1 q5) [(14, .i .i64)] (b := g71_l7_b q5 u0 u1) (fun s w => by kernel_rfl) (by kernel_rfl) (by kernel_rfl) (by kernel_rfl) h
  have h3 : g71_K23 (.exit 0) (puts 38 ((g71_l7_cs u0 u1 q5) ++ sputs [(14, .i .i64)] t)) w' = g71_l7_x0 u1 t w' := by kernel_rfl
  exact h1.trans (h2.trans h3)

/-! 75: (*penstock/image.Image).sorted (m: *image.Image, l: []int) -/
def g75_ann : List (List Nat × List Nat) := [([0, 1, 0, 1], [0, 1, 7, 8, 4, 9])]

def g75_l2_cs (u0 : Option Addr) (u1 : Option Addr × Nat × Nat) : List (Nat × Value) := ([(0, .pointer u0), (1, .slice u1.1 u1.2.1 u1.2.2), (7, .slice u1.1 u1.2.1 u1.2.2), (8, .int .i64 (u1.2.1 : Int))] : List (Nat × Value))

/-- the round of a loop ((*penstock/image.Image).sorted) -/
noncomputable def g75_l2_b (u1 : Option Addr × Nat × Nat) (u0 : Option Addr) (s3 : Bool × Int) (w4 : World) : Option (Exit × (Bool × Int) × World) :=
if (decide ((s3.2 : Int) < (u1.2.1 : Int))) = true then
((idxA u1.1 u1.2.1 1 s3.2).bind fun a5 =>
(World.cell? w4 a5).bind fun v6 =>
(asI .i64 v6).bind fun n7 =>
if (decide ((n7 : Int) < 0)) = true then
(some (.ret, (false, s3.2), w4))
else
(u0.bind fun a8 =>
(World.cell? w4 a8).bind fun v9 =>
(asSl v9).bind fun q10 =>
if (decide ((n7 : Int) ≥ (q10.2.1 : Int))) = true then
(some (.ret, (false, s3.2), w4))
else
(if (decide ((s3.2 : Int) > 0)) = true then
((idxA u1.1 u1.2.1 1 (IntKind.i64.wrap (s3.2 - 1))).bind fun a12 =>
(World.cell? w4 a12).bind fun v13 =>
(asI .i64 v13).bind fun n14 =>
if (decide ((n14 : Int) ≥ n7)) = true then
(some (.ret, (false, s3.2), w4))
else
(some (.normal, (s3.1, (IntKind.i64.wrap (s3.2 + 1))), w4)))
else
(some (.normal, (s3.1, (IntKind.i64.wrap (s3.2 + 1))), w4)))))
else
(some ((.exit 0), (s3.1, s3.2), w4))

noncomputable def g75_K15  : Exit → Env → World → Option (Value × World) :=
  retK Try.prog Try.f75.results.toList

noncomputable def g75_K16  : Exit → Env → World → Option (Value × World) :=
  seqK (ev Try.prog 42 75 g75_ann (cAt [1, 1] (bodyOf Try.f75)) [1, 1] g75_K15) g75_K15

noncomputable def g75_K17  : Exit → Env → World → Option (Value × World) :=
  blkK 0 g75_K16

/-- the loop, from a state on -/
noncomputable def g75_l2 (u0 : Option Addr) (u1 : Option Addr × Nat × Nat) (s : Bool × Int) (w : World) : Option (Value × World) :=
  loopM Try.prog 42 75 g75_ann (cAt [1, 0, 1, 0, 0] (bodyOf Try.f75)) [0, 1, 0, 1] g75_K17 ((g75_l2_cs u0 u1) ++ sputs [(4, .b), (9, .i .i64)] s) w

/-- behind the loop, left by x0 -/
noncomputable def g75_l2_x0 (u1 : Option Addr × Nat × Nat) (t18 : Bool × Int) (w19 : World) : Option (Value × World) :=
some (.bool (decide (((u1.2.1 : Int) : Int) > 0)), w19)

/-- behind the loop, left by ret -/
noncomputable def g75_l2_ret  (t21 : Bool × Int) (w22 : World) : Option (Value × World) :=
some (.bool t21.1, w22)

noncomputable def g75 (u0 : Option Addr) (u1 : Option Addr × Nat × Nat) (w0 : World) : Option (Value × World) :=
g75_l2 u0 u1 (false, 0) w0

theorem g75_eq (u0 : Option Addr) (u1 : Option Addr × Nat × Nat) (w0 : World) : evFn Try.prog 75 g75_ann #[.pointer u0, .slice u1.1 u1.2.1 u1.2.2] w0 = g75 u0 u1 w0 := by kernel_rfl

theorem g75_call {u0 : Option Addr} {u1 : Option Addr × Nat × Nat} {w0 : World} {r : Value × World} (h : g75 u0 u1 w0 = some r) : callF Try.prog 75 #[.pointer u0, .slice u1.1 u1.2.1 u1.2.2] w0 = some r :=
  callF_of_evFn (ann := g75_ann) Try.call75 (by kernel_rfl) ((g75_eq u0 u1 w0).trans h)

theorem g75_l2_x0_of {u0 : Option Addr} {u1 : Option Addr × Nat × Nat} {s t : Bool × Int} {w w' : World} (h : loopS (g75_l2_b u1 u0) s w = some (.exit 0, t, w')) : g75_l2 u0 u1 s w = g75_l2_x0 u1 t w' := by
  have h1 : g75_l2 u0 u1 s w = loopM Try.prog 42 75 g75_ann (cAt [1, 0, 1, 0, 0] (bodyOf Try.f75)) [0, 1, 0, 1] g75_K17 ((g75_l2_cs u0 u1) ++ sputs [(4, .b), (9, .i .i64)] s) w := by kernel_rfl
  have h2 : loopM Try.prog 42 75 g75_ann (cAt [1, 0, 1, 0, 0] (bodyOf Try.f75)) [0, 1, 0, 1] g75_K17 ((g75_l2_cs u0 u1) ++ sputs [(4, .b), (9, .i .i64)] s) w = g75_K17 (.exit 0) (puts 42 ((g75_l2_cs u0 u1) ++ sputs [(4, .b), (9, .i .i64)] t)) w' :=
    loop_rule (P := Try.prog) (N := 42) (f := 75) (ann := g75_ann) (body := (cAt [1, 0, 1, 0, 0] (bodyOf Try.f75))) (pt := [0, 1, 0, 1]) (K := g75_K17) (g75_l2_cs u0 u1) [(4, .b), (9, .i .i64)] (b := g75_l2_b u1 u0) (fun s w => by kernel_rfl) (by kernel_rfl) (by kernel_rfl) (by kernel_rfl) h
  have h3 : g75_K17 (.exit 0) (puts 42 ((g75_l2_cs u0 u1) ++ sputs [(4, .b), (9, .i .i64)] t)) w' = g75_l2_x0 u1 t w' := by kernel_rfl
  exact h1.trans (h2.trans h3)

theorem g75_l2_ret_of {u0 : Option Addr} {u1 : Option Addr × Nat × Nat} {s t : Bool × Int} {w w' : World} (h : loopS (g75_l2_b u1 u0) s w = some (.ret, t, w')) : g75_l2 u0 u1 s w = g75_l2_ret t w' := by
  have h1 : g75_l2 u0 u1 s w = loopM Try.prog 42 75 g75_ann (cAt [1, 0, 1, 0, 0] (bodyOf Try.f75)) [0, 1, 0, 1] g75_K17 ((g75_l2_cs u0 u1) ++ sputs [(4, .b), (9, .i .i64)] s) w := by kernel_rfl
  have h2 : loopM Try.prog 42 75 g75_ann (cAt [1, 0, 1, 0, 0] (bodyOf Try.f75)) [0, 1, 0, 1] g75_K17 ((g75_l2_cs u0 u1) ++ sputs [(4, .b), (9, .i .i64)] s) w = g75_K17 (.ret) (puts 42 ((g75_l2_cs u0 u1) ++ sputs [(4, .b), (9, .i .i64)] t)) w' :=
    loop_rule (P := Try.prog) (N := 42) (f := 75) (ann := g75_ann) (body := (cAt [1, 0, 1, 0, 0] (bodyOf Try.f75))) (pt := [0, 1, 0, 1]) (K := g75_K17) (g75_l2_cs u0 u1) [(4, .b), (9, .i .i64)] (b := g75_l2_b u1 u0) (fun s w => by kernel_rfl) (by kernel_rfl) (by kernel_rfl) (by kernel_rfl) h
  have h3 : g75_K17 (.ret) (puts 42 ((g75_l2_cs u0 u1) ++ sputs [(4, .b), (9, .i .i64)] t)) w' = g75_l2_ret t w' := by kernel_rfl
  exact h1.trans (h2.trans h3)

/-! 76: (*penstock/image.Image).settle (m: *image.Image, p: *api.Part) -/
def g76_ann : List (List Nat × List Nat) := [([0, 1, 0, 1], [0, 1, 15, 16, 17])]

def g76_l9_cs (u0 : Option Addr) (u1 : Option Addr) (q7 : Option Addr × Nat × Nat) : List (Nat × Value) := ([(0, .pointer u0), (1, .pointer u1), (15, .slice q7.1 q7.2.1 q7.2.2), (16, .int .i64 (q7.2.1 : Int))] : List (Nat × Value))

/-- the round of a loop ((*penstock/image.Image).settle) -/
noncomputable def g76_l9_b (q7 : Option Addr × Nat × Nat) (u1 : Option Addr) (u0 : Option Addr) (s10 : Int) (w11 : World) : Option (Exit × (Int) × World) :=
if (decide ((s10 : Int) < (q7.2.1 : Int))) = true then
((idxA q7.1 q7.2.1 1 s10).bind fun a12 =>
(World.cell? w11 a12).bind fun v13 =>
(asI .i64 v13).bind fun n14 =>
u1.bind fun a15 =>
(World.cell? w11 (Addr.add a15 3)).bind fun v16 =>
(asSl v16).bind fun q17 =>
(callF Try.prog 70 #[.slice q17.1 q17.2.1 q17.2.2, .int .i64 n14] w11).bind fun r18 =>
(asB r18.1).bind fun b19 =>
if (!b19) = true then
(some (.ret, s10, r18.2))
else
(some (.normal, (IntKind.i64.wrap (s10 + 1)), r18.2)))
else
(some ((.exit 0), s10, w11))

noncomputable def g76_K20  : Exit → Env → World → Option (Value × World) :=
  retK Try.prog Try.f76.results.toList

noncomputable def g76_K21  : Exit → Env → World → Option (Value × World) :=
  seqK (ev Try.prog 67 76 g76_ann (cAt [1, 1] (bodyOf Try.f76)) [1, 1] g76_K20) g76_K20

noncomputable def g76_K22  : Exit → Env → World → Option (Value × World) :=
  blkK 0 g76_K21

/-- the loop, from a state on -/
noncomputable def g76_l9 (u0 : Option Addr) (u1 : Option Addr) (q7 : Option Addr × Nat × Nat) (s : Int) (w : World) : Option (Value × World) :=
  loopM Try.prog 67 76 g76_ann (cAt [1, 0, 1, 0, 0] (bodyOf Try.f76)) [0, 1, 0, 1] g76_K22 ((g76_l9_cs u0 u1 q7) ++ sputs [(17, .i .i64)] s) w

noncomputable def g76_j47 (u1 : Option Addr) (u0 : Option Addr) (t23 : Int) (w24 : World) (x50 : Option Addr × Nat × Nat) (x51 : Option Addr × Nat × Nat) (w52 : World) : Option (Value × World) :=
u1.bind fun a53 =>
(st1 w52 (Addr.add a53 4) (.slice x50.1 x50.2.1 x50.2.2)).bind fun w56 =>
u1.bind fun a58 =>
(st1 w56 (Addr.add a58 3) (.slice x51.1 x51.2.1 x51.2.2)).bind fun w61 =>
u1.bind fun a63 =>
(st1 w61 (Addr.add a63 5) (.slice none 0 0)).bind fun w66 =>
u1.bind fun a68 =>
(World.cell? w66 (Addr.add a68 2)).bind fun v69 =>
(asI .i64 v69).bind fun n70 =>
u1.bind fun a71 =>
(st1 w66 (Addr.add a71 2) (.int .i64 (IntKind.i64.wrap (n70 + 1)))).bind fun w72 =>
u1.bind fun a73 =>
(World.cell? (World.drew w72) (Addr.add a73 3)).bind fun v74 =>
(asSl v74).bind fun q75 =>
u1.bind fun a76 =>
(World.cell? (World.drew w72) a76).bind fun v77 =>
(asI .i64 v77).bind fun n78 =>
(callF Try.prog 70 #[.slice q75.1 q75.2.1 q75.2.2, .int .i64 n78] (World.drew w72)).bind fun r79 =>
(asB r79.1).bind fun b80 =>
if (!b80) = true then
((callF Try.prog 71 #[.pointer u0, .pointer u1] r79.2).bind fun r81 =>
(asTup 0 r81.1).bind fun _ =>
some (.tuple #[], r81.2))
else
(some (.tuple #[], r79.2))

/-- behind the loop, left by x0 -/
noncomputable def g76_l9_x0 (u1 : Option Addr) (u0 : Option Addr) (t23 : Int) (w24 : World) : Option (Value × World) :=
u1.bind fun a29 =>
u1.bind fun a33 =>
(World.cell? (World.drew w24) (Addr.add a33 5)).bind fun v36 =>
(asSl v36).bind fun q37 =>
if (ahd (Region.schedule true (opsOf (cAt [1, 1, 0] (bodyOf Try.f76))) (World.tape w24 (World.drawn w24) (.order 76 6))) 6 11 && true) = true then
((World.cell? (World.drew w24) (Addr.add a29 5)).bind fun v39 =>
(asSl v39).bind fun q40 =>
(callF Try.prog 36 #[.slice q37.1 q37.2.1 q37.2.2] (World.drew w24)).bind fun r45 =>
(asSl r45.1).bind fun q46 =>
g76_j47 u1 u0 t23 w24 (q40.1, q40.2.1, q40.2.2) (q46.1, q46.2.1, q46.2.2) r45.2)
else
((callF Try.prog 36 #[.slice q37.1 q37.2.1 q37.2.2] (World.drew w24)).bind fun r42 =>
(asSl r42.1).bind fun q43 =>
(World.cell? r42.2 (Addr.add a29 5)).bind fun v48 =>
(asSl v48).bind fun q49 =>
g76_j47 u1 u0 t23 w24 (q49.1, q49.2.1, q49.2.2) (q43.1, q43.2.1, q43.2.2) r42.2)

/-- behind the loop, left by ret -/
noncomputable def g76_l9_ret  (t82 : Int) (w83 : World) : Option (Value × World) :=
some (.tuple #[], w83)

noncomputable def g76 (u0 : Option Addr) (u1 : Option Addr) (w0 : World) : Option (Value × World) :=
u1.bind fun a1 =>
(World.cell? w0 (Addr.add a1 5)).bind fun v2 =>
(asSl v2).bind fun q3 =>
if (((q3.2.1 : Int) : Int) == 0) = true then
(some (.tuple #[], w0))
else
(u1.bind fun a5 =>
(World.cell? w0 (Addr.add a5 5)).bind fun v6 =>
(asSl v6).bind fun q7 =>
g76_l9 u0 u1 q7 0 w0)

theorem g76_eq (u0 : Option Addr) (u1 : Option Addr) (w0 : World) : evFn Try.prog 76 g76_ann #[.pointer u0, .pointer u1] w0 = g76 u0 u1 w0 := by kernel_rfl

theorem g76_call {u0 : Option Addr} {u1 : Option Addr} {w0 : World} {r : Value × World} (h : g76 u0 u1 w0 = some r) : callF Try.prog 76 #[.pointer u0, .pointer u1] w0 = some r :=
  callF_of_evFn (ann := g76_ann) Try.call76 (by kernel_rfl) ((g76_eq u0 u1 w0).trans h)

theorem g76_l9_x0_of {u0 : Option Addr} {u1 : Option Addr} {q7 : Option Addr × Nat × Nat} {s t : Int} {w w' : World} (h : loopS (g76_l9_b q7 u1 u0) s w = some (.exit 0, t, w')) : g76_l9 u0 u1 q7 s w = g76_l9_x0 u1 u0 t w' := by
  have h1 : g76_l9 u0 u1 q7 s w = loopM Try.prog 67 76 g76_ann (cAt [1, 0, 1, 0, 0] (bodyOf Try.f76)) [0, 1, 0, 1] g76_K22 ((g76_l9_cs u0 u1 q7) ++ sputs [(17, .i .i64)] s) w := by kernel_rfl
  have h2 : loopM Try.prog 67 76 g76_ann (cAt [1, 0, 1, 0, 0] (bodyOf Try.f76)) [0, 1, 0, 1] g76_K22 ((g76_l9_cs u0 u1 q7) ++ sputs [(17, .i .i64)] s) w = g76_K22 (.exit 0) (puts 67 ((g76_l9_cs u0 u1 q7) ++ sputs [(17, .i .i64)] t)) w' :=
    loop_rule (P := Try.prog) (N := 67) (f := 76) (ann := g76_ann) (body := (cAt [1, 0, 1, 0, 0] (bodyOf Try.f76))) (pt := [0, 1, 0, 1]) (K := g76_K22) (g76_l9_cs u0 u1 q7) [(17, .i .i64)] (b := g76_l9_b q7 u1 u0) (fun s w => by kernel_rfl) (by kernel_rfl) (by kernel_rfl) (by kernel_rfl) h
  have h3 : g76_K22 (.exit 0) (puts 67 ((g76_l9_cs u0 u1 q7) ++ sputs [(17, .i .i64)] t)) w' = g76_l9_x0 u1 u0 t w' := by kernel_rfl
  exact h1.trans (h2.trans h3)

theorem g76_l9_ret_of {u0 : Option Addr} {u1 : Option Addr} {q7 : Option Addr × Nat × Nat} {s t : Int} {w w' : World} (h : loopS (g76_l9_b q7 u1 u0) s w = some (.ret, t, w')) : g76_l9 u0 u1 q7 s w = g76_l9_ret t w' := by
  have h1 : g76_l9 u0 u1 q7 s w = loopM Try.prog 67 76 g76_ann (cAt [1, 0, 1, 0, 0] (bodyOf Try.f76)) [0, 1, 0, 1] g76_K22 ((g76_l9_cs u0 u1 q7) ++ sputs [(17, .i .i64)] s) w := by kernel_rfl
  have h2 : loopM Try.prog 67 76 g76_ann (cAt [1, 0, 1, 0, 0] (bodyOf Try.f76)) [0, 1, 0, 1] g76_K22 ((g76_l9_cs u0 u1 q7) ++ sputs [(17, .i .i64)] s) w = g76_K22 (.ret) (puts 67 ((g76_l9_cs u0 u1 q7) ++ sputs [(17, .i .i64)] t)) w' :=
    loop_rule (P := Try.prog) (N := 67) (f := 76) (ann := g76_ann) (body := (cAt [1, 0, 1, 0, 0] (bodyOf Try.f76))) (pt := [0, 1, 0, 1]) (K := g76_K22) (g76_l9_cs u0 u1 q7) [(17, .i .i64)] (b := g76_l9_b q7 u1 u0) (fun s w => by kernel_rfl) (by kernel_rfl) (by kernel_rfl) (by kernel_rfl) h
  have h3 : g76_K22 (.ret) (puts 67 ((g76_l9_cs u0 u1 q7) ++ sputs [(17, .i .i64)] t)) w' = g76_l9_ret t w' := by kernel_rfl
  exact h1.trans (h2.trans h3)

/-! 77: (*penstock/gate.Counter).Block (c: *gate.Counter, n: uint64) -/
def g77_ann : List (List Nat × List Nat) := [([0, 1, 1], [0, 1, 4, 5])]

def g77_l1_cs (u0 : Option Addr) (u1 : Int) : List (Nat × Value) := ([(0, .pointer u0), (1, .int .u64 u1)] : List (Nat × Value))

/-- the round of a loop ((*penstock/gate.Counter).Block) -/
noncomputable def g77_l1_b (u0 : Option Addr) (u1 : Int) (s2 : Int × Bool) (w3 : World) : Option (Exit × (Int × Bool) × World) :=
u0.bind fun a4 =>
(callF Try.prog 78 #[.pointer (some a4)] w3).bind fun r5 =>
(asI .u64 r5.1).bind fun n6 =>
u0.bind fun a7 =>
(World.cell? r5.2 (Addr.add a7 1)).bind fun v8 =>
(asI .u64 v8).bind fun n9 =>
if (decide ((u1 : Int) > (IntKind.u64.wrap (n9 - n6)))) = true then
(some (.ret, (0, false), r5.2))
else
(u0.bind fun a10 =>
(callF Try.prog 99 #[.pointer (some a10), .int .u64 n6, .int .u64 (IntKind.u64.wrap (n6 + u1))] r5.2).bind fun r11 =>
(asB r11.1).bind fun b12 =>
if b12 = true then
(some (.ret, (n6, true), r11.2))
else
(some (.normal, (s2.1, s2.2), r11.2)))

noncomputable def g77_K13  : Exit → Env → World → Option (Value × World) :=
  retK Try.prog Try.f77.results.toList

noncomputable def g77_K14  : Exit → Env → World → Option (Value × World) :=
  blkK 0 g77_K13

/-- the loop, from a state on -/
noncomputable def g77_l1 (u0 : Option Addr) (u1 : Int) (s : Int × Bool) (w : World) : Option (Value × World) :=
  loopM Try.prog 34 77 g77_ann (cAt [1, 1, 0, 0] (bodyOf Try.f77)) [0, 1, 1] g77_K14 ((g77_l1_cs u0 u1) ++ sputs [(4, .i .u64), (5, .b)] s) w

/-- behind the loop, left by ret -/
noncomputable def g77_l1_ret  (t15 : Int × Bool) (w16 : World) : Option (Value × World) :=
some (.tuple #[.int .u64 t15.1, .bool t15.2], w16)

noncomputable def g77 (u0 : Option Addr) (u1 : Int) (w0 : World) : Option (Value × World) :=
if (u0.isNone) = true then
(some (.tuple #[.int .u64 0, .bool false], w0))
else
(if ((u1 : Int) == 0) = true then
(some (.tuple #[.int .u64 0, .bool false], w0))
else
(g77_l1 u0 u1 (0, false) w0))

theorem g77_eq (u0 : Option Addr) (u1 : Int) (w0 : World) : evFn Try.prog 77 g77_ann #[.pointer u0, .int .u64 u1] w0 = g77 u0 u1 w0 := by kernel_rfl

theorem g77_call {u0 : Option Addr} {u1 : Int} {w0 : World} {r : Value × World} (h : g77 u0 u1 w0 = some r) : callF Try.prog 77 #[.pointer u0, .int .u64 u1] w0 = some r :=
  callF_of_evFn (ann := g77_ann) Try.call77 (by kernel_rfl) ((g77_eq u0 u1 w0).trans h)

theorem g77_l1_ret_of {u0 : Option Addr} {u1 : Int} {s t : Int × Bool} {w w' : World} (h : loopS (g77_l1_b u0 u1) s w = some (.ret, t, w')) : g77_l1 u0 u1 s w = g77_l1_ret t w' := by
  have h1 : g77_l1 u0 u1 s w = loopM Try.prog 34 77 g77_ann (cAt [1, 1, 0, 0] (bodyOf Try.f77)) [0, 1, 1] g77_K14 ((g77_l1_cs u0 u1) ++ sputs [(4, .i .u64), (5, .b)] s) w := by kernel_rfl
  have h2 : loopM Try.prog 34 77 g77_ann (cAt [1, 1, 0, 0] (bodyOf Try.f77)) [0, 1, 1] g77_K14 ((g77_l1_cs u0 u1) ++ sputs [(4, .i .u64), (5, .b)] s) w = g77_K14 (.ret) (puts 34 ((g77_l1_cs u0 u1) ++ sputs [(4, .i .u64), (5, .b)] t)) w' :=
    loop_rule (P := Try.prog) (N := 34) (f := 77) (ann := g77_ann) (body := (cAt [1, 1, 0, 0] (bodyOf Try.f77))) (pt := [0, 1, 1]) (K := g77_K14) (g77_l1_cs u0 u1) [(4, .i .u64), (5, .b)] (b := g77_l1_b u0 u1) (fun s w => by kernel_rfl) (by kernel_rfl) (by kernel_rfl) (by kernel_rfl) h
  have h3 : g77_K14 (.ret) (puts 34 ((g77_l1_cs u0 u1) ++ sputs [(4, .i .u64), (5, .b)] t)) w' = g77_l1_ret t w' := by kernel_rfl
  exact h1.trans (h2.trans h3)

/-! 78: (*sync/atomic.Uint64).Load (x: *atomic.Uint64) -/
def g78_ann : List (List Nat × List Nat) := []

noncomputable def g78 (u0 : Option Addr) (w0 : World) : Option (Value × World) :=
u0.bind fun a1 =>
(callF Try.prog 100 #[.pointer (some a1)] w0).bind fun r2 =>
(asI .u64 r2.1).bind fun n3 =>
some (.int .u64 n3, r2.2)

theorem g78_eq (u0 : Option Addr) (w0 : World) : evFn Try.prog 78 g78_ann #[.pointer u0] w0 = g78 u0 w0 := by kernel_rfl

theorem g78_call {u0 : Option Addr} {w0 : World} {r : Value × World} (h : g78 u0 w0 = some r) : callF Try.prog 78 #[.pointer u0] w0 = some r :=
  callF_of_evFn (ann := g78_ann) Try.call78 (by kernel_rfl) ((g78_eq u0 w0).trans h)

/-! 95: slices.Index[[]int,int] (s: []int, v: int) -/
def g95_ann : List (List Nat × List Nat) := [([0, 1, 0, 1], [0, 1, 7, 4, 8])]

def g95_l2_cs (u0 : Option Addr × Nat × Nat) (u1 : Int) : List (Nat × Value) := ([(0, .slice u0.1 u0.2.1 u0.2.2), (1, .int .i64 u1), (7, .int .i64 (u0.2.1 : Int))] : List (Nat × Value))

/-- the round of a loop (slices.Index[[]int,int]) -/
noncomputable def g95_l2_b (u0 : Option Addr × Nat × Nat) (u1 : Int) (s3 : Int × Int) (w4 : World) : Option (Exit × (Int × Int) × World) :=
if (decide ((s3.2 : Int) < (u0.2.1 : Int))) = true then
((idxA u0.1 u0.2.1 1 s3.2).bind fun a5 =>
(World.cell? w4 a5).bind fun v6 =>
(asI .i64 v6).bind fun n7 =>
if ((u1 : Int) == n7) = true then
(some (.ret, (s3.2, s3.2), w4))
else
(some (.normal, (s3.1, (IntKind.i64.wrap (s3.2 + 1))), w4)))
else
(some ((.exit 0), (s3.1, s3.2), w4))

noncomputable def g95_K8  : Exit → Env → World → Option (Value × World) :=
  retK Try.prog Try.f95.results.toList

noncomputable def g95_K9  : Exit → Env → World → Option (Value × World) :=
  seqK (ev Try.prog 19 95 g95_ann (cAt [1, 1] (bodyOf Try.f95)) [1, 1] g95_K8) g95_K8

noncomputable def g95_K10  : Exit → Env → World → Option (Value × World) :=
  blkK 0 g95_K9

/-- the loop, from a state on -/
noncomputable def g95_l2 (u0 : Option Addr × Nat × Nat) (u1 : Int) (s : Int × Int) (w : World) : Option (Value × World) :=
  loopM Try.prog 19 95 g95_ann (cAt [1, 0, 1, 0, 0] (bodyOf Try.f95)) [0, 1, 0, 1] g95_K10 ((g95_l2_cs u0 u1) ++ sputs [(4, .i .i64), (8, .i .i64)] s) w

/-- behind the loop, left by x0 -/
noncomputable def g95_l2_x0  (t11 : Int × Int) (w12 : World) : Option (Value × World) :=
some (.int .i64 (-1), w12)

/-- behind the loop, left by ret -/
noncomputable def g95_l2_ret  (t13 : Int × Int) (w14 : World) : Option (Value × World) :=
some (.int .i64 t13.1, w14)

noncomputable def g95 (u0 : Option Addr × Nat × Nat) (u1 : Int) (w0 : World) : Option (Value × World) :=
g95_l2 u0 u1 (0, 0) w0

theorem g95_eq (u0 : Option Addr × Nat × Nat) (u1 : Int) (w0 : World) : evFn Try.prog 95 g95_ann #[.slice u0.1 u0.2.1 u0.2.2, .int .i64 u1] w0 = g95 u0 u1 w0 := by kernel_rfl

theorem g95_call {u0 : Option Addr × Nat × Nat} {u1 : Int} {w0 : World} {r : Value × World} (h : g95 u0 u1 w0 = some r) : callF Try.prog 95 #[.slice u0.1 u0.2.1 u0.2.2, .int .i64 u1] w0 = some r :=
  callF_of_evFn (ann := g95_ann) Try.call95 (by kernel_rfl) ((g95_eq u0 u1 w0).trans h)

theorem g95_l2_x0_of {u0 : Option Addr × Nat × Nat} {u1 : Int} {s t : Int × Int} {w w' : World} (h : loopS (g95_l2_b u0 u1) s w = some (.exit 0, t, w')) : g95_l2 u0 u1 s w = g95_l2_x0 t w' := by
  have h1 : g95_l2 u0 u1 s w = loopM Try.prog 19 95 g95_ann (cAt [1, 0, 1, 0, 0] (bodyOf Try.f95)) [0, 1, 0, 1] g95_K10 ((g95_l2_cs u0 u1) ++ sputs [(4, .i .i64), (8, .i .i64)] s) w := by kernel_rfl
  have h2 : loopM Try.prog 19 95 g95_ann (cAt [1, 0, 1, 0, 0] (bodyOf Try.f95)) [0, 1, 0, 1] g95_K10 ((g95_l2_cs u0 u1) ++ sputs [(4, .i .i64), (8, .i .i64)] s) w = g95_K10 (.exit 0) (puts 19 ((g95_l2_cs u0 u1) ++ sputs [(4, .i .i64), (8, .i .i64)] t)) w' :=
    loop_rule (P := Try.prog) (N := 19) (f := 95) (ann := g95_ann) (body := (cAt [1, 0, 1, 0, 0] (bodyOf Try.f95))) (pt := [0, 1, 0, 1]) (K := g95_K10) (g95_l2_cs u0 u1) [(4, .i .i64), (8, .i .i64)] (b := g95_l2_b u0 u1) (fun s w => by kernel_rfl) (by kernel_rfl) (by kernel_rfl) (by kernel_rfl) h
  have h3 : g95_K10 (.exit 0) (puts 19 ((g95_l2_cs u0 u1) ++ sputs [(4, .i .i64), (8, .i .i64)] t)) w' = g95_l2_x0 t w' := by kernel_rfl
  exact h1.trans (h2.trans h3)

theorem g95_l2_ret_of {u0 : Option Addr × Nat × Nat} {u1 : Int} {s t : Int × Int} {w w' : World} (h : loopS (g95_l2_b u0 u1) s w = some (.ret, t, w')) : g95_l2 u0 u1 s w = g95_l2_ret t w' := by
  have h1 : g95_l2 u0 u1 s w = loopM Try.prog 19 95 g95_ann (cAt [1, 0, 1, 0, 0] (bodyOf Try.f95)) [0, 1, 0, 1] g95_K10 ((g95_l2_cs u0 u1) ++ sputs [(4, .i .i64), (8, .i .i64)] s) w := by kernel_rfl
  have h2 : loopM Try.prog 19 95 g95_ann (cAt [1, 0, 1, 0, 0] (bodyOf Try.f95)) [0, 1, 0, 1] g95_K10 ((g95_l2_cs u0 u1) ++ sputs [(4, .i .i64), (8, .i .i64)] s) w = g95_K10 (.ret) (puts 19 ((g95_l2_cs u0 u1) ++ sputs [(4, .i .i64), (8, .i .i64)] t)) w' :=
    loop_rule (P := Try.prog) (N := 19) (f := 95) (ann := g95_ann) (body := (cAt [1, 0, 1, 0, 0] (bodyOf Try.f95))) (pt := [0, 1, 0, 1]) (K := g95_K10) (g95_l2_cs u0 u1) [(4, .i .i64), (8, .i .i64)] (b := g95_l2_b u0 u1) (fun s w => by kernel_rfl) (by kernel_rfl) (by kernel_rfl) (by kernel_rfl) h
  have h3 : g95_K10 (.ret) (puts 19 ((g95_l2_cs u0 u1) ++ sputs [(4, .i .i64), (8, .i .i64)] t)) w' = g95_l2_ret t w' := by kernel_rfl
  exact h1.trans (h2.trans h3)

/-! 99: (*sync/atomic.Uint64).CompareAndSwap (x: *atomic.Uint64, old: uint64, new: uint64) -/
def g99_ann : List (List Nat × List Nat) := []

noncomputable def g99 (u0 : Option Addr) (u1 : Int) (u2 : Int) (w0 : World) : Option (Value × World) :=
u0.bind fun a1 =>
(callF Try.prog 107 #[.pointer (some a1), .int .u64 u1, .int .u64 u2] w0).bind fun r2 =>
(asB r2.1).bind fun b3 =>
some (.bool b3, r2.2)

theorem g99_eq (u0 : Option Addr) (u1 : Int) (u2 : Int) (w0 : World) : evFn Try.prog 99 g99_ann #[.pointer u0, .int .u64 u1, .int .u64 u2] w0 = g99 u0 u1 u2 w0 := by kernel_rfl

theorem g99_call {u0 : Option Addr} {u1 : Int} {u2 : Int} {w0 : World} {r : Value × World} (h : g99 u0 u1 u2 w0 = some r) : callF Try.prog 99 #[.pointer u0, .int .u64 u1, .int .u64 u2] w0 = some r :=
  callF_of_evFn (ann := g99_ann) Try.call99 (by kernel_rfl) ((g99_eq u0 u1 u2 w0).trans h)

end Go.Proofs.Ytjcenfgmpbeldaa
