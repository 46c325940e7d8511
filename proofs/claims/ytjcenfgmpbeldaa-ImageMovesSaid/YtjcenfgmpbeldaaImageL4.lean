/-
  ImageL4: lemmas on what Go functions of this seat come to (for whatever arguments, as each says). No condition but those that stand in each lemma.
-/
import Derived.Test.YtjcenfgmpbeldaaImageT
namespace Go.Proofs.Ytjcenfgmpbeldaa
open Go Go.Ev
set_option maxRecDepth 100000
set_option linter.unusedVariables false
/-! 4: penstock/penstocklaw13.ImageMoves (l: []api.Cmd, part: uint8, to: []uint8) -/
def g4_ann : List (List Nat × List Nat) := [([0, 1, 0, 1, 1, 1, 1, 1], [2, 6, 7, 8, 9, 10]), ([0, 1, 0, 0, 1, 0, 0, 1, 0, 1, 1, 1, 1, 1], [2, 6, 7, 8, 10, 40, 41, 9, 42]), ([0, 1, 0, 1, 1, 1, 1, 1, 1, 1, 1, 1, 1], [6, 7, 8, 9, 13, 15, 100, 101, 16, 102]), ([0, 1, 0, 1, 1, 1, 1, 1, 1, 1, 1, 1, 1, 1, 1, 1, 1, 1], [7, 8, 9, 19, 6, 21, 22]), ([0, 1, 0, 1, 1, 1, 1, 1, 1, 1, 1, 1, 1, 1, 1, 1, 1, 1], [7, 8, 9, 19, 6, 21, 22]), ([0, 1, 0, 1, 1, 1, 1, 1, 1, 1, 1, 1, 1, 1, 1, 1, 1, 1], [7, 8, 9, 19, 6, 21, 22]), ([0, 1, 0, 1, 1, 1, 1, 1, 1, 1, 1, 1, 1, 1, 1, 1, 1, 1], [7, 8, 9, 19, 6, 21, 22])]

def g4_l5_cs (u2 : Option Addr × Nat × Nat) (p4 : Option Addr) (u1 : Int) : List (Nat × Value) := ([(2, .slice u2.1 u2.2.1 u2.2.2), (6, .bool false), (7, .pointer p4), (8, .int .i64 (IntKind.i64.wrap (Int.tmod u1 4)))] : List (Nat × Value))

def g4_l9_cs (u2 : Option Addr × Nat × Nat) (p4 : Option Addr) (u1 : Int) (s6 : (Option Addr × Nat × Nat) × Int) : List (Nat × Value) := ([(2, .slice u2.1 u2.2.1 u2.2.2), (6, .bool false), (7, .pointer p4), (8, .int .i64 (IntKind.i64.wrap (Int.tmod u1 4))), (10, .int .i64 s6.2), (40, .slice u2.1 u2.2.1 u2.2.2), (41, .int .i64 (u2.2.1 : Int))] : List (Nat × Value))

/-- the round of a loop (penstock/penstocklaw13.ImageMoves) -/
noncomputable def g4_l9_b (u2 : Option Addr × Nat × Nat) (s6 : (Option Addr × Nat × Nat) × Int) (p4 : Option Addr) (u1 : Int) (s10 : (Option Addr × Nat × Nat) × Int) (w11 : World) : Option (Exit × ((Option Addr × Nat × Nat) × Int) × World) :=
if (decide ((s10.2 : Int) < (u2.2.1 : Int))) = true then
((idxA u2.1 u2.2.1 1 s10.2).bind fun a12 =>
(World.cell? w11 a12).bind fun v13 =>
(asI .u8 v13).bind fun n14 =>
if (((IntKind.i64.wrap (Int.tmod n14 5)) : Int) == s6.2) = true then
((callF Try.prog 17 #[.slice s10.1.1 s10.1.2.1 s10.1.2.2, .int .i64 s6.2] w11).bind fun r15 =>
(asB r15.1).bind fun b16 =>
if (!b16) = true then
((callB Try.prog .append #[28, 28] 28 #[false, false] #[.slice s10.1.1 s10.1.2.1 s10.1.2.2, .slice (some (⟨r15.2.heap.size, 0, none⟩)) 1 1] (World.alloc r15.2 (.cells #[.int .i64 s6.2] 3))).bind fun r17 =>
(asSl r17.1).bind fun q18 =>
some (.normal, ((q18.1, q18.2.1, q18.2.2), (IntKind.i64.wrap (s10.2 + 1))), r17.2))
else
(some (.normal, ((s10.1.1, s10.1.2.1, s10.1.2.2), (IntKind.i64.wrap (s10.2 + 1))), r15.2)))
else
(some (.normal, ((s10.1.1, s10.1.2.1, s10.1.2.2), (IntKind.i64.wrap (s10.2 + 1))), w11)))
else
(some ((.exit 2), ((s10.1.1, s10.1.2.1, s10.1.2.2), s10.2), w11))

noncomputable def g4_K19 (u2 : Option Addr × Nat × Nat) (p4 : Option Addr) (u1 : Int) : Exit → Env → World → Option (Exit × ((Option Addr × Nat × Nat) × Int) × World) :=
  fun e ρ w => ((List.map (·.1) (g4_l5_cs u2 p4 u1)).mapM ρ).bind fun _ => loopK [(9, .sl), (10, .i .i64)] e ρ w

noncomputable def g4_K20 (u2 : Option Addr × Nat × Nat) (p4 : Option Addr) (u1 : Int) : Exit → Env → World → Option (Exit × ((Option Addr × Nat × Nat) × Int) × World) :=
  seqK (ev Try.prog 248 4 g4_ann (cAt [1, 1, 1, 1, 1, 0, 1, 0, 0, 1, 1] (bodyOf Try.f4)) [1, 1, 0, 0, 1, 0, 1, 1, 1, 1, 1] (g4_K19 u2 p4 u1)) (g4_K19 u2 p4 u1)

noncomputable def g4_K21 (u2 : Option Addr × Nat × Nat) (p4 : Option Addr) (u1 : Int) : Exit → Env → World → Option (Exit × ((Option Addr × Nat × Nat) × Int) × World) :=
  blkK 1 (g4_K20 u2 p4 u1)

noncomputable def g4_K22 (u2 : Option Addr × Nat × Nat) (p4 : Option Addr) (u1 : Int) : Exit → Env → World → Option (Exit × ((Option Addr × Nat × Nat) × Int) × World) :=
  blkK 2 (g4_K21 u2 p4 u1)

/-- the loop, from a state on -/
noncomputable def g4_l9 (u2 : Option Addr × Nat × Nat) (p4 : Option Addr) (u1 : Int) (s6 : (Option Addr × Nat × Nat) × Int) (s : (Option Addr × Nat × Nat) × Int) (w : World) : Option (Exit × ((Option Addr × Nat × Nat) × Int) × World) :=
  loopM Try.prog 248 4 g4_ann (cAt [1, 1, 1, 1, 1, 0, 1, 0, 0, 1, 0, 0, 1, 0, 0] (bodyOf Try.f4)) [0, 1, 0, 0, 1, 0, 0, 1, 0, 1, 1, 1, 1, 1] (g4_K22 u2 p4 u1) ((g4_l9_cs u2 p4 u1 s6) ++ sputs [(9, .sl), (42, .i .i64)] s) w

/-- behind the loop, left by x2 -/
noncomputable def g4_l9_x2 (s6 : (Option Addr × Nat × Nat) × Int) (t23 : (Option Addr × Nat × Nat) × Int) (w24 : World) : Option (Exit × ((Option Addr × Nat × Nat) × Int) × World) :=
some (.normal, ((t23.1.1, t23.1.2.1, t23.1.2.2), (IntKind.i64.wrap (s6.2 + 1))), w24)

/-- the round of a loop (penstock/penstocklaw13.ImageMoves) -/
noncomputable def g4_l5_b (u2 : Option Addr × Nat × Nat) (p4 : Option Addr) (u1 : Int) (s6 : (Option Addr × Nat × Nat) × Int) (w7 : World) : Option (Exit × ((Option Addr × Nat × Nat) × Int) × World) :=
if (decide ((s6.2 : Int) < 5)) = true then
(g4_l9 u2 p4 u1 s6 ((s6.1.1, s6.1.2.1, s6.1.2.2), 0) w7)
else
(some ((.exit 0), ((s6.1.1, s6.1.2.1, s6.1.2.2), s6.2), w7))

noncomputable def g4_K25  : Exit → Env → World → Option (Value × World) :=
  retK Try.prog Try.f4.results.toList

noncomputable def g4_K26  : Exit → Env → World → Option (Value × World) :=
  seqK (ev Try.prog 248 4 g4_ann (cAt [1, 1, 1, 1, 1, 1] (bodyOf Try.f4)) [1, 1, 1, 1, 1, 1] g4_K25) g4_K25

noncomputable def g4_K27  : Exit → Env → World → Option (Value × World) :=
  blkK 0 g4_K26

/-- the loop, from a state on -/
noncomputable def g4_l5 (u2 : Option Addr × Nat × Nat) (p4 : Option Addr) (u1 : Int) (s : (Option Addr × Nat × Nat) × Int) (w : World) : Option (Value × World) :=
  loopM Try.prog 248 4 g4_ann (cAt [1, 1, 1, 1, 1, 0, 1, 0, 0] (bodyOf Try.f4)) [0, 1, 0, 1, 1, 1, 1, 1] g4_K27 ((g4_l5_cs u2 p4 u1) ++ sputs [(9, .sl), (10, .i .i64)] s) w

def g4_l56_cs (p4 : Option Addr) (u1 : Int) (t28 : (Option Addr × Nat × Nat) × Int) (r30 : Value × World) (n44 : Int) : List (Nat × Value) := ([(6, .bool false), (7, .pointer p4), (8, .int .i64 (IntKind.i64.wrap (Int.tmod u1 4))), (9, .slice t28.1.1 t28.1.2.1 t28.1.2.2), (13, .pointer (some (⟨r30.2.heap.size, 0, none⟩))), (15, .int .i64 n44), (100, .slice t28.1.1 t28.1.2.1 t28.1.2.2), (101, .int .i64 (t28.1.2.1 : Int))] : List (Nat × Value))

/-- the round of a loop (penstock/penstocklaw13.ImageMoves) -/
noncomputable def g4_l56_b (t28 : (Option Addr × Nat × Nat) × Int) (r30 : Value × World) (p4 : Option Addr) (u1 : Int) (n44 : Int) (s57 : Bool × Int) (w58 : World) : Option (Exit × (Bool × Int) × World) :=
if (decide ((s57.2 : Int) < (t28.1.2.1 : Int))) = true then
((idxA t28.1.1 t28.1.2.1 1 s57.2).bind fun a59 =>
(World.cell? w58 a59).bind fun v60 =>
(asI .i64 v60).bind fun n61 =>
if s57.1 = true then
((World.cell? w58 (Addr.add (⟨r30.2.heap.size, 0, none⟩) 3)).bind fun v62 =>
(asSl v62).bind fun q63 =>
(callF Try.prog 17 #[.slice q63.1 q63.2.1 q63.2.2, .int .i64 n61] w58).bind fun r64 =>
(asB r64.1).bind fun b65 =>
some (.normal, (b65, (IntKind.i64.wrap (s57.2 + 1))), r64.2))
else
(some (.normal, (false, (IntKind.i64.wrap (s57.2 + 1))), w58)))
else
(some ((.exit 4), (s57.1, s57.2), w58))

noncomputable def g4_K66  : Exit → Env → World → Option (Value × World) :=
  seqK (ev Try.prog 248 4 g4_ann (cAt [1, 1, 1, 1, 1, 1, 1, 1, 1, 1, 1] (bodyOf Try.f4)) [1, 1, 1, 1, 1, 1, 1, 1, 1, 1, 1] g4_K25) g4_K25

noncomputable def g4_K67  : Exit → Env → World → Option (Value × World) :=
  blkK 4 g4_K66

/-- the loop, from a state on -/
noncomputable def g4_l56 (p4 : Option Addr) (u1 : Int) (t28 : (Option Addr × Nat × Nat) × Int) (r30 : Value × World) (n44 : Int) (s : Bool × Int) (w : World) : Option (Value × World) :=
  loopM Try.prog 248 4 g4_ann (cAt [1, 1, 1, 1, 1, 1, 1, 1, 1, 1, 0, 1, 0, 0] (bodyOf Try.f4)) [0, 1, 0, 1, 1, 1, 1, 1, 1, 1, 1, 1, 1] g4_K67 ((g4_l56_cs p4 u1 t28 r30 n44) ++ sputs [(16, .b), (102, .i .i64)] s) w

def g4_l98_cs (p4 : Option Addr) (u1 : Int) (t28 : (Option Addr × Nat × Nat) × Int) (r70 : Value × World) : List (Nat × Value) := ([(7, .pointer p4), (8, .int .i64 (IntKind.i64.wrap (Int.tmod u1 4))), (9, .slice t28.1.1 t28.1.2.1 t28.1.2.2), (19, .pointer (some (⟨r70.2.heap.size, 0, none⟩)))] : List (Nat × Value))

/-- the round of a loop (penstock/penstocklaw13.ImageMoves) -/
noncomputable def g4_l98_b (p4 : Option Addr) (t28 : (Option Addr × Nat × Nat) × Int) (r70 : Value × World) (u1 : Int) (s99 : Bool × (Option Addr × Nat × Nat) × Int) (w100 : World) : Option (Exit × (Bool × (Option Addr × Nat × Nat) × Int) × World) :=
if (decide ((s99.2.2 : Int) < 5)) = true then
((callF Try.prog 16 #[.pointer p4, .int .i64 s99.2.2] w100).bind fun r101 =>
(asTup 3 r101.1).bind fun l102 =>
(asB (l102.getD 0 undef)).bind fun b103 =>
(asI .i64 (l102.getD 1 undef)).bind fun n104 =>
(asI .u64 (l102.getD 2 undef)).bind fun n105 =>
(callF Try.prog 17 #[.slice t28.1.1 t28.1.2.1 t28.1.2.2, .int .i64 s99.2.2] r101.2).bind fun r106 =>
(asB r106.1).bind fun b107 =>
if b107 = true then
(if (!b103) = true then
((World.cell? r106.2 (Addr.add (⟨r70.2.heap.size, 0, none⟩) 3)).bind fun v108 =>
(asSl v108).bind fun q109 =>
(callF Try.prog 17 #[.slice q109.1 q109.2.1 q109.2.2, .int .i64 s99.2.2] r106.2).bind fun r110 =>
(asB r110.1).bind fun b111 =>
if (!b111) = true then
(some (.ret, (true, (s99.2.1.1, s99.2.1.2.1, s99.2.1.2.2), s99.2.2), r110.2))
else
((callF Try.prog 17 #[.slice t28.1.1 t28.1.2.1 t28.1.2.2, .int .i64 s99.2.2] r110.2).bind fun r112 =>
(asB r112.1).bind fun b113 =>
if b113 = true then
((callB Try.prog .append #[28, 28] 28 #[false, false] #[.slice s99.2.1.1 s99.2.1.2.1 s99.2.1.2.2, .slice (some (⟨r112.2.heap.size, 0, none⟩)) 1 1] (World.alloc r112.2 (.cells #[.int .i64 s99.2.2] 3))).bind fun r114 =>
(asSl r114.1).bind fun q115 =>
some (.normal, (s99.1, (q115.1, q115.2.1, q115.2.2), (IntKind.i64.wrap (s99.2.2 + 1))), r114.2))
else
((World.cell? r112.2 (Addr.add (⟨r70.2.heap.size, 0, none⟩) 3)).bind fun v116 =>
(asSl v116).bind fun q117 =>
(callF Try.prog 17 #[.slice q117.1 q117.2.1 q117.2.2, .int .i64 s99.2.2] r112.2).bind fun r118 =>
(asB r118.1).bind fun b119 =>
if b119 = true then
((callB Try.prog .append #[28, 28] 28 #[false, false] #[.slice s99.2.1.1 s99.2.1.2.1 s99.2.1.2.2, .slice (some (⟨r118.2.heap.size, 0, none⟩)) 1 1] (World.alloc r118.2 (.cells #[.int .i64 s99.2.2] 3))).bind fun r120 =>
(asSl r120.1).bind fun q121 =>
some (.normal, (s99.1, (q121.1, q121.2.1, q121.2.2), (IntKind.i64.wrap (s99.2.2 + 1))), r120.2))
else
(some (.normal, (s99.1, (s99.2.1.1, s99.2.1.2.1, s99.2.1.2.2), (IntKind.i64.wrap (s99.2.2 + 1))), r118.2)))))
else
((callF Try.prog 17 #[.slice t28.1.1 t28.1.2.1 t28.1.2.2, .int .i64 s99.2.2] r106.2).bind fun r122 =>
(asB r122.1).bind fun b123 =>
if b123 = true then
((callB Try.prog .append #[28, 28] 28 #[false, false] #[.slice s99.2.1.1 s99.2.1.2.1 s99.2.1.2.2, .slice (some (⟨r122.2.heap.size, 0, none⟩)) 1 1] (World.alloc r122.2 (.cells #[.int .i64 s99.2.2] 3))).bind fun r124 =>
(asSl r124.1).bind fun q125 =>
some (.normal, (s99.1, (q125.1, q125.2.1, q125.2.2), (IntKind.i64.wrap (s99.2.2 + 1))), r124.2))
else
((World.cell? r122.2 (Addr.add (⟨r70.2.heap.size, 0, none⟩) 3)).bind fun v126 =>
(asSl v126).bind fun q127 =>
(callF Try.prog 17 #[.slice q127.1 q127.2.1 q127.2.2, .int .i64 s99.2.2] r122.2).bind fun r128 =>
(asB r128.1).bind fun b129 =>
if b129 = true then
((callB Try.prog .append #[28, 28] 28 #[false, false] #[.slice s99.2.1.1 s99.2.1.2.1 s99.2.1.2.2, .slice (some (⟨r128.2.heap.size, 0, none⟩)) 1 1] (World.alloc r128.2 (.cells #[.int .i64 s99.2.2] 3))).bind fun r130 =>
(asSl r130.1).bind fun q131 =>
some (.normal, (s99.1, (q131.1, q131.2.1, q131.2.2), (IntKind.i64.wrap (s99.2.2 + 1))), r130.2))
else
(some (.normal, (s99.1, (s99.2.1.1, s99.2.1.2.1, s99.2.1.2.2), (IntKind.i64.wrap (s99.2.2 + 1))), r128.2)))))
else
((callF Try.prog 17 #[.slice t28.1.1 t28.1.2.1 t28.1.2.2, .int .i64 s99.2.2] r106.2).bind fun r132 =>
(asB r132.1).bind fun b133 =>
if b133 = true then
((callB Try.prog .append #[28, 28] 28 #[false, false] #[.slice s99.2.1.1 s99.2.1.2.1 s99.2.1.2.2, .slice (some (⟨r132.2.heap.size, 0, none⟩)) 1 1] (World.alloc r132.2 (.cells #[.int .i64 s99.2.2] 3))).bind fun r134 =>
(asSl r134.1).bind fun q135 =>
some (.normal, (s99.1, (q135.1, q135.2.1, q135.2.2), (IntKind.i64.wrap (s99.2.2 + 1))), r134.2))
else
((World.cell? r132.2 (Addr.add (⟨r70.2.heap.size, 0, none⟩) 3)).bind fun v136 =>
(asSl v136).bind fun q137 =>
(callF Try.prog 17 #[.slice q137.1 q137.2.1 q137.2.2, .int .i64 s99.2.2] r132.2).bind fun r138 =>
(asB r138.1).bind fun b139 =>
if b139 = true then
((callB Try.prog .append #[28, 28] 28 #[false, false] #[.slice s99.2.1.1 s99.2.1.2.1 s99.2.1.2.2, .slice (some (⟨r138.2.heap.size, 0, none⟩)) 1 1] (World.alloc r138.2 (.cells #[.int .i64 s99.2.2] 3))).bind fun r140 =>
(asSl r140.1).bind fun q141 =>
some (.normal, (s99.1, (q141.1, q141.2.1, q141.2.2), (IntKind.i64.wrap (s99.2.2 + 1))), r140.2))
else
(some (.normal, (s99.1, (s99.2.1.1, s99.2.1.2.1, s99.2.1.2.2), (IntKind.i64.wrap (s99.2.2 + 1))), r138.2)))))
else
(some ((.exit 6), (s99.1, (s99.2.1.1, s99.2.1.2.1, s99.2.1.2.2), s99.2.2), w100))

noncomputable def g4_K142  : Exit → Env → World → Option (Value × World) :=
  seqK (ev Try.prog 248 4 g4_ann (cAt [1, 1, 1, 1, 1, 1, 1, 1, 1, 1, 1, 1, 1, 1, 1, 1] (bodyOf Try.f4)) [1, 1, 1, 1, 1, 1, 1, 1, 1, 1, 1, 1, 1, 1, 1, 1] g4_K25) g4_K25

noncomputable def g4_K143  : Exit → Env → World → Option (Value × World) :=
  blkK 6 g4_K142

/-- the loop, from a state on -/
noncomputable def g4_l98 (p4 : Option Addr) (u1 : Int) (t28 : (Option Addr × Nat × Nat) × Int) (r70 : Value × World) (s : Bool × (Option Addr × Nat × Nat) × Int) (w : World) : Option (Value × World) :=
  loopM Try.prog 248 4 g4_ann (cAt [1, 1, 1, 1, 1, 1, 1, 1, 1, 1, 1, 1, 1, 1, 1, 0, 1, 0, 0] (bodyOf Try.f4)) [0, 1, 0, 1, 1, 1, 1, 1, 1, 1, 1, 1, 1, 1, 1, 1, 1, 1] g4_K143 ((g4_l98_cs p4 u1 t28 r70) ++ sputs [(6, .b), (21, .sl), (22, .i .i64)] s) w

noncomputable def g4_j253 (t28 : (Option Addr × Nat × Nat) × Int) (t144 : Bool × (Option Addr × Nat × Nat) × Int) (w164 : World) (x254 : Bool) (w255 : World) : Option (Value × World) :=
some (.bool x254, w255)

noncomputable def g4_j246a (t144 : Bool × (Option Addr × Nat × Nat) × Int) (t28 : (Option Addr × Nat × Nat) × Int) (w164 : World) (x249 : Bool) (x250 : Bool) (w251 : World) : Option (Value × World) :=
g4_j253 t28 t144 w164 (x249 == x250) w251

noncomputable def g4_j236a (t144 : Bool × (Option Addr × Nat × Nat) × Int) (t28 : (Option Addr × Nat × Nat) × Int) (w164 : World) (x242 : Bool) (x243 : Int) (x244 : Int) (w245 : World) : Option (Value × World) :=
g4_j246a t144 t28 w164 x242 ((x243 : Int) == x244) w245

noncomputable def g4_j220a (r70 : Value × World) (t144 : Bool × (Option Addr × Nat × Nat) × Int) (t28 : (Option Addr × Nat × Nat) × Int) (w164 : World) (x231 : Bool) (x232 : Int) (w233 : World) : Option (Value × World) :=
(World.cell? w233 (Addr.add (⟨r70.2.heap.size, 0, none⟩) 1)).bind fun v234 =>
(asI .i64 v234).bind fun n235 =>
g4_j236a t144 t28 w164 x231 x232 n235 w233

noncomputable def g4_j225a (t144 : Bool × (Option Addr × Nat × Nat) × Int) (t28 : (Option Addr × Nat × Nat) × Int) (n205 : Int) (w190 : World) (w164 : World) (x237 : Int) (x238 : Int) : Option (Value × World) :=
(callF Try.prog 17 #[.slice t28.1.1 t28.1.2.1 t28.1.2.2, .int .i64 n205] w190).bind fun r247 =>
(asB r247.1).bind fun b248 =>
g4_j246a t144 t28 w164 b248 ((x237 : Int) == x238) r247.2

noncomputable def g4_j246b (t144 : Bool × (Option Addr × Nat × Nat) × Int) (t28 : (Option Addr × Nat × Nat) × Int) (w190 : World) (w164 : World) : Option (Value × World) :=
g4_j253 t28 t144 w164 false w190

noncomputable def g4_j236b (t144 : Bool × (Option Addr × Nat × Nat) × Int) (t28 : (Option Addr × Nat × Nat) × Int) (w190 : World) (w164 : World) : Option (Value × World) :=
g4_j246b t144 t28 w190 w164

noncomputable def g4_j220b (t144 : Bool × (Option Addr × Nat × Nat) × Int) (t28 : (Option Addr × Nat × Nat) × Int) (w190 : World) (w164 : World) : Option (Value × World) :=
g4_j236b t144 t28 w190 w164

noncomputable def g4_j225b (t144 : Bool × (Option Addr × Nat × Nat) × Int) (t28 : (Option Addr × Nat × Nat) × Int) (w190 : World) (w164 : World) : Option (Value × World) :=
g4_j246b t144 t28 w190 w164

noncomputable def g4_j199 (t144 : Bool × (Option Addr × Nat × Nat) × Int) (t28 : (Option Addr × Nat × Nat) × Int) (r70 : Value × World) (r154 : Value × World) (w190 : World) (w164 : World) (x200 : Bool) : Option (Value × World) :=
if x200 = true then
((World.cell? w190 (⟨r70.2.heap.size, 0, none⟩)).bind fun v204 =>
(asI .i64 v204).bind fun n205 =>
if (ahd (Region.schedule true (opsOf (cAt [1, 1, 1, 1, 1, 1, 1, 1, 1, 1, 1, 1, 1, 1, 1, 1, 1, 1, 0] (bodyOf Try.f4))) (World.tape w164 (World.drawn w164) (.order 4 41))) 24 26 && (ahd (Region.schedule true (opsOf (cAt [1, 1, 1, 1, 1, 1, 1, 1, 1, 1, 1, 1, 1, 1, 1, 1, 1, 1, 0] (bodyOf Try.f4))) (World.tape w164 (World.drawn w164) (.order 4 41))) 24 28 && true)) = true then
((callF Try.prog 17 #[.slice t28.1.1 t28.1.2.1 t28.1.2.2, .int .i64 n205] w190).bind fun r209 =>
(asB r209.1).bind fun b210 =>
(World.cell? r209.2 (Addr.add (⟨r154.2.heap.size, 0, none⟩) 1)).bind fun v218 =>
(asI .i64 v218).bind fun n219 =>
g4_j220a r70 t144 t28 w164 b210 n219 r209.2)
else
(if (ahd (Region.schedule true (opsOf (cAt [1, 1, 1, 1, 1, 1, 1, 1, 1, 1, 1, 1, 1, 1, 1, 1, 1, 1, 0] (bodyOf Try.f4))) (World.tape w164 (World.drawn w164) (.order 4 41))) 26 28 && true) = true then
((World.cell? w190 (Addr.add (⟨r154.2.heap.size, 0, none⟩) 1)).bind fun v212 =>
(asI .i64 v212).bind fun n213 =>
if (ahd (Region.schedule true (opsOf (cAt [1, 1, 1, 1, 1, 1, 1, 1, 1, 1, 1, 1, 1, 1, 1, 1, 1, 1, 0] (bodyOf Try.f4))) (World.tape w164 (World.drawn w164) (.order 4 41))) 24 28 && true) = true then
((callF Try.prog 17 #[.slice t28.1.1 t28.1.2.1 t28.1.2.2, .int .i64 n205] w190).bind fun r221 =>
(asB r221.1).bind fun b222 =>
g4_j220a r70 t144 t28 w164 b222 n213 r221.2)
else
((World.cell? w190 (Addr.add (⟨r70.2.heap.size, 0, none⟩) 1)).bind fun v223 =>
(asI .i64 v223).bind fun n224 =>
g4_j225a t144 t28 n205 w190 w164 n213 n224))
else
((World.cell? w190 (Addr.add (⟨r70.2.heap.size, 0, none⟩) 1)).bind fun v215 =>
(asI .i64 v215).bind fun n216 =>
if (ahd (Region.schedule true (opsOf (cAt [1, 1, 1, 1, 1, 1, 1, 1, 1, 1, 1, 1, 1, 1, 1, 1, 1, 1, 0] (bodyOf Try.f4))) (World.tape w164 (World.drawn w164) (.order 4 41))) 24 26 && true) = true then
((callF Try.prog 17 #[.slice t28.1.1 t28.1.2.1 t28.1.2.2, .int .i64 n205] w190).bind fun r226 =>
(asB r226.1).bind fun b227 =>
(World.cell? r226.2 (Addr.add (⟨r154.2.heap.size, 0, none⟩) 1)).bind fun v240 =>
(asI .i64 v240).bind fun n241 =>
g4_j236a t144 t28 w164 b227 n241 n216 r226.2)
else
((World.cell? w190 (Addr.add (⟨r154.2.heap.size, 0, none⟩) 1)).bind fun v229 =>
(asI .i64 v229).bind fun n230 =>
g4_j225a t144 t28 n205 w190 w164 n230 n216))))
else
(if (ahd (Region.schedule true (opsOf (cAt [1, 1, 1, 1, 1, 1, 1, 1, 1, 1, 1, 1, 1, 1, 1, 1, 1, 1, 0] (bodyOf Try.f4))) (World.tape w164 (World.drawn w164) (.order 4 41))) 24 26 && (ahd (Region.schedule true (opsOf (cAt [1, 1, 1, 1, 1, 1, 1, 1, 1, 1, 1, 1, 1, 1, 1, 1, 1, 1, 0] (bodyOf Try.f4))) (World.tape w164 (World.drawn w164) (.order 4 41))) 24 28 && true)) = true then
(g4_j220b t144 t28 w190 w164)
else
(if (ahd (Region.schedule true (opsOf (cAt [1, 1, 1, 1, 1, 1, 1, 1, 1, 1, 1, 1, 1, 1, 1, 1, 1, 1, 0] (bodyOf Try.f4))) (World.tape w164 (World.drawn w164) (.order 4 41))) 26 28 && true) = true then
(if (ahd (Region.schedule true (opsOf (cAt [1, 1, 1, 1, 1, 1, 1, 1, 1, 1, 1, 1, 1, 1, 1, 1, 1, 1, 0] (bodyOf Try.f4))) (World.tape w164 (World.drawn w164) (.order 4 41))) 24 28 && true) = true then
(g4_j220b t144 t28 w190 w164)
else
(g4_j225b t144 t28 w190 w164))
else
(if (ahd (Region.schedule true (opsOf (cAt [1, 1, 1, 1, 1, 1, 1, 1, 1, 1, 1, 1, 1, 1, 1, 1, 1, 1, 0] (bodyOf Try.f4))) (World.tape w164 (World.drawn w164) (.order 4 41))) 24 26 && true) = true then
(g4_j236b t144 t28 w190 w164)
else
(g4_j225b t144 t28 w190 w164))))

noncomputable def g4_j188 (t144 : Bool × (Option Addr × Nat × Nat) × Int) (t28 : (Option Addr × Nat × Nat) × Int) (r70 : Value × World) (r154 : Value × World) (w164 : World) (x189 : Bool) (w190 : World) : Option (Value × World) :=
if x189 = true then
((World.cell? w190 (Addr.add (⟨r154.2.heap.size, 0, none⟩) 5)).bind fun v193 =>
(asSl v193).bind fun q194 =>
g4_j199 t144 t28 r70 r154 w190 w164 (((q194.2.1 : Int) : Int) == 0))
else
(g4_j199 t144 t28 r70 r154 w190 w164 false)

noncomputable def g4_j176 (t144 : Bool × (Option Addr × Nat × Nat) × Int) (t28 : (Option Addr × Nat × Nat) × Int) (r70 : Value × World) (r154 : Value × World) (w164 : World) (x177 : Bool) (w178 : World) : Option (Value × World) :=
if x177 = true then
((World.cell? w178 (Addr.add (⟨r154.2.heap.size, 0, none⟩) 3)).bind fun v181 =>
(asSl v181).bind fun q182 =>
(callF Try.prog 19 #[.slice q182.1 q182.2.1 q182.2.2, .slice t28.1.1 t28.1.2.1 t28.1.2.2] w178).bind fun r185 =>
(asB r185.1).bind fun b186 =>
g4_j188 t144 t28 r70 r154 w164 b186 r185.2)
else
(g4_j188 t144 t28 r70 r154 w164 false w178)

/-- behind the loop, left by x6 -/
noncomputable def g4_l98_x6 (r70 : Value × World) (p4 : Option Addr) (u1 : Int) (t28 : (Option Addr × Nat × Nat) × Int) (t144 : Bool × (Option Addr × Nat × Nat) × Int) (w145 : World) : Option (Value × World) :=
(World.cell? w145 (⟨r70.2.heap.size, 0, none⟩)).bind fun v146 =>
(asI .i64 v146).bind fun n147 =>
(World.cell? w145 (Addr.add (⟨r70.2.heap.size, 0, none⟩) 1)).bind fun v148 =>
(asI .i64 v148).bind fun n149 =>
(World.cell? w145 (Addr.add (⟨r70.2.heap.size, 0, none⟩) 2)).bind fun v150 =>
(asI .i64 v150).bind fun n151 =>
(callF Try.prog 13 #[.pointer p4, .agg #[.int .i64 3, .int .i64 n147, .int .i64 (IntKind.i64.wrap (Int.tmod u1 4)), .int .i64 n149, .int .i64 n151, .slice t144.2.1.1 t144.2.1.2.1 t144.2.1.2.2]] w145).bind fun r152 =>
(asI .i64 r152.1).bind fun n153 =>
(callF Try.prog 15 #[.pointer p4, .int .i64 (IntKind.i64.wrap (Int.tmod u1 4))] r152.2).bind fun r154 =>
(asTup 2 r154.1).bind fun l155 =>
(Ev.asAgg 6 (l155.getD 0 undef)).bind fun l156 =>
(asI .i64 (l156.getD 0 undef)).bind fun n157 =>
(asI .i64 (l156.getD 1 undef)).bind fun n158 =>
(asI .i64 (l156.getD 2 undef)).bind fun n159 =>
(asSl (l156.getD 3 undef)).bind fun q160 =>
(asSl (l156.getD 4 undef)).bind fun q161 =>
(asSl (l156.getD 5 undef)).bind fun q162 =>
(asB (l155.getD 1 undef)).bind fun b163 =>
(stL (World.alloc r154.2 (.cells #[.int .i64 0, .int .i64 0, .int .i64 0, .slice none 0 0, .slice none 0 0, .slice none 0 0] 30)) (⟨r154.2.heap.size, 0, none⟩) [.int .i64 n157, .int .i64 n158, .int .i64 n159, .slice q160.1 q160.2.1 q160.2.2, .slice q161.1 q161.2.1 q161.2.2, .slice q162.1 q162.2.1 q162.2.2] 0).bind fun w164 =>
if ((n153 : Int) == 0) = true then
((World.cell? (World.drew w164) (Addr.add (⟨r154.2.heap.size, 0, none⟩) 4)).bind fun v169 =>
(asSl v169).bind fun q170 =>
(callF Try.prog 19 #[.slice q170.1 q170.2.1 q170.2.2, .slice t28.1.1 t28.1.2.1 t28.1.2.2] (World.drew w164)).bind fun r173 =>
(asB r173.1).bind fun b174 =>
g4_j176 t144 t28 r70 r154 w164 b174 r173.2)
else
(g4_j176 t144 t28 r70 r154 w164 false (World.drew w164))

/-- behind the loop, left by ret -/
noncomputable def g4_l98_ret  (t257 : Bool × (Option Addr × Nat × Nat) × Int) (w258 : World) : Option (Value × World) :=
some (.bool t257.1, w258)

def g4_l261_cs (p4 : Option Addr) (u1 : Int) (t28 : (Option Addr × Nat × Nat) × Int) (r70 : Value × World) : List (Nat × Value) := ([(7, .pointer p4), (8, .int .i64 (IntKind.i64.wrap (Int.tmod u1 4))), (9, .slice t28.1.1 t28.1.2.1 t28.1.2.2), (19, .pointer (some (⟨r70.2.heap.size, 0, none⟩)))] : List (Nat × Value))

/-- the round of a loop (penstock/penstocklaw13.ImageMoves) -/
noncomputable def g4_l261_b (p4 : Option Addr) (t28 : (Option Addr × Nat × Nat) × Int) (r70 : Value × World) (u1 : Int) (s262 : Bool × (Option Addr × Nat × Nat) × Int) (w263 : World) : Option (Exit × (Bool × (Option Addr × Nat × Nat) × Int) × World) :=
if (decide ((s262.2.2 : Int) < 5)) = true then
((callF Try.prog 16 #[.pointer p4, .int .i64 s262.2.2] w263).bind fun r264 =>
(asTup 3 r264.1).bind fun l265 =>
(asB (l265.getD 0 undef)).bind fun b266 =>
(asI .i64 (l265.getD 1 undef)).bind fun n267 =>
(asI .u64 (l265.getD 2 undef)).bind fun n268 =>
(callF Try.prog 17 #[.slice t28.1.1 t28.1.2.1 t28.1.2.2, .int .i64 s262.2.2] r264.2).bind fun r269 =>
(asB r269.1).bind fun b270 =>
if b270 = true then
(if (!b266) = true then
((World.cell? r269.2 (Addr.add (⟨r70.2.heap.size, 0, none⟩) 3)).bind fun v271 =>
(asSl v271).bind fun q272 =>
(callF Try.prog 17 #[.slice q272.1 q272.2.1 q272.2.2, .int .i64 s262.2.2] r269.2).bind fun r273 =>
(asB r273.1).bind fun b274 =>
if (!b274) = true then
(some (.ret, (true, (s262.2.1.1, s262.2.1.2.1, s262.2.1.2.2), s262.2.2), r273.2))
else
((callF Try.prog 17 #[.slice t28.1.1 t28.1.2.1 t28.1.2.2, .int .i64 s262.2.2] r273.2).bind fun r275 =>
(asB r275.1).bind fun b276 =>
if b276 = true then
((callB Try.prog .append #[28, 28] 28 #[false, false] #[.slice s262.2.1.1 s262.2.1.2.1 s262.2.1.2.2, .slice (some (⟨r275.2.heap.size, 0, none⟩)) 1 1] (World.alloc r275.2 (.cells #[.int .i64 s262.2.2] 3))).bind fun r277 =>
(asSl r277.1).bind fun q278 =>
some (.normal, (s262.1, (q278.1, q278.2.1, q278.2.2), (IntKind.i64.wrap (s262.2.2 + 1))), r277.2))
else
((World.cell? r275.2 (Addr.add (⟨r70.2.heap.size, 0, none⟩) 3)).bind fun v279 =>
(asSl v279).bind fun q280 =>
(callF Try.prog 17 #[.slice q280.1 q280.2.1 q280.2.2, .int .i64 s262.2.2] r275.2).bind fun r281 =>
(asB r281.1).bind fun b282 =>
if b282 = true then
((callB Try.prog .append #[28, 28] 28 #[false, false] #[.slice s262.2.1.1 s262.2.1.2.1 s262.2.1.2.2, .slice (some (⟨r281.2.heap.size, 0, none⟩)) 1 1] (World.alloc r281.2 (.cells #[.int .i64 s262.2.2] 3))).bind fun r283 =>
(asSl r283.1).bind fun q284 =>
some (.normal, (s262.1, (q284.1, q284.2.1, q284.2.2), (IntKind.i64.wrap (s262.2.2 + 1))), r283.2))
else
(some (.normal, (s262.1, (s262.2.1.1, s262.2.1.2.1, s262.2.1.2.2), (IntKind.i64.wrap (s262.2.2 + 1))), r281.2)))))
else
((callF Try.prog 17 #[.slice t28.1.1 t28.1.2.1 t28.1.2.2, .int .i64 s262.2.2] r269.2).bind fun r285 =>
(asB r285.1).bind fun b286 =>
if b286 = true then
((callB Try.prog .append #[28, 28] 28 #[false, false] #[.slice s262.2.1.1 s262.2.1.2.1 s262.2.1.2.2, .slice (some (⟨r285.2.heap.size, 0, none⟩)) 1 1] (World.alloc r285.2 (.cells #[.int .i64 s262.2.2] 3))).bind fun r287 =>
(asSl r287.1).bind fun q288 =>
some (.normal, (s262.1, (q288.1, q288.2.1, q288.2.2), (IntKind.i64.wrap (s262.2.2 + 1))), r287.2))
else
((World.cell? r285.2 (Addr.add (⟨r70.2.heap.size, 0, none⟩) 3)).bind fun v289 =>
(asSl v289).bind fun q290 =>
(callF Try.prog 17 #[.slice q290.1 q290.2.1 q290.2.2, .int .i64 s262.2.2] r285.2).bind fun r291 =>
(asB r291.1).bind fun b292 =>
if b292 = true then
((callB Try.prog .append #[28, 28] 28 #[false, false] #[.slice s262.2.1.1 s262.2.1.2.1 s262.2.1.2.2, .slice (some (⟨r291.2.heap.size, 0, none⟩)) 1 1] (World.alloc r291.2 (.cells #[.int .i64 s262.2.2] 3))).bind fun r293 =>
(asSl r293.1).bind fun q294 =>
some (.normal, (s262.1, (q294.1, q294.2.1, q294.2.2), (IntKind.i64.wrap (s262.2.2 + 1))), r293.2))
else
(some (.normal, (s262.1, (s262.2.1.1, s262.2.1.2.1, s262.2.1.2.2), (IntKind.i64.wrap (s262.2.2 + 1))), r291.2)))))
else
((callF Try.prog 17 #[.slice t28.1.1 t28.1.2.1 t28.1.2.2, .int .i64 s262.2.2] r269.2).bind fun r295 =>
(asB r295.1).bind fun b296 =>
if b296 = true then
((callB Try.prog .append #[28, 28] 28 #[false, false] #[.slice s262.2.1.1 s262.2.1.2.1 s262.2.1.2.2, .slice (some (⟨r295.2.heap.size, 0, none⟩)) 1 1] (World.alloc r295.2 (.cells #[.int .i64 s262.2.2] 3))).bind fun r297 =>
(asSl r297.1).bind fun q298 =>
some (.normal, (s262.1, (q298.1, q298.2.1, q298.2.2), (IntKind.i64.wrap (s262.2.2 + 1))), r297.2))
else
((World.cell? r295.2 (Addr.add (⟨r70.2.heap.size, 0, none⟩) 3)).bind fun v299 =>
(asSl v299).bind fun q300 =>
(callF Try.prog 17 #[.slice q300.1 q300.2.1 q300.2.2, .int .i64 s262.2.2] r295.2).bind fun r301 =>
(asB r301.1).bind fun b302 =>
if b302 = true then
((callB Try.prog .append #[28, 28] 28 #[false, false] #[.slice s262.2.1.1 s262.2.1.2.1 s262.2.1.2.2, .slice (some (⟨r301.2.heap.size, 0, none⟩)) 1 1] (World.alloc r301.2 (.cells #[.int .i64 s262.2.2] 3))).bind fun r303 =>
(asSl r303.1).bind fun q304 =>
some (.normal, (s262.1, (q304.1, q304.2.1, q304.2.2), (IntKind.i64.wrap (s262.2.2 + 1))), r303.2))
else
(some (.normal, (s262.1, (s262.2.1.1, s262.2.1.2.1, s262.2.1.2.2), (IntKind.i64.wrap (s262.2.2 + 1))), r301.2)))))
else
(some ((.exit 6), (s262.1, (s262.2.1.1, s262.2.1.2.1, s262.2.1.2.2), s262.2.2), w263))

noncomputable def g4_K305  : Exit → Env → World → Option (Value × World) :=
  seqK (ev Try.prog 248 4 g4_ann (cAt [1, 1, 1, 1, 1, 1, 1, 1, 1, 1, 1, 1, 1, 1, 1, 1] (bodyOf Try.f4)) [1, 1, 1, 1, 1, 1, 1, 1, 1, 1, 1, 1, 1, 1, 1, 1] g4_K25) g4_K25

noncomputable def g4_K306  : Exit → Env → World → Option (Value × World) :=
  blkK 6 g4_K305

/-- the loop, from a state on -/
noncomputable def g4_l261 (p4 : Option Addr) (u1 : Int) (t28 : (Option Addr × Nat × Nat) × Int) (r70 : Value × World) (s : Bool × (Option Addr × Nat × Nat) × Int) (w : World) : Option (Value × World) :=
  loopM Try.prog 248 4 g4_ann (cAt [1, 1, 1, 1, 1, 1, 1, 1, 1, 1, 1, 1, 1, 1, 1, 0, 1, 0, 0] (bodyOf Try.f4)) [0, 1, 0, 1, 1, 1, 1, 1, 1, 1, 1, 1, 1, 1, 1, 1, 1, 1] g4_K306 ((g4_l261_cs p4 u1 t28 r70) ++ sputs [(6, .b), (21, .sl), (22, .i .i64)] s) w

noncomputable def g4_j416 (t28 : (Option Addr × Nat × Nat) × Int) (t307 : Bool × (Option Addr × Nat × Nat) × Int) (w327 : World) (x417 : Bool) (w418 : World) : Option (Value × World) :=
some (.bool x417, w418)

noncomputable def g4_j409a (t307 : Bool × (Option Addr × Nat × Nat) × Int) (t28 : (Option Addr × Nat × Nat) × Int) (w327 : World) (x412 : Bool) (x413 : Bool) (w414 : World) : Option (Value × World) :=
g4_j416 t28 t307 w327 (x412 == x413) w414

noncomputable def g4_j399a (t307 : Bool × (Option Addr × Nat × Nat) × Int) (t28 : (Option Addr × Nat × Nat) × Int) (w327 : World) (x405 : Bool) (x406 : Int) (x407 : Int) (w408 : World) : Option (Value × World) :=
g4_j409a t307 t28 w327 x405 ((x406 : Int) == x407) w408

noncomputable def g4_j383a (r70 : Value × World) (t307 : Bool × (Option Addr × Nat × Nat) × Int) (t28 : (Option Addr × Nat × Nat) × Int) (w327 : World) (x394 : Bool) (x395 : Int) (w396 : World) : Option (Value × World) :=
(World.cell? w396 (Addr.add (⟨r70.2.heap.size, 0, none⟩) 1)).bind fun v397 =>
(asI .i64 v397).bind fun n398 =>
g4_j399a t307 t28 w327 x394 x395 n398 w396

noncomputable def g4_j388a (t307 : Bool × (Option Addr × Nat × Nat) × Int) (t28 : (Option Addr × Nat × Nat) × Int) (n368 : Int) (w353 : World) (w327 : World) (x400 : Int) (x401 : Int) : Option (Value × World) :=
(callF Try.prog 17 #[.slice t28.1.1 t28.1.2.1 t28.1.2.2, .int .i64 n368] w353).bind fun r410 =>
(asB r410.1).bind fun b411 =>
g4_j409a t307 t28 w327 b411 ((x400 : Int) == x401) r410.2

noncomputable def g4_j409b (t307 : Bool × (Option Addr × Nat × Nat) × Int) (t28 : (Option Addr × Nat × Nat) × Int) (w353 : World) (w327 : World) : Option (Value × World) :=
g4_j416 t28 t307 w327 false w353

noncomputable def g4_j399b (t307 : Bool × (Option Addr × Nat × Nat) × Int) (t28 : (Option Addr × Nat × Nat) × Int) (w353 : World) (w327 : World) : Option (Value × World) :=
g4_j409b t307 t28 w353 w327

noncomputable def g4_j383b (t307 : Bool × (Option Addr × Nat × Nat) × Int) (t28 : (Option Addr × Nat × Nat) × Int) (w353 : World) (w327 : World) : Option (Value × World) :=
g4_j399b t307 t28 w353 w327

noncomputable def g4_j388b (t307 : Bool × (Option Addr × Nat × Nat) × Int) (t28 : (Option Addr × Nat × Nat) × Int) (w353 : World) (w327 : World) : Option (Value × World) :=
g4_j409b t307 t28 w353 w327

noncomputable def g4_j362 (t307 : Bool × (Option Addr × Nat × Nat) × Int) (t28 : (Option Addr × Nat × Nat) × Int) (r70 : Value × World) (r317 : Value × World) (w353 : World) (w327 : World) (x363 : Bool) : Option (Value × World) :=
if x363 = true then
((World.cell? w353 (⟨r70.2.heap.size, 0, none⟩)).bind fun v367 =>
(asI .i64 v367).bind fun n368 =>
if (ahd (Region.schedule true (opsOf (cAt [1, 1, 1, 1, 1, 1, 1, 1, 1, 1, 1, 1, 1, 1, 1, 1, 1, 1, 0] (bodyOf Try.f4))) (World.tape w327 (World.drawn w327) (.order 4 41))) 24 26 && (ahd (Region.schedule true (opsOf (cAt [1, 1, 1, 1, 1, 1, 1, 1, 1, 1, 1, 1, 1, 1, 1, 1, 1, 1, 0] (bodyOf Try.f4))) (World.tape w327 (World.drawn w327) (.order 4 41))) 24 28 && true)) = true then
((callF Try.prog 17 #[.slice t28.1.1 t28.1.2.1 t28.1.2.2, .int .i64 n368] w353).bind fun r372 =>
(asB r372.1).bind fun b373 =>
(World.cell? r372.2 (Addr.add (⟨r317.2.heap.size, 0, none⟩) 1)).bind fun v381 =>
(asI .i64 v381).bind fun n382 =>
g4_j383a r70 t307 t28 w327 b373 n382 r372.2)
else
(if (ahd (Region.schedule true (opsOf (cAt [1, 1, 1, 1, 1, 1, 1, 1, 1, 1, 1, 1, 1, 1, 1, 1, 1, 1, 0] (bodyOf Try.f4))) (World.tape w327 (World.drawn w327) (.order 4 41))) 26 28 && true) = true then
((World.cell? w353 (Addr.add (⟨r317.2.heap.size, 0, none⟩) 1)).bind fun v375 =>
(asI .i64 v375).bind fun n376 =>
if (ahd (Region.schedule true (opsOf (cAt [1, 1, 1, 1, 1, 1, 1, 1, 1, 1, 1, 1, 1, 1, 1, 1, 1, 1, 0] (bodyOf Try.f4))) (World.tape w327 (World.drawn w327) (.order 4 41))) 24 28 && true) = true then
((callF Try.prog 17 #[.slice t28.1.1 t28.1.2.1 t28.1.2.2, .int .i64 n368] w353).bind fun r384 =>
(asB r384.1).bind fun b385 =>
g4_j383a r70 t307 t28 w327 b385 n376 r384.2)
else
((World.cell? w353 (Addr.add (⟨r70.2.heap.size, 0, none⟩) 1)).bind fun v386 =>
(asI .i64 v386).bind fun n387 =>
g4_j388a t307 t28 n368 w353 w327 n376 n387))
else
((World.cell? w353 (Addr.add (⟨r70.2.heap.size, 0, none⟩) 1)).bind fun v378 =>
(asI .i64 v378).bind fun n379 =>
if (ahd (Region.schedule true (opsOf (cAt [1, 1, 1, 1, 1, 1, 1, 1, 1, 1, 1, 1, 1, 1, 1, 1, 1, 1, 0] (bodyOf Try.f4))) (World.tape w327 (World.drawn w327) (.order 4 41))) 24 26 && true) = true then
((callF Try.prog 17 #[.slice t28.1.1 t28.1.2.1 t28.1.2.2, .int .i64 n368] w353).bind fun r389 =>
(asB r389.1).bind fun b390 =>
(World.cell? r389.2 (Addr.add (⟨r317.2.heap.size, 0, none⟩) 1)).bind fun v403 =>
(asI .i64 v403).bind fun n404 =>
g4_j399a t307 t28 w327 b390 n404 n379 r389.2)
else
((World.cell? w353 (Addr.add (⟨r317.2.heap.size, 0, none⟩) 1)).bind fun v392 =>
(asI .i64 v392).bind fun n393 =>
g4_j388a t307 t28 n368 w353 w327 n393 n379))))
else
(if (ahd (Region.schedule true (opsOf (cAt [1, 1, 1, 1, 1, 1, 1, 1, 1, 1, 1, 1, 1, 1, 1, 1, 1, 1, 0] (bodyOf Try.f4))) (World.tape w327 (World.drawn w327) (.order 4 41))) 24 26 && (ahd (Region.schedule true (opsOf (cAt [1, 1, 1, 1, 1, 1, 1, 1, 1, 1, 1, 1, 1, 1, 1, 1, 1, 1, 0] (bodyOf Try.f4))) (World.tape w327 (World.drawn w327) (.order 4 41))) 24 28 && true)) = true then
(g4_j383b t307 t28 w353 w327)
else
(if (ahd (Region.schedule true (opsOf (cAt [1, 1, 1, 1, 1, 1, 1, 1, 1, 1, 1, 1, 1, 1, 1, 1, 1, 1, 0] (bodyOf Try.f4))) (World.tape w327 (World.drawn w327) (.order 4 41))) 26 28 && true) = true then
(if (ahd (Region.schedule true (opsOf (cAt [1, 1, 1, 1, 1, 1, 1, 1, 1, 1, 1, 1, 1, 1, 1, 1, 1, 1, 0] (bodyOf Try.f4))) (World.tape w327 (World.drawn w327) (.order 4 41))) 24 28 && true) = true then
(g4_j383b t307 t28 w353 w327)
else
(g4_j388b t307 t28 w353 w327))
else
(if (ahd (Region.schedule true (opsOf (cAt [1, 1, 1, 1, 1, 1, 1, 1, 1, 1, 1, 1, 1, 1, 1, 1, 1, 1, 0] (bodyOf Try.f4))) (World.tape w327 (World.drawn w327) (.order 4 41))) 24 26 && true) = true then
(g4_j399b t307 t28 w353 w327)
else
(g4_j388b t307 t28 w353 w327))))

noncomputable def g4_j351 (t307 : Bool × (Option Addr × Nat × Nat) × Int) (t28 : (Option Addr × Nat × Nat) × Int) (r70 : Value × World) (r317 : Value × World) (w327 : World) (x352 : Bool) (w353 : World) : Option (Value × World) :=
if x352 = true then
((World.cell? w353 (Addr.add (⟨r317.2.heap.size, 0, none⟩) 5)).bind fun v356 =>
(asSl v356).bind fun q357 =>
g4_j362 t307 t28 r70 r317 w353 w327 (((q357.2.1 : Int) : Int) == 0))
else
(g4_j362 t307 t28 r70 r317 w353 w327 false)

noncomputable def g4_j339 (t307 : Bool × (Option Addr × Nat × Nat) × Int) (t28 : (Option Addr × Nat × Nat) × Int) (r70 : Value × World) (r317 : Value × World) (w327 : World) (x340 : Bool) (w341 : World) : Option (Value × World) :=
if x340 = true then
((World.cell? w341 (Addr.add (⟨r317.2.heap.size, 0, none⟩) 3)).bind fun v344 =>
(asSl v344).bind fun q345 =>
(callF Try.prog 19 #[.slice q345.1 q345.2.1 q345.2.2, .slice t28.1.1 t28.1.2.1 t28.1.2.2] w341).bind fun r348 =>
(asB r348.1).bind fun b349 =>
g4_j351 t307 t28 r70 r317 w327 b349 r348.2)
else
(g4_j351 t307 t28 r70 r317 w327 false w341)

/-- behind the loop, left by x6 -/
noncomputable def g4_l261_x6 (r70 : Value × World) (p4 : Option Addr) (u1 : Int) (t28 : (Option Addr × Nat × Nat) × Int) (t307 : Bool × (Option Addr × Nat × Nat) × Int) (w308 : World) : Option (Value × World) :=
(World.cell? w308 (⟨r70.2.heap.size, 0, none⟩)).bind fun v309 =>
(asI .i64 v309).bind fun n310 =>
(World.cell? w308 (Addr.add (⟨r70.2.heap.size, 0, none⟩) 1)).bind fun v311 =>
(asI .i64 v311).bind fun n312 =>
(World.cell? w308 (Addr.add (⟨r70.2.heap.size, 0, none⟩) 2)).bind fun v313 =>
(asI .i64 v313).bind fun n314 =>
(callF Try.prog 13 #[.pointer p4, .agg #[.int .i64 3, .int .i64 n310, .int .i64 (IntKind.i64.wrap (Int.tmod u1 4)), .int .i64 n312, .int .i64 n314, .slice t307.2.1.1 t307.2.1.2.1 t307.2.1.2.2]] w308).bind fun r315 =>
(asI .i64 r315.1).bind fun n316 =>
(callF Try.prog 15 #[.pointer p4, .int .i64 (IntKind.i64.wrap (Int.tmod u1 4))] r315.2).bind fun r317 =>
(asTup 2 r317.1).bind fun l318 =>
(Ev.asAgg 6 (l318.getD 0 undef)).bind fun l319 =>
(asI .i64 (l319.getD 0 undef)).bind fun n320 =>
(asI .i64 (l319.getD 1 undef)).bind fun n321 =>
(asI .i64 (l319.getD 2 undef)).bind fun n322 =>
(asSl (l319.getD 3 undef)).bind fun q323 =>
(asSl (l319.getD 4 undef)).bind fun q324 =>
(asSl (l319.getD 5 undef)).bind fun q325 =>
(asB (l318.getD 1 undef)).bind fun b326 =>
(stL (World.alloc r317.2 (.cells #[.int .i64 0, .int .i64 0, .int .i64 0, .slice none 0 0, .slice none 0 0, .slice none 0 0] 30)) (⟨r317.2.heap.size, 0, none⟩) [.int .i64 n320, .int .i64 n321, .int .i64 n322, .slice q323.1 q323.2.1 q323.2.2, .slice q324.1 q324.2.1 q324.2.2, .slice q325.1 q325.2.1 q325.2.2] 0).bind fun w327 =>
if ((n316 : Int) == 0) = true then
((World.cell? (World.drew w327) (Addr.add (⟨r317.2.heap.size, 0, none⟩) 4)).bind fun v332 =>
(asSl v332).bind fun q333 =>
(callF Try.prog 19 #[.slice q333.1 q333.2.1 q333.2.2, .slice t28.1.1 t28.1.2.1 t28.1.2.2] (World.drew w327)).bind fun r336 =>
(asB r336.1).bind fun b337 =>
g4_j339 t307 t28 r70 r317 w327 b337 r336.2)
else
(g4_j339 t307 t28 r70 r317 w327 false (World.drew w327))

/-- behind the loop, left by ret -/
noncomputable def g4_l261_ret  (t420 : Bool × (Option Addr × Nat × Nat) × Int) (w421 : World) : Option (Value × World) :=
some (.bool t420.1, w421)

def g4_l431_cs (p4 : Option Addr) (u1 : Int) (t28 : (Option Addr × Nat × Nat) × Int) (r70 : Value × World) : List (Nat × Value) := ([(7, .pointer p4), (8, .int .i64 (IntKind.i64.wrap (Int.tmod u1 4))), (9, .slice t28.1.1 t28.1.2.1 t28.1.2.2), (19, .pointer (some (⟨r70.2.heap.size, 0, none⟩)))] : List (Nat × Value))

/-- the round of a loop (penstock/penstocklaw13.ImageMoves) -/
noncomputable def g4_l431_b (p4 : Option Addr) (t28 : (Option Addr × Nat × Nat) × Int) (r70 : Value × World) (u1 : Int) (s432 : Bool × (Option Addr × Nat × Nat) × Int) (w433 : World) : Option (Exit × (Bool × (Option Addr × Nat × Nat) × Int) × World) :=
if (decide ((s432.2.2 : Int) < 5)) = true then
((callF Try.prog 16 #[.pointer p4, .int .i64 s432.2.2] w433).bind fun r434 =>
(asTup 3 r434.1).bind fun l435 =>
(asB (l435.getD 0 undef)).bind fun b436 =>
(asI .i64 (l435.getD 1 undef)).bind fun n437 =>
(asI .u64 (l435.getD 2 undef)).bind fun n438 =>
(callF Try.prog 17 #[.slice t28.1.1 t28.1.2.1 t28.1.2.2, .int .i64 s432.2.2] r434.2).bind fun r439 =>
(asB r439.1).bind fun b440 =>
if b440 = true then
(if (!b436) = true then
((World.cell? r439.2 (Addr.add (⟨r70.2.heap.size, 0, none⟩) 3)).bind fun v441 =>
(asSl v441).bind fun q442 =>
(callF Try.prog 17 #[.slice q442.1 q442.2.1 q442.2.2, .int .i64 s432.2.2] r439.2).bind fun r443 =>
(asB r443.1).bind fun b444 =>
if (!b444) = true then
(some (.ret, (true, (s432.2.1.1, s432.2.1.2.1, s432.2.1.2.2), s432.2.2), r443.2))
else
((callF Try.prog 17 #[.slice t28.1.1 t28.1.2.1 t28.1.2.2, .int .i64 s432.2.2] r443.2).bind fun r445 =>
(asB r445.1).bind fun b446 =>
if b446 = true then
((callB Try.prog .append #[28, 28] 28 #[false, false] #[.slice s432.2.1.1 s432.2.1.2.1 s432.2.1.2.2, .slice (some (⟨r445.2.heap.size, 0, none⟩)) 1 1] (World.alloc r445.2 (.cells #[.int .i64 s432.2.2] 3))).bind fun r447 =>
(asSl r447.1).bind fun q448 =>
some (.normal, (s432.1, (q448.1, q448.2.1, q448.2.2), (IntKind.i64.wrap (s432.2.2 + 1))), r447.2))
else
((World.cell? r445.2 (Addr.add (⟨r70.2.heap.size, 0, none⟩) 3)).bind fun v449 =>
(asSl v449).bind fun q450 =>
(callF Try.prog 17 #[.slice q450.1 q450.2.1 q450.2.2, .int .i64 s432.2.2] r445.2).bind fun r451 =>
(asB r451.1).bind fun b452 =>
if b452 = true then
((callB Try.prog .append #[28, 28] 28 #[false, false] #[.slice s432.2.1.1 s432.2.1.2.1 s432.2.1.2.2, .slice (some (⟨r451.2.heap.size, 0, none⟩)) 1 1] (World.alloc r451.2 (.cells #[.int .i64 s432.2.2] 3))).bind fun r453 =>
(asSl r453.1).bind fun q454 =>
some (.normal, (s432.1, (q454.1, q454.2.1, q454.2.2), (IntKind.i64.wrap (s432.2.2 + 1))), r453.2))
else
(some (.normal, (s432.1, (s432.2.1.1, s432.2.1.2.1, s432.2.1.2.2), (IntKind.i64.wrap (s432.2.2 + 1))), r451.2)))))
else
((callF Try.prog 17 #[.slice t28.1.1 t28.1.2.1 t28.1.2.2, .int .i64 s432.2.2] r439.2).bind fun r455 =>
(asB r455.1).bind fun b456 =>
if b456 = true then
((callB Try.prog .append #[28, 28] 28 #[false, false] #[.slice s432.2.1.1 s432.2.1.2.1 s432.2.1.2.2, .slice (some (⟨r455.2.heap.size, 0, none⟩)) 1 1] (World.alloc r455.2 (.cells #[.int .i64 s432.2.2] 3))).bind fun r457 =>
(asSl r457.1).bind fun q458 =>
some (.normal, (s432.1, (q458.1, q458.2.1, q458.2.2), (IntKind.i64.wrap (s432.2.2 + 1))), r457.2))
else
((World.cell? r455.2 (Addr.add (⟨r70.2.heap.size, 0, none⟩) 3)).bind fun v459 =>
(asSl v459).bind fun q460 =>
(callF Try.prog 17 #[.slice q460.1 q460.2.1 q460.2.2, .int .i64 s432.2.2] r455.2).bind fun r461 =>
(asB r461.1).bind fun b462 =>
if b462 = true then
((callB Try.prog .append #[28, 28] 28 #[false, false] #[.slice s432.2.1.1 s432.2.1.2.1 s432.2.1.2.2, .slice (some (⟨r461.2.heap.size, 0, none⟩)) 1 1] (World.alloc r461.2 (.cells #[.int .i64 s432.2.2] 3))).bind fun r463 =>
(asSl r463.1).bind fun q464 =>
some (.normal, (s432.1, (q464.1, q464.2.1, q464.2.2), (IntKind.i64.wrap (s432.2.2 + 1))), r463.2))
else
(some (.normal, (s432.1, (s432.2.1.1, s432.2.1.2.1, s432.2.1.2.2), (IntKind.i64.wrap (s432.2.2 + 1))), r461.2)))))
else
((callF Try.prog 17 #[.slice t28.1.1 t28.1.2.1 t28.1.2.2, .int .i64 s432.2.2] r439.2).bind fun r465 =>
(asB r465.1).bind fun b466 =>
if b466 = true then
((callB Try.prog .append #[28, 28] 28 #[false, false] #[.slice s432.2.1.1 s432.2.1.2.1 s432.2.1.2.2, .slice (some (⟨r465.2.heap.size, 0, none⟩)) 1 1] (World.alloc r465.2 (.cells #[.int .i64 s432.2.2] 3))).bind fun r467 =>
(asSl r467.1).bind fun q468 =>
some (.normal, (s432.1, (q468.1, q468.2.1, q468.2.2), (IntKind.i64.wrap (s432.2.2 + 1))), r467.2))
else
((World.cell? r465.2 (Addr.add (⟨r70.2.heap.size, 0, none⟩) 3)).bind fun v469 =>
(asSl v469).bind fun q470 =>
(callF Try.prog 17 #[.slice q470.1 q470.2.1 q470.2.2, .int .i64 s432.2.2] r465.2).bind fun r471 =>
(asB r471.1).bind fun b472 =>
if b472 = true then
((callB Try.prog .append #[28, 28] 28 #[false, false] #[.slice s432.2.1.1 s432.2.1.2.1 s432.2.1.2.2, .slice (some (⟨r471.2.heap.size, 0, none⟩)) 1 1] (World.alloc r471.2 (.cells #[.int .i64 s432.2.2] 3))).bind fun r473 =>
(asSl r473.1).bind fun q474 =>
some (.normal, (s432.1, (q474.1, q474.2.1, q474.2.2), (IntKind.i64.wrap (s432.2.2 + 1))), r473.2))
else
(some (.normal, (s432.1, (s432.2.1.1, s432.2.1.2.1, s432.2.1.2.2), (IntKind.i64.wrap (s432.2.2 + 1))), r471.2)))))
else
(some ((.exit 6), (s432.1, (s432.2.1.1, s432.2.1.2.1, s432.2.1.2.2), s432.2.2), w433))

noncomputable def g4_K475  : Exit → Env → World → Option (Value × World) :=
  seqK (ev Try.prog 248 4 g4_ann (cAt [1, 1, 1, 1, 1, 1, 1, 1, 1, 1, 1, 1, 1, 1, 1, 1] (bodyOf Try.f4)) [1, 1, 1, 1, 1, 1, 1, 1, 1, 1, 1, 1, 1, 1, 1, 1] g4_K25) g4_K25

noncomputable def g4_K476  : Exit → Env → World → Option (Value × World) :=
  blkK 6 g4_K475

/-- the loop, from a state on -/
noncomputable def g4_l431 (p4 : Option Addr) (u1 : Int) (t28 : (Option Addr × Nat × Nat) × Int) (r70 : Value × World) (s : Bool × (Option Addr × Nat × Nat) × Int) (w : World) : Option (Value × World) :=
  loopM Try.prog 248 4 g4_ann (cAt [1, 1, 1, 1, 1, 1, 1, 1, 1, 1, 1, 1, 1, 1, 1, 0, 1, 0, 0] (bodyOf Try.f4)) [0, 1, 0, 1, 1, 1, 1, 1, 1, 1, 1, 1, 1, 1, 1, 1, 1, 1] g4_K476 ((g4_l431_cs p4 u1 t28 r70) ++ sputs [(6, .b), (21, .sl), (22, .i .i64)] s) w

noncomputable def g4_j586 (t28 : (Option Addr × Nat × Nat) × Int) (t477 : Bool × (Option Addr × Nat × Nat) × Int) (w497 : World) (x587 : Bool) (w588 : World) : Option (Value × World) :=
some (.bool x587, w588)

noncomputable def g4_j579a (t477 : Bool × (Option Addr × Nat × Nat) × Int) (t28 : (Option Addr × Nat × Nat) × Int) (w497 : World) (x582 : Bool) (x583 : Bool) (w584 : World) : Option (Value × World) :=
g4_j586 t28 t477 w497 (x582 == x583) w584

noncomputable def g4_j569a (t477 : Bool × (Option Addr × Nat × Nat) × Int) (t28 : (Option Addr × Nat × Nat) × Int) (w497 : World) (x575 : Bool) (x576 : Int) (x577 : Int) (w578 : World) : Option (Value × World) :=
g4_j579a t477 t28 w497 x575 ((x576 : Int) == x577) w578

noncomputable def g4_j553a (r70 : Value × World) (t477 : Bool × (Option Addr × Nat × Nat) × Int) (t28 : (Option Addr × Nat × Nat) × Int) (w497 : World) (x564 : Bool) (x565 : Int) (w566 : World) : Option (Value × World) :=
(World.cell? w566 (Addr.add (⟨r70.2.heap.size, 0, none⟩) 1)).bind fun v567 =>
(asI .i64 v567).bind fun n568 =>
g4_j569a t477 t28 w497 x564 x565 n568 w566

noncomputable def g4_j558a (t477 : Bool × (Option Addr × Nat × Nat) × Int) (t28 : (Option Addr × Nat × Nat) × Int) (n538 : Int) (w523 : World) (w497 : World) (x570 : Int) (x571 : Int) : Option (Value × World) :=
(callF Try.prog 17 #[.slice t28.1.1 t28.1.2.1 t28.1.2.2, .int .i64 n538] w523).bind fun r580 =>
(asB r580.1).bind fun b581 =>
g4_j579a t477 t28 w497 b581 ((x570 : Int) == x571) r580.2

noncomputable def g4_j579b (t477 : Bool × (Option Addr × Nat × Nat) × Int) (t28 : (Option Addr × Nat × Nat) × Int) (w523 : World) (w497 : World) : Option (Value × World) :=
g4_j586 t28 t477 w497 false w523

noncomputable def g4_j569b (t477 : Bool × (Option Addr × Nat × Nat) × Int) (t28 : (Option Addr × Nat × Nat) × Int) (w523 : World) (w497 : World) : Option (Value × World) :=
g4_j579b t477 t28 w523 w497

noncomputable def g4_j553b (t477 : Bool × (Option Addr × Nat × Nat) × Int) (t28 : (Option Addr × Nat × Nat) × Int) (w523 : World) (w497 : World) : Option (Value × World) :=
g4_j569b t477 t28 w523 w497

noncomputable def g4_j558b (t477 : Bool × (Option Addr × Nat × Nat) × Int) (t28 : (Option Addr × Nat × Nat) × Int) (w523 : World) (w497 : World) : Option (Value × World) :=
g4_j579b t477 t28 w523 w497

noncomputable def g4_j532 (t477 : Bool × (Option Addr × Nat × Nat) × Int) (t28 : (Option Addr × Nat × Nat) × Int) (r70 : Value × World) (r487 : Value × World) (w523 : World) (w497 : World) (x533 : Bool) : Option (Value × World) :=
if x533 = true then
((World.cell? w523 (⟨r70.2.heap.size, 0, none⟩)).bind fun v537 =>
(asI .i64 v537).bind fun n538 =>
if (ahd (Region.schedule true (opsOf (cAt [1, 1, 1, 1, 1, 1, 1, 1, 1, 1, 1, 1, 1, 1, 1, 1, 1, 1, 0] (bodyOf Try.f4))) (World.tape w497 (World.drawn w497) (.order 4 41))) 24 26 && (ahd (Region.schedule true (opsOf (cAt [1, 1, 1, 1, 1, 1, 1, 1, 1, 1, 1, 1, 1, 1, 1, 1, 1, 1, 0] (bodyOf Try.f4))) (World.tape w497 (World.drawn w497) (.order 4 41))) 24 28 && true)) = true then
((callF Try.prog 17 #[.slice t28.1.1 t28.1.2.1 t28.1.2.2, .int .i64 n538] w523).bind fun r542 =>
(asB r542.1).bind fun b543 =>
(World.cell? r542.2 (Addr.add (⟨r487.2.heap.size, 0, none⟩) 1)).bind fun v551 =>
(asI .i64 v551).bind fun n552 =>
g4_j553a r70 t477 t28 w497 b543 n552 r542.2)
else
(if (ahd (Region.schedule true (opsOf (cAt [1, 1, 1, 1, 1, 1, 1, 1, 1, 1, 1, 1, 1, 1, 1, 1, 1, 1, 0] (bodyOf Try.f4))) (World.tape w497 (World.drawn w497) (.order 4 41))) 26 28 && true) = true then
((World.cell? w523 (Addr.add (⟨r487.2.heap.size, 0, none⟩) 1)).bind fun v545 =>
(asI .i64 v545).bind fun n546 =>
if (ahd (Region.schedule true (opsOf (cAt [1, 1, 1, 1, 1, 1, 1, 1, 1, 1, 1, 1, 1, 1, 1, 1, 1, 1, 0] (bodyOf Try.f4))) (World.tape w497 (World.drawn w497) (.order 4 41))) 24 28 && true) = true then
((callF Try.prog 17 #[.slice t28.1.1 t28.1.2.1 t28.1.2.2, .int .i64 n538] w523).bind fun r554 =>
(asB r554.1).bind fun b555 =>
g4_j553a r70 t477 t28 w497 b555 n546 r554.2)
else
((World.cell? w523 (Addr.add (⟨r70.2.heap.size, 0, none⟩) 1)).bind fun v556 =>
(asI .i64 v556).bind fun n557 =>
g4_j558a t477 t28 n538 w523 w497 n546 n557))
else
((World.cell? w523 (Addr.add (⟨r70.2.heap.size, 0, none⟩) 1)).bind fun v548 =>
(asI .i64 v548).bind fun n549 =>
if (ahd (Region.schedule true (opsOf (cAt [1, 1, 1, 1, 1, 1, 1, 1, 1, 1, 1, 1, 1, 1, 1, 1, 1, 1, 0] (bodyOf Try.f4))) (World.tape w497 (World.drawn w497) (.order 4 41))) 24 26 && true) = true then
((callF Try.prog 17 #[.slice t28.1.1 t28.1.2.1 t28.1.2.2, .int .i64 n538] w523).bind fun r559 =>
(asB r559.1).bind fun b560 =>
(World.cell? r559.2 (Addr.add (⟨r487.2.heap.size, 0, none⟩) 1)).bind fun v573 =>
(asI .i64 v573).bind fun n574 =>
g4_j569a t477 t28 w497 b560 n574 n549 r559.2)
else
((World.cell? w523 (Addr.add (⟨r487.2.heap.size, 0, none⟩) 1)).bind fun v562 =>
(asI .i64 v562).bind fun n563 =>
g4_j558a t477 t28 n538 w523 w497 n563 n549))))
else
(if (ahd (Region.schedule true (opsOf (cAt [1, 1, 1, 1, 1, 1, 1, 1, 1, 1, 1, 1, 1, 1, 1, 1, 1, 1, 0] (bodyOf Try.f4))) (World.tape w497 (World.drawn w497) (.order 4 41))) 24 26 && (ahd (Region.schedule true (opsOf (cAt [1, 1, 1, 1, 1, 1, 1, 1, 1, 1, 1, 1, 1, 1, 1, 1, 1, 1, 0] (bodyOf Try.f4))) (World.tape w497 (World.drawn w497) (.order 4 41))) 24 28 && true)) = true then
(g4_j553b t477 t28 w523 w497)
else
(if (ahd (Region.schedule true (opsOf (cAt [1, 1, 1, 1, 1, 1, 1, 1, 1, 1, 1, 1, 1, 1, 1, 1, 1, 1, 0] (bodyOf Try.f4))) (World.tape w497 (World.drawn w497) (.order 4 41))) 26 28 && true) = true then
(if (ahd (Region.schedule true (opsOf (cAt [1, 1, 1, 1, 1, 1, 1, 1, 1, 1, 1, 1, 1, 1, 1, 1, 1, 1, 0] (bodyOf Try.f4))) (World.tape w497 (World.drawn w497) (.order 4 41))) 24 28 && true) = true then
(g4_j553b t477 t28 w523 w497)
else
(g4_j558b t477 t28 w523 w497))
else
(if (ahd (Region.schedule true (opsOf (cAt [1, 1, 1, 1, 1, 1, 1, 1, 1, 1, 1, 1, 1, 1, 1, 1, 1, 1, 0] (bodyOf Try.f4))) (World.tape w497 (World.drawn w497) (.order 4 41))) 24 26 && true) = true then
(g4_j569b t477 t28 w523 w497)
else
(g4_j558b t477 t28 w523 w497))))

noncomputable def g4_j521 (t477 : Bool × (Option Addr × Nat × Nat) × Int) (t28 : (Option Addr × Nat × Nat) × Int) (r70 : Value × World) (r487 : Value × World) (w497 : World) (x522 : Bool) (w523 : World) : Option (Value × World) :=
if x522 = true then
((World.cell? w523 (Addr.add (⟨r487.2.heap.size, 0, none⟩) 5)).bind fun v526 =>
(asSl v526).bind fun q527 =>
g4_j532 t477 t28 r70 r487 w523 w497 (((q527.2.1 : Int) : Int) == 0))
else
(g4_j532 t477 t28 r70 r487 w523 w497 false)

noncomputable def g4_j509 (t477 : Bool × (Option Addr × Nat × Nat) × Int) (t28 : (Option Addr × Nat × Nat) × Int) (r70 : Value × World) (r487 : Value × World) (w497 : World) (x510 : Bool) (w511 : World) : Option (Value × World) :=
if x510 = true then
((World.cell? w511 (Addr.add (⟨r487.2.heap.size, 0, none⟩) 3)).bind fun v514 =>
(asSl v514).bind fun q515 =>
(callF Try.prog 19 #[.slice q515.1 q515.2.1 q515.2.2, .slice t28.1.1 t28.1.2.1 t28.1.2.2] w511).bind fun r518 =>
(asB r518.1).bind fun b519 =>
g4_j521 t477 t28 r70 r487 w497 b519 r518.2)
else
(g4_j521 t477 t28 r70 r487 w497 false w511)

/-- behind the loop, left by x6 -/
noncomputable def g4_l431_x6 (r70 : Value × World) (p4 : Option Addr) (u1 : Int) (t28 : (Option Addr × Nat × Nat) × Int) (t477 : Bool × (Option Addr × Nat × Nat) × Int) (w478 : World) : Option (Value × World) :=
(World.cell? w478 (⟨r70.2.heap.size, 0, none⟩)).bind fun v479 =>
(asI .i64 v479).bind fun n480 =>
(World.cell? w478 (Addr.add (⟨r70.2.heap.size, 0, none⟩) 1)).bind fun v481 =>
(asI .i64 v481).bind fun n482 =>
(World.cell? w478 (Addr.add (⟨r70.2.heap.size, 0, none⟩) 2)).bind fun v483 =>
(asI .i64 v483).bind fun n484 =>
(callF Try.prog 13 #[.pointer p4, .agg #[.int .i64 3, .int .i64 n480, .int .i64 (IntKind.i64.wrap (Int.tmod u1 4)), .int .i64 n482, .int .i64 n484, .slice t477.2.1.1 t477.2.1.2.1 t477.2.1.2.2]] w478).bind fun r485 =>
(asI .i64 r485.1).bind fun n486 =>
(callF Try.prog 15 #[.pointer p4, .int .i64 (IntKind.i64.wrap (Int.tmod u1 4))] r485.2).bind fun r487 =>
(asTup 2 r487.1).bind fun l488 =>
(Ev.asAgg 6 (l488.getD 0 undef)).bind fun l489 =>
(asI .i64 (l489.getD 0 undef)).bind fun n490 =>
(asI .i64 (l489.getD 1 undef)).bind fun n491 =>
(asI .i64 (l489.getD 2 undef)).bind fun n492 =>
(asSl (l489.getD 3 undef)).bind fun q493 =>
(asSl (l489.getD 4 undef)).bind fun q494 =>
(asSl (l489.getD 5 undef)).bind fun q495 =>
(asB (l488.getD 1 undef)).bind fun b496 =>
(stL (World.alloc r487.2 (.cells #[.int .i64 0, .int .i64 0, .int .i64 0, .slice none 0 0, .slice none 0 0, .slice none 0 0] 30)) (⟨r487.2.heap.size, 0, none⟩) [.int .i64 n490, .int .i64 n491, .int .i64 n492, .slice q493.1 q493.2.1 q493.2.2, .slice q494.1 q494.2.1 q494.2.2, .slice q495.1 q495.2.1 q495.2.2] 0).bind fun w497 =>
if ((n486 : Int) == 0) = true then
((World.cell? (World.drew w497) (Addr.add (⟨r487.2.heap.size, 0, none⟩) 4)).bind fun v502 =>
(asSl v502).bind fun q503 =>
(callF Try.prog 19 #[.slice q503.1 q503.2.1 q503.2.2, .slice t28.1.1 t28.1.2.1 t28.1.2.2] (World.drew w497)).bind fun r506 =>
(asB r506.1).bind fun b507 =>
g4_j509 t477 t28 r70 r487 w497 b507 r506.2)
else
(g4_j509 t477 t28 r70 r487 w497 false (World.drew w497))

/-- behind the loop, left by ret -/
noncomputable def g4_l431_ret  (t590 : Bool × (Option Addr × Nat × Nat) × Int) (w591 : World) : Option (Value × World) :=
some (.bool t590.1, w591)

def g4_l594_cs (p4 : Option Addr) (u1 : Int) (t28 : (Option Addr × Nat × Nat) × Int) (r70 : Value × World) : List (Nat × Value) := ([(7, .pointer p4), (8, .int .i64 (IntKind.i64.wrap (Int.tmod u1 4))), (9, .slice t28.1.1 t28.1.2.1 t28.1.2.2), (19, .pointer (some (⟨r70.2.heap.size, 0, none⟩)))] : List (Nat × Value))

/-- the round of a loop (penstock/penstocklaw13.ImageMoves) -/
noncomputable def g4_l594_b (p4 : Option Addr) (t28 : (Option Addr × Nat × Nat) × Int) (r70 : Value × World) (u1 : Int) (s595 : Bool × (Option Addr × Nat × Nat) × Int) (w596 : World) : Option (Exit × (Bool × (Option Addr × Nat × Nat) × Int) × World) :=
if (decide ((s595.2.2 : Int) < 5)) = true then
((callF Try.prog 16 #[.pointer p4, .int .i64 s595.2.2] w596).bind fun r597 =>
(asTup 3 r597.1).bind fun l598 =>
(asB (l598.getD 0 undef)).bind fun b599 =>
(asI .i64 (l598.getD 1 undef)).bind fun n600 =>
(asI .u64 (l598.getD 2 undef)).bind fun n601 =>
(callF Try.prog 17 #[.slice t28.1.1 t28.1.2.1 t28.1.2.2, .int .i64 s595.2.2] r597.2).bind fun r602 =>
(asB r602.1).bind fun b603 =>
if b603 = true then
(if (!b599) = true then
((World.cell? r602.2 (Addr.add (⟨r70.2.heap.size, 0, none⟩) 3)).bind fun v604 =>
(asSl v604).bind fun q605 =>
(callF Try.prog 17 #[.slice q605.1 q605.2.1 q605.2.2, .int .i64 s595.2.2] r602.2).bind fun r606 =>
(asB r606.1).bind fun b607 =>
if (!b607) = true then
(some (.ret, (true, (s595.2.1.1, s595.2.1.2.1, s595.2.1.2.2), s595.2.2), r606.2))
else
((callF Try.prog 17 #[.slice t28.1.1 t28.1.2.1 t28.1.2.2, .int .i64 s595.2.2] r606.2).bind fun r608 =>
(asB r608.1).bind fun b609 =>
if b609 = true then
((callB Try.prog .append #[28, 28] 28 #[false, false] #[.slice s595.2.1.1 s595.2.1.2.1 s595.2.1.2.2, .slice (some (⟨r608.2.heap.size, 0, none⟩)) 1 1] (World.alloc r608.2 (.cells #[.int .i64 s595.2.2] 3))).bind fun r610 =>
(asSl r610.1).bind fun q611 =>
some (.normal, (s595.1, (q611.1, q611.2.1, q611.2.2), (IntKind.i64.wrap (s595.2.2 + 1))), r610.2))
else
((World.cell? r608.2 (Addr.add (⟨r70.2.heap.size, 0, none⟩) 3)).bind fun v612 =>
(asSl v612).bind fun q613 =>
(callF Try.prog 17 #[.slice q613.1 q613.2.1 q613.2.2, .int .i64 s595.2.2] r608.2).bind fun r614 =>
(asB r614.1).bind fun b615 =>
if b615 = true then
((callB Try.prog .append #[28, 28] 28 #[false, false] #[.slice s595.2.1.1 s595.2.1.2.1 s595.2.1.2.2, .slice (some (⟨r614.2.heap.size, 0, none⟩)) 1 1] (World.alloc r614.2 (.cells #[.int .i64 s595.2.2] 3))).bind fun r616 =>
(asSl r616.1).bind fun q617 =>
some (.normal, (s595.1, (q617.1, q617.2.1, q617.2.2), (IntKind.i64.wrap (s595.2.2 + 1))), r616.2))
else
(some (.normal, (s595.1, (s595.2.1.1, s595.2.1.2.1, s595.2.1.2.2), (IntKind.i64.wrap (s595.2.2 + 1))), r614.2)))))
else
((callF Try.prog 17 #[.slice t28.1.1 t28.1.2.1 t28.1.2.2, .int .i64 s595.2.2] r602.2).bind fun r618 =>
(asB r618.1).bind fun b619 =>
if b619 = true then
((callB Try.prog .append #[28, 28] 28 #[false, false] #[.slice s595.2.1.1 s595.2.1.2.1 s595.2.1.2.2, .slice (some (⟨r618.2.heap.size, 0, none⟩)) 1 1] (World.alloc r618.2 (.cells #[.int .i64 s595.2.2] 3))).bind fun r620 =>
(asSl r620.1).bind fun q621 =>
some (.normal, (s595.1, (q621.1, q621.2.1, q621.2.2), (IntKind.i64.wrap (s595.2.2 + 1))), r620.2))
else
((World.cell? r618.2 (Addr.add (⟨r70.2.heap.size, 0, none⟩) 3)).bind fun v622 =>
(asSl v622).bind fun q623 =>
(callF Try.prog 17 #[.slice q623.1 q623.2.1 q623.2.2, .int .i64 s595.2.2] r618.2).bind fun r624 =>
(asB r624.1).bind fun b625 =>
if b625 = true then
((callB Try.prog .append #[28, 28] 28 #[false, false] #[.slice s595.2.1.1 s595.2.1.2.1 s595.2.1.2.2, .slice (some (⟨r624.2.heap.size, 0, none⟩)) 1 1] (World.alloc r624.2 (.cells #[.int .i64 s595.2.2] 3))).bind fun r626 =>
(asSl r626.1).bind fun q627 =>
some (.normal, (s595.1, (q627.1, q627.2.1, q627.2.2), (IntKind.i64.wrap (s595.2.2 + 1))), r626.2))
else
(some (.normal, (s595.1, (s595.2.1.1, s595.2.1.2.1, s595.2.1.2.2), (IntKind.i64.wrap (s595.2.2 + 1))), r624.2)))))
else
((callF Try.prog 17 #[.slice t28.1.1 t28.1.2.1 t28.1.2.2, .int .i64 s595.2.2] r602.2).bind fun r628 =>
(asB r628.1).bind fun b629 =>
if b629 = true then
((callB Try.prog .append #[28, 28] 28 #[false, false] #[.slice s595.2.1.1 s595.2.1.2.1 s595.2.1.2.2, .slice (some (⟨r628.2.heap.size, 0, none⟩)) 1 1] (World.alloc r628.2 (.cells #[.int .i64 s595.2.2] 3))).bind fun r630 =>
(asSl r630.1).bind fun q631 =>
some (.normal, (s595.1, (q631.1, q631.2.1, q631.2.2), (IntKind.i64.wrap (s595.2.2 + 1))), r630.2))
else
((World.cell? r628.2 (Addr.add (⟨r70.2.heap.size, 0, none⟩) 3)).bind fun v632 =>
(asSl v632).bind fun q633 =>
(callF Try.prog 17 #[.slice q633.1 q633.2.1 q633.2.2, .int .i64 s595.2.2] r628.2).bind fun r634 =>
(asB r634.1).bind fun b635 =>
if b635 = true then
((callB Try.prog .append #[28, 28] 28 #[false, false] #[.slice s595.2.1.1 s595.2.1.2.1 s595.2.1.2.2, .slice (some (⟨r634.2.heap.size, 0, none⟩)) 1 1] (World.alloc r634.2 (.cells #[.int .i64 s595.2.2] 3))).bind fun r636 =>
(asSl r636.1).bind fun q637 =>
some (.normal, (s595.1, (q637.1, q637.2.1, q637.2.2), (IntKind.i64.wrap (s595.2.2 + 1))), r636.2))
else
(some (.normal, (s595.1, (s595.2.1.1, s595.2.1.2.1, s595.2.1.2.2), (IntKind.i64.wrap (s595.2.2 + 1))), r634.2)))))
else
(some ((.exit 6), (s595.1, (s595.2.1.1, s595.2.1.2.1, s595.2.1.2.2), s595.2.2), w596))

noncomputable def g4_K638  : Exit → Env → World → Option (Value × World) :=
  seqK (ev Try.prog 248 4 g4_ann (cAt [1, 1, 1, 1, 1, 1, 1, 1, 1, 1, 1, 1, 1, 1, 1, 1] (bodyOf Try.f4)) [1, 1, 1, 1, 1, 1, 1, 1, 1, 1, 1, 1, 1, 1, 1, 1] g4_K25) g4_K25

noncomputable def g4_K639  : Exit → Env → World → Option (Value × World) :=
  blkK 6 g4_K638

/-- the loop, from a state on -/
noncomputable def g4_l594 (p4 : Option Addr) (u1 : Int) (t28 : (Option Addr × Nat × Nat) × Int) (r70 : Value × World) (s : Bool × (Option Addr × Nat × Nat) × Int) (w : World) : Option (Value × World) :=
  loopM Try.prog 248 4 g4_ann (cAt [1, 1, 1, 1, 1, 1, 1, 1, 1, 1, 1, 1, 1, 1, 1, 0, 1, 0, 0] (bodyOf Try.f4)) [0, 1, 0, 1, 1, 1, 1, 1, 1, 1, 1, 1, 1, 1, 1, 1, 1, 1] g4_K639 ((g4_l594_cs p4 u1 t28 r70) ++ sputs [(6, .b), (21, .sl), (22, .i .i64)] s) w

noncomputable def g4_j749 (t28 : (Option Addr × Nat × Nat) × Int) (t640 : Bool × (Option Addr × Nat × Nat) × Int) (w660 : World) (x750 : Bool) (w751 : World) : Option (Value × World) :=
some (.bool x750, w751)

noncomputable def g4_j742a (t640 : Bool × (Option Addr × Nat × Nat) × Int) (t28 : (Option Addr × Nat × Nat) × Int) (w660 : World) (x745 : Bool) (x746 : Bool) (w747 : World) : Option (Value × World) :=
g4_j749 t28 t640 w660 (x745 == x746) w747

noncomputable def g4_j732a (t640 : Bool × (Option Addr × Nat × Nat) × Int) (t28 : (Option Addr × Nat × Nat) × Int) (w660 : World) (x738 : Bool) (x739 : Int) (x740 : Int) (w741 : World) : Option (Value × World) :=
g4_j742a t640 t28 w660 x738 ((x739 : Int) == x740) w741

noncomputable def g4_j716a (r70 : Value × World) (t640 : Bool × (Option Addr × Nat × Nat) × Int) (t28 : (Option Addr × Nat × Nat) × Int) (w660 : World) (x727 : Bool) (x728 : Int) (w729 : World) : Option (Value × World) :=
(World.cell? w729 (Addr.add (⟨r70.2.heap.size, 0, none⟩) 1)).bind fun v730 =>
(asI .i64 v730).bind fun n731 =>
g4_j732a t640 t28 w660 x727 x728 n731 w729

noncomputable def g4_j721a (t640 : Bool × (Option Addr × Nat × Nat) × Int) (t28 : (Option Addr × Nat × Nat) × Int) (n701 : Int) (w686 : World) (w660 : World) (x733 : Int) (x734 : Int) : Option (Value × World) :=
(callF Try.prog 17 #[.slice t28.1.1 t28.1.2.1 t28.1.2.2, .int .i64 n701] w686).bind fun r743 =>
(asB r743.1).bind fun b744 =>
g4_j742a t640 t28 w660 b744 ((x733 : Int) == x734) r743.2

noncomputable def g4_j742b (t640 : Bool × (Option Addr × Nat × Nat) × Int) (t28 : (Option Addr × Nat × Nat) × Int) (w686 : World) (w660 : World) : Option (Value × World) :=
g4_j749 t28 t640 w660 false w686

noncomputable def g4_j732b (t640 : Bool × (Option Addr × Nat × Nat) × Int) (t28 : (Option Addr × Nat × Nat) × Int) (w686 : World) (w660 : World) : Option (Value × World) :=
g4_j742b t640 t28 w686 w660

noncomputable def g4_j716b (t640 : Bool × (Option Addr × Nat × Nat) × Int) (t28 : (Option Addr × Nat × Nat) × Int) (w686 : World) (w660 : World) : Option (Value × World) :=
g4_j732b t640 t28 w686 w660

noncomputable def g4_j721b (t640 : Bool × (Option Addr × Nat × Nat) × Int) (t28 : (Option Addr × Nat × Nat) × Int) (w686 : World) (w660 : World) : Option (Value × World) :=
g4_j742b t640 t28 w686 w660

noncomputable def g4_j695 (t640 : Bool × (Option Addr × Nat × Nat) × Int) (t28 : (Option Addr × Nat × Nat) × Int) (r70 : Value × World) (r650 : Value × World) (w686 : World) (w660 : World) (x696 : Bool) : Option (Value × World) :=
if x696 = true then
((World.cell? w686 (⟨r70.2.heap.size, 0, none⟩)).bind fun v700 =>
(asI .i64 v700).bind fun n701 =>
if (ahd (Region.schedule true (opsOf (cAt [1, 1, 1, 1, 1, 1, 1, 1, 1, 1, 1, 1, 1, 1, 1, 1, 1, 1, 0] (bodyOf Try.f4))) (World.tape w660 (World.drawn w660) (.order 4 41))) 24 26 && (ahd (Region.schedule true (opsOf (cAt [1, 1, 1, 1, 1, 1, 1, 1, 1, 1, 1, 1, 1, 1, 1, 1, 1, 1, 0] (bodyOf Try.f4))) (World.tape w660 (World.drawn w660) (.order 4 41))) 24 28 && true)) = true then
((callF Try.prog 17 #[.slice t28.1.1 t28.1.2.1 t28.1.2.2, .int .i64 n701] w686).bind fun r705 =>
(asB r705.1).bind fun b706 =>
(World.cell? r705.2 (Addr.add (⟨r650.2.heap.size, 0, none⟩) 1)).bind fun v714 =>
(asI .i64 v714).bind fun n715 =>
g4_j716a r70 t640 t28 w660 b706 n715 r705.2)
else
(if (ahd (Region.schedule true (opsOf (cAt [1, 1, 1, 1, 1, 1, 1, 1, 1, 1, 1, 1, 1, 1, 1, 1, 1, 1, 0] (bodyOf Try.f4))) (World.tape w660 (World.drawn w660) (.order 4 41))) 26 28 && true) = true then
((World.cell? w686 (Addr.add (⟨r650.2.heap.size, 0, none⟩) 1)).bind fun v708 =>
(asI .i64 v708).bind fun n709 =>
if (ahd (Region.schedule true (opsOf (cAt [1, 1, 1, 1, 1, 1, 1, 1, 1, 1, 1, 1, 1, 1, 1, 1, 1, 1, 0] (bodyOf Try.f4))) (World.tape w660 (World.drawn w660) (.order 4 41))) 24 28 && true) = true then
((callF Try.prog 17 #[.slice t28.1.1 t28.1.2.1 t28.1.2.2, .int .i64 n701] w686).bind fun r717 =>
(asB r717.1).bind fun b718 =>
g4_j716a r70 t640 t28 w660 b718 n709 r717.2)
else
((World.cell? w686 (Addr.add (⟨r70.2.heap.size, 0, none⟩) 1)).bind fun v719 =>
(asI .i64 v719).bind fun n720 =>
g4_j721a t640 t28 n701 w686 w660 n709 n720))
else
((World.cell? w686 (Addr.add (⟨r70.2.heap.size, 0, none⟩) 1)).bind fun v711 =>
(asI .i64 v711).bind fun n712 =>
if (ahd (Region.schedule true (opsOf (cAt [1, 1, 1, 1, 1, 1, 1, 1, 1, 1, 1, 1, 1, 1, 1, 1, 1, 1, 0] (bodyOf Try.f4))) (World.tape w660 (World.drawn w660) (.order 4 41))) 24 26 && true) = true then
((callF Try.prog 17 #[.slice t28.1.1 t28.1.2.1 t28.1.2.2, .int .i64 n701] w686).bind fun r722 =>
(asB r722.1).bind fun b723 =>
(World.cell? r722.2 (Addr.add (⟨r650.2.heap.size, 0, none⟩) 1)).bind fun v736 =>
(asI .i64 v736).bind fun n737 =>
g4_j732a t640 t28 w660 b723 n737 n712 r722.2)
else
((World.cell? w686 (Addr.add (⟨r650.2.heap.size, 0, none⟩) 1)).bind fun v725 =>
(asI .i64 v725).bind fun n726 =>
g4_j721a t640 t28 n701 w686 w660 n726 n712))))
else
(if (ahd (Region.schedule true (opsOf (cAt [1, 1, 1, 1, 1, 1, 1, 1, 1, 1, 1, 1, 1, 1, 1, 1, 1, 1, 0] (bodyOf Try.f4))) (World.tape w660 (World.drawn w660) (.order 4 41))) 24 26 && (ahd (Region.schedule true (opsOf (cAt [1, 1, 1, 1, 1, 1, 1, 1, 1, 1, 1, 1, 1, 1, 1, 1, 1, 1, 0] (bodyOf Try.f4))) (World.tape w660 (World.drawn w660) (.order 4 41))) 24 28 && true)) = true then
(g4_j716b t640 t28 w686 w660)
else
(if (ahd (Region.schedule true (opsOf (cAt [1, 1, 1, 1, 1, 1, 1, 1, 1, 1, 1, 1, 1, 1, 1, 1, 1, 1, 0] (bodyOf Try.f4))) (World.tape w660 (World.drawn w660) (.order 4 41))) 26 28 && true) = true then
(if (ahd (Region.schedule true (opsOf (cAt [1, 1, 1, 1, 1, 1, 1, 1, 1, 1, 1, 1, 1, 1, 1, 1, 1, 1, 0] (bodyOf Try.f4))) (World.tape w660 (World.drawn w660) (.order 4 41))) 24 28 && true) = true then
(g4_j716b t640 t28 w686 w660)
else
(g4_j721b t640 t28 w686 w660))
else
(if (ahd (Region.schedule true (opsOf (cAt [1, 1, 1, 1, 1, 1, 1, 1, 1, 1, 1, 1, 1, 1, 1, 1, 1, 1, 0] (bodyOf Try.f4))) (World.tape w660 (World.drawn w660) (.order 4 41))) 24 26 && true) = true then
(g4_j732b t640 t28 w686 w660)
else
(g4_j721b t640 t28 w686 w660))))

noncomputable def g4_j684 (t640 : Bool × (Option Addr × Nat × Nat) × Int) (t28 : (Option Addr × Nat × Nat) × Int) (r70 : Value × World) (r650 : Value × World) (w660 : World) (x685 : Bool) (w686 : World) : Option (Value × World) :=
if x685 = true then
((World.cell? w686 (Addr.add (⟨r650.2.heap.size, 0, none⟩) 5)).bind fun v689 =>
(asSl v689).bind fun q690 =>
g4_j695 t640 t28 r70 r650 w686 w660 (((q690.2.1 : Int) : Int) == 0))
else
(g4_j695 t640 t28 r70 r650 w686 w660 false)

noncomputable def g4_j672 (t640 : Bool × (Option Addr × Nat × Nat) × Int) (t28 : (Option Addr × Nat × Nat) × Int) (r70 : Value × World) (r650 : Value × World) (w660 : World) (x673 : Bool) (w674 : World) : Option (Value × World) :=
if x673 = true then
((World.cell? w674 (Addr.add (⟨r650.2.heap.size, 0, none⟩) 3)).bind fun v677 =>
(asSl v677).bind fun q678 =>
(callF Try.prog 19 #[.slice q678.1 q678.2.1 q678.2.2, .slice t28.1.1 t28.1.2.1 t28.1.2.2] w674).bind fun r681 =>
(asB r681.1).bind fun b682 =>
g4_j684 t640 t28 r70 r650 w660 b682 r681.2)
else
(g4_j684 t640 t28 r70 r650 w660 false w674)

/-- behind the loop, left by x6 -/
noncomputable def g4_l594_x6 (r70 : Value × World) (p4 : Option Addr) (u1 : Int) (t28 : (Option Addr × Nat × Nat) × Int) (t640 : Bool × (Option Addr × Nat × Nat) × Int) (w641 : World) : Option (Value × World) :=
(World.cell? w641 (⟨r70.2.heap.size, 0, none⟩)).bind fun v642 =>
(asI .i64 v642).bind fun n643 =>
(World.cell? w641 (Addr.add (⟨r70.2.heap.size, 0, none⟩) 1)).bind fun v644 =>
(asI .i64 v644).bind fun n645 =>
(World.cell? w641 (Addr.add (⟨r70.2.heap.size, 0, none⟩) 2)).bind fun v646 =>
(asI .i64 v646).bind fun n647 =>
(callF Try.prog 13 #[.pointer p4, .agg #[.int .i64 3, .int .i64 n643, .int .i64 (IntKind.i64.wrap (Int.tmod u1 4)), .int .i64 n645, .int .i64 n647, .slice t640.2.1.1 t640.2.1.2.1 t640.2.1.2.2]] w641).bind fun r648 =>
(asI .i64 r648.1).bind fun n649 =>
(callF Try.prog 15 #[.pointer p4, .int .i64 (IntKind.i64.wrap (Int.tmod u1 4))] r648.2).bind fun r650 =>
(asTup 2 r650.1).bind fun l651 =>
(Ev.asAgg 6 (l651.getD 0 undef)).bind fun l652 =>
(asI .i64 (l652.getD 0 undef)).bind fun n653 =>
(asI .i64 (l652.getD 1 undef)).bind fun n654 =>
(asI .i64 (l652.getD 2 undef)).bind fun n655 =>
(asSl (l652.getD 3 undef)).bind fun q656 =>
(asSl (l652.getD 4 undef)).bind fun q657 =>
(asSl (l652.getD 5 undef)).bind fun q658 =>
(asB (l651.getD 1 undef)).bind fun b659 =>
(stL (World.alloc r650.2 (.cells #[.int .i64 0, .int .i64 0, .int .i64 0, .slice none 0 0, .slice none 0 0, .slice none 0 0] 30)) (⟨r650.2.heap.size, 0, none⟩) [.int .i64 n653, .int .i64 n654, .int .i64 n655, .slice q656.1 q656.2.1 q656.2.2, .slice q657.1 q657.2.1 q657.2.2, .slice q658.1 q658.2.1 q658.2.2] 0).bind fun w660 =>
if ((n649 : Int) == 0) = true then
((World.cell? (World.drew w660) (Addr.add (⟨r650.2.heap.size, 0, none⟩) 4)).bind fun v665 =>
(asSl v665).bind fun q666 =>
(callF Try.prog 19 #[.slice q666.1 q666.2.1 q666.2.2, .slice t28.1.1 t28.1.2.1 t28.1.2.2] (World.drew w660)).bind fun r669 =>
(asB r669.1).bind fun b670 =>
g4_j672 t640 t28 r70 r650 w660 b670 r669.2)
else
(g4_j672 t640 t28 r70 r650 w660 false (World.drew w660))

/-- behind the loop, left by ret -/
noncomputable def g4_l594_ret  (t753 : Bool × (Option Addr × Nat × Nat) × Int) (w754 : World) : Option (Value × World) :=
some (.bool t753.1, w754)

/-- behind the loop, left by x4 -/
noncomputable def g4_l56_x4 (p4 : Option Addr) (u1 : Int) (n44 : Int) (t28 : (Option Addr × Nat × Nat) × Int) (r30 : Value × World) (t68 : Bool × Int) (w69 : World) : Option (Value × World) :=
(callF Try.prog 15 #[.pointer p4, .int .i64 (IntKind.i64.wrap (Int.tmod u1 4))] w69).bind fun r70 =>
(asTup 2 r70.1).bind fun l71 =>
(Ev.asAgg 6 (l71.getD 0 undef)).bind fun l72 =>
(asI .i64 (l72.getD 0 undef)).bind fun n73 =>
(asI .i64 (l72.getD 1 undef)).bind fun n74 =>
(asI .i64 (l72.getD 2 undef)).bind fun n75 =>
(asSl (l72.getD 3 undef)).bind fun q76 =>
(asSl (l72.getD 4 undef)).bind fun q77 =>
(asSl (l72.getD 5 undef)).bind fun q78 =>
(asB (l71.getD 1 undef)).bind fun b79 =>
(stL (World.alloc r70.2 (.cells #[.int .i64 0, .int .i64 0, .int .i64 0, .slice none 0 0, .slice none 0 0, .slice none 0 0] 30)) (⟨r70.2.heap.size, 0, none⟩) [.int .i64 n73, .int .i64 n74, .int .i64 n75, .slice q76.1 q76.2.1 q76.2.2, .slice q77.1 q77.2.1 q77.2.2, .slice q78.1 q78.2.1 q78.2.2] 0).bind fun w80 =>
if ((n44 : Int) != 0) = true then
(some (.bool false, w80))
else
((World.cell? w80 (Addr.add (⟨r70.2.heap.size, 0, none⟩) 4)).bind fun v81 =>
(asSl v81).bind fun q82 =>
(callF Try.prog 19 #[.slice q82.1 q82.2.1 q82.2.2, .slice t28.1.1 t28.1.2.1 t28.1.2.2] w80).bind fun r83 =>
(asB r83.1).bind fun b84 =>
if (!(t68.1 == b84)) = true then
((World.cell? r83.2 (Addr.add (⟨r30.2.heap.size, 0, none⟩) 4)).bind fun v85 =>
(asSl v85).bind fun q86 =>
(callF Try.prog 19 #[.slice q86.1 q86.2.1 q86.2.2, .slice t28.1.1 t28.1.2.1 t28.1.2.2] r83.2).bind fun r87 =>
(asB r87.1).bind fun b88 =>
if (!b88) = true then
(some (.bool false, r87.2))
else
((World.cell? r87.2 (Addr.add (⟨r70.2.heap.size, 0, none⟩) 5)).bind fun v89 =>
(asSl v89).bind fun q90 =>
if (!(t68.1 == (((q90.2.1 : Int) : Int) == 0))) = true then
(some (.bool false, r87.2))
else
(if t68.1 = true then
((World.cell? r87.2 (Addr.add (⟨r70.2.heap.size, 0, none⟩) 3)).bind fun v92 =>
(asSl v92).bind fun q93 =>
(callF Try.prog 19 #[.slice q93.1 q93.2.1 q93.2.2, .slice t28.1.1 t28.1.2.1 t28.1.2.2] r87.2).bind fun r94 =>
(asB r94.1).bind fun b95 =>
if (!b95) = true then
(some (.bool false, r94.2))
else
(if t68.1 = true then
(some (.bool true, r94.2))
else
((World.cell? r94.2 (⟨r70.2.heap.size, 0, none⟩)).bind fun v96 =>
(asI .i64 v96).bind fun n97 =>
if (decide ((n97 : Int) < 0)) = true then
(some (.bool true, r94.2))
else
(g4_l98 p4 u1 t28 r70 (false, (none, 0, 0), 0) r94.2))))
else
(if t68.1 = true then
(some (.bool true, r87.2))
else
((World.cell? r87.2 (⟨r70.2.heap.size, 0, none⟩)).bind fun v259 =>
(asI .i64 v259).bind fun n260 =>
if (decide ((n260 : Int) < 0)) = true then
(some (.bool true, r87.2))
else
(g4_l261 p4 u1 t28 r70 (false, (none, 0, 0), 0) r87.2))))))
else
((World.cell? r83.2 (Addr.add (⟨r70.2.heap.size, 0, none⟩) 5)).bind fun v422 =>
(asSl v422).bind fun q423 =>
if (!(t68.1 == (((q423.2.1 : Int) : Int) == 0))) = true then
(some (.bool false, r83.2))
else
(if t68.1 = true then
((World.cell? r83.2 (Addr.add (⟨r70.2.heap.size, 0, none⟩) 3)).bind fun v425 =>
(asSl v425).bind fun q426 =>
(callF Try.prog 19 #[.slice q426.1 q426.2.1 q426.2.2, .slice t28.1.1 t28.1.2.1 t28.1.2.2] r83.2).bind fun r427 =>
(asB r427.1).bind fun b428 =>
if (!b428) = true then
(some (.bool false, r427.2))
else
(if t68.1 = true then
(some (.bool true, r427.2))
else
((World.cell? r427.2 (⟨r70.2.heap.size, 0, none⟩)).bind fun v429 =>
(asI .i64 v429).bind fun n430 =>
if (decide ((n430 : Int) < 0)) = true then
(some (.bool true, r427.2))
else
(g4_l431 p4 u1 t28 r70 (false, (none, 0, 0), 0) r427.2))))
else
(if t68.1 = true then
(some (.bool true, r83.2))
else
((World.cell? r83.2 (⟨r70.2.heap.size, 0, none⟩)).bind fun v592 =>
(asI .i64 v592).bind fun n593 =>
if (decide ((n593 : Int) < 0)) = true then
(some (.bool true, r83.2))
else
(g4_l594 p4 u1 t28 r70 (false, (none, 0, 0), 0) r83.2))))))

/-- behind the loop, left by x0 -/
noncomputable def g4_l5_x0 (p4 : Option Addr) (u1 : Int) (t28 : (Option Addr × Nat × Nat) × Int) (w29 : World) : Option (Value × World) :=
(callF Try.prog 15 #[.pointer p4, .int .i64 (IntKind.i64.wrap (Int.tmod u1 4))] w29).bind fun r30 =>
(asTup 2 r30.1).bind fun l31 =>
(Ev.asAgg 6 (l31.getD 0 undef)).bind fun l32 =>
(asI .i64 (l32.getD 0 undef)).bind fun n33 =>
(asI .i64 (l32.getD 1 undef)).bind fun n34 =>
(asI .i64 (l32.getD 2 undef)).bind fun n35 =>
(asSl (l32.getD 3 undef)).bind fun q36 =>
(asSl (l32.getD 4 undef)).bind fun q37 =>
(asSl (l32.getD 5 undef)).bind fun q38 =>
(asB (l31.getD 1 undef)).bind fun b39 =>
(stL (World.alloc r30.2 (.cells #[.int .i64 0, .int .i64 0, .int .i64 0, .slice none 0 0, .slice none 0 0, .slice none 0 0] 30)) (⟨r30.2.heap.size, 0, none⟩) [.int .i64 n33, .int .i64 n34, .int .i64 n35, .slice q36.1 q36.2.1 q36.2.2, .slice q37.1 q37.2.1 q37.2.2, .slice q38.1 q38.2.1 q38.2.2] 0).bind fun w40 =>
(callB Try.prog .append #[28, 28] 28 #[false, false] #[.slice (some (⟨w40.heap.size, 0, none⟩)) 0 0, .slice t28.1.1 t28.1.2.1 t28.1.2.2] (World.alloc w40 (.cells #[] 3))).bind fun r41 =>
(asSl r41.1).bind fun q42 =>
(callF Try.prog 13 #[.pointer p4, .agg #[.int .i64 4, .int .i64 0, .int .i64 (IntKind.i64.wrap (Int.tmod u1 4)), .int .i64 0, .int .i64 0, .slice q42.1 q42.2.1 q42.2.2]] r41.2).bind fun r43 =>
(asI .i64 r43.1).bind fun n44 =>
if (((t28.1.2.1 : Int) : Int) == 0) = true then
(if (((t28.1.2.1 : Int) : Int) == 0) = true then
(if ((n44 : Int) == 1) = true then
(some (.bool true, r43.2))
else
(if (decide (((t28.1.2.1 : Int) : Int) > 0)) = true then
(some (.bool ((n44 : Int) == 16), r43.2))
else
(some (.bool false, r43.2))))
else
(if (decide (((t28.1.2.1 : Int) : Int) > 0)) = true then
(some (.bool ((n44 : Int) == 16), r43.2))
else
(some (.bool false, r43.2))))
else
((World.cell? r43.2 (Addr.add (⟨r30.2.heap.size, 0, none⟩) 5)).bind fun v49 =>
(asSl v49).bind fun q50 =>
if (decide (((q50.2.1 : Int) : Int) > 0)) = true then
(if (((t28.1.2.1 : Int) : Int) == 0) = true then
(if ((n44 : Int) == 1) = true then
(some (.bool true, r43.2))
else
(if (decide (((t28.1.2.1 : Int) : Int) > 0)) = true then
(some (.bool ((n44 : Int) == 16), r43.2))
else
(some (.bool false, r43.2))))
else
(if (decide (((t28.1.2.1 : Int) : Int) > 0)) = true then
(some (.bool ((n44 : Int) == 16), r43.2))
else
(some (.bool false, r43.2))))
else
(g4_l56 p4 u1 t28 r30 n44 (true, 0) r43.2))

noncomputable def g4 (u0 : Option Addr × Nat × Nat) (u1 : Int) (u2 : Option Addr × Nat × Nat) (w0 : World) : Option (Value × World) :=
(callF Try.prog 12 #[] w0).bind fun r1 =>
(asB r1.1).bind fun b2 =>
if (!b2) = true then
(some (.bool false, r1.2))
else
((callF Try.prog 18 #[.slice u0.1 u0.2.1 u0.2.2] r1.2).bind fun r3 =>
(asP r3.1).bind fun p4 =>
g4_l5 u2 p4 u1 ((none, 0, 0), 0) r3.2)

theorem g4_eq (u0 : Option Addr × Nat × Nat) (u1 : Int) (u2 : Option Addr × Nat × Nat) (w0 : World) : evFn Try.prog 4 g4_ann #[.slice u0.1 u0.2.1 u0.2.2, .int .u8 u1, .slice u2.1 u2.2.1 u2.2.2] w0 = g4 u0 u1 u2 w0 := by kernel_rfl

theorem g4_call {u0 : Option Addr × Nat × Nat} {u1 : Int} {u2 : Option Addr × Nat × Nat} {w0 : World} {r : Value × World} (h : g4 u0 u1 u2 w0 = some r) : callF Try.prog 4 #[.slice u0.1 u0.2.1 u0.2.2, .int .u8 u1, .slice u2.1 u2.2.1 u2.2.2] w0 = some r :=
  callF_of_evFn (ann := g4_ann) Try.call4 (by kernel_rfl) ((g4_eq u0 u1 u2 w0).trans h)

theorem g4_l9_x2_of {u2 : Option Addr × Nat × Nat} {p4 : Option Addr} {u1 : Int} {s6 : (Option Addr × Nat × Nat) × Int} {s t : (Option Addr × Nat × Nat) × Int} {w w' : World} (h : loopS (g4_l9_b u2 s6 p4 u1) s w = some (.exit 2, t, w')) : g4_l9 u2 p4 u1 s6 s w = g4_l9_x2 s6 t w' := by
  have h1 : g4_l9 u2 p4 u1 s6 s w = loopM Try.prog 248 4 g4_ann (cAt [1, 1, 1, 1, 1, 0, 1, 0, 0, 1, 0, 0, 1, 0, 0] (bodyOf Try.f4)) [0, 1, 0, 0, 1, 0, 0, 1, 0, 1, 1, 1, 1, 1] (g4_K22 u2 p4 u1) ((g4_l9_cs u2 p4 u1 s6) ++ sputs [(9, .sl), (42, .i .i64)] s) w := by kernel_rfl
  have h2 : loopM Try.prog 248 4 g4_ann (cAt [1, 1, 1, 1, 1, 0, 1, 0, 0, 1, 0, 0, 1, 0, 0] (bodyOf Try.f4)) [0, 1, 0, 0, 1, 0, 0, 1, 0, 1, 1, 1, 1, 1] (g4_K22 u2 p4 u1) ((g4_l9_cs u2 p4 u1 s6) ++ sputs [(9, .sl), (42, .i .i64)] s) w = (g4_K22 u2 p4 u1) (.exit 2) (puts 248 ((g4_l9_cs u2 p4 u1 s6) ++ sputs [(9, .sl), (42, .i .i64)] t)) w' :=
    loop_rule (P := Try.prog) (N := 248) (f := 4) (ann := g4_ann) (body := (cAt [1, 1, 1, 1, 1, 0, 1, 0, 0, 1, 0, 0, 1, 0, 0] (bodyOf Try.f4))) (pt := [0, 1, 0, 0, 1, 0, 0, 1, 0, 1, 1, 1, 1, 1]) (K := (g4_K22 u2 p4 u1)) (g4_l9_cs u2 p4 u1 s6) [(9, .sl), (42, .i .i64)] (b := g4_l9_b u2 s6 p4 u1) (fun s w => by kernel_rfl) (by kernel_rfl) (by kernel_rfl) (by kernel_rfl) h
  have h3 : (g4_K22 u2 p4 u1) (.exit 2) (puts 248 ((g4_l9_cs u2 p4 u1 s6) ++ sputs [(9, .sl), (42, .i .i64)] t)) w' = g4_l9_x2 s6 t w' := by kernel_rfl
  exact h1.trans (h2.trans h3)

theorem g4_l98_x6_of {p4 : Option Addr} {u1 : Int} {t28 : (Option Addr × Nat × Nat) × Int} {r70 : Value × World} {s t : Bool × (Option Addr × Nat × Nat) × Int} {w w' : World} (h : loopS (g4_l98_b p4 t28 r70 u1) s w = some (.exit 6, t, w')) : g4_l98 p4 u1 t28 r70 s w = g4_l98_x6 r70 p4 u1 t28 t w' := by
  have h1 : g4_l98 p4 u1 t28 r70 s w = loopM Try.prog 248 4 g4_ann (cAt [1, 1, 1, 1, 1, 1, 1, 1, 1, 1, 1, 1, 1, 1, 1, 0, 1, 0, 0] (bodyOf Try.f4)) [0, 1, 0, 1, 1, 1, 1, 1, 1, 1, 1, 1, 1, 1, 1, 1, 1, 1] g4_K143 ((g4_l98_cs p4 u1 t28 r70) ++ sputs [(6, .b), (21, .sl), (22, .i .i64)] s) w := by kernel_rfl
  have h2 : loopM Try.prog 248 4 g4_ann (cAt [1, 1, 1, 1, 1, 1, 1, 1, 1, 1, 1, 1, 1, 1, 1, 0, 1, 0, 0] (bodyOf Try.f4)) [0, 1, 0, 1, 1, 1, 1, 1, 1, 1, 1, 1, 1, 1, 1, 1, 1, 1] g4_K143 ((g4_l98_cs p4 u1 t28 r70) ++ sputs [(6, .b), (21, .sl), (22, .i .i64)] s) w = g4_K143 (.exit 6) (puts 248 ((g4_l98_cs p4 u1 t28 r70) ++ sputs [(6, .b), (21, .sl), (22, .i .i64)] t)) w' :=
    loop_rule (P := Try.prog) (N := 248) (f := 4) (ann := g4_ann) (body := (cAt [1, 1, 1, 1, 1, 1, 1, 1, 1, 1, 1, 1, 1, 1, 1, 0, 1, 0, 0] (bodyOf Try.f4))) (pt := [0, 1, 0, 1, 1, 1, 1, 1, 1, 1, 1, 1, 1, 1, 1, 1, 1, 1]) (K := g4_K143) (g4_l98_cs p4 u1 t28 r70) [(6, .b), (21, .sl), (22, .i .i64)] (b := g4_l98_b p4 t28 r70 u1) (fun s w => by kernel_rfl) (by kernel_rfl) (by kernel_rfl) (by kernel_rfl) h
  have h3 : g4_K143 (.exit 6) (puts 248 ((g4_l98_cs p4 u1 t28 r70) ++ sputs [(6, .b), (21, .sl), (22, .i .i64)] t)) w' = g4_l98_x6 r70 p4 u1 t28 t w' := by kernel_rfl
  exact h1.trans (h2.trans h3)

theorem g4_l98_ret_of {p4 : Option Addr} {u1 : Int} {t28 : (Option Addr × Nat × Nat) × Int} {r70 : Value × World} {s t : Bool × (Option Addr × Nat × Nat) × Int} {w w' : World} (h : loopS (g4_l98_b p4 t28 r70 u1) s w = some (.ret, t, w')) : g4_l98 p4 u1 t28 r70 s w = g4_l98_ret t w' := by
  have h1 : g4_l98 p4 u1 t28 r70 s w = loopM Try.prog 248 4 g4_ann (cAt [1, 1, 1, 1, 1, 1, 1, 1, 1, 1, 1, 1, 1, 1, 1, 0, 1, 0, 0] (bodyOf Try.f4)) [0, 1, 0, 1, 1, 1, 1, 1, 1, 1, 1, 1, 1, 1, 1, 1, 1, 1] g4_K143 ((g4_l98_cs p4 u1 t28 r70) ++ sputs [(6, .b), (21, .sl), (22, .i .i64)] s) w := by kernel_rfl
  have h2 : loopM Try.prog 248 4 g4_ann (cAt [1, 1, 1, 1, 1, 1, 1, 1, 1, 1, 1, 1, 1, 1, 1, 0, 1, 0, 0] (bodyOf Try.f4)) [0, 1, 0, 1, 1, 1, 1, 1, 1, 1, 1, 1, 1, 1, 1, 1, 1, 1] g4_K143 ((g4_l98_cs p4 u1 t28 r70) ++ sputs [(6, .b), (21, .sl), (22, .i .i64)] s) w = g4_K143 (.ret) (puts 248 ((g4_l98_cs p4 u1 t28 r70) ++ sputs [(6, .b), (21, .sl), (22, .i .i64)] t)) w' :=
    loop_rule (P := Try.prog) (N := 248) (f := 4) (ann := g4_ann) (body := (cAt [1, 1, 1, 1, 1, 1, 1, 1, 1, 1, 1, 1, 1, 1, 1, 0, 1, 0, 0] (bodyOf Try.f4))) (pt := [0, 1, 0, 1, 1, 1, 1, 1, 1, 1, 1, 1, 1, 1, 1, 1, 1, 1]) (K := g4_K143) (g4_l98_cs p4 u1 t28 r70) [(6, .b), (21, .sl), (22, .i .i64)] (b := g4_l98_b p4 t28 r70 u1) (fun s w => by kernel_rfl) (by kernel_rfl) (by kernel_rfl) (by kernel_rfl) h
  have h3 : g4_K143 (.ret) (puts 248 ((g4_l98_cs p4 u1 t28 r70) ++ sputs [(6, .b), (21, .sl), (22, .i .i64)] t)) w' = g4_l98_ret t w' := by kernel_rfl
  exact h1.trans (h2.trans h3)

theorem g4_l261_x6_of {p4 : Option Addr} {u1 : Int} {t28 : (Option Addr × Nat × Nat) × Int} {r70 : Value × World} {s t : Bool × (Option Addr × Nat × Nat) × Int} {w w' : World} (h : loopS (g4_l261_b p4 t28 r70 u1) s w = some (.exit 6, t, w')) : g4_l261 p4 u1 t28 r70 s w = g4_l261_x6 r70 p4 u1 t28 t w' := by
  have h1 : g4_l261 p4 u1 t28 r70 s w = loopM Try.prog 248 4 g4_ann (cAt [1, 1, 1, 1, 1, 1, 1, 1, 1, 1, 1, 1, 1, 1, 1, 0, 1, 0, 0] (bodyOf Try.f4)) [0, 1, 0, 1, 1, 1, 1, 1, 1, 1, 1, 1, 1, 1, 1, 1, 1, 1] g4_K306 ((g4_l261_cs p4 u1 t28 r70) ++ sputs [(6, .b), (21, .sl), (22, .i .i64)] s) w := by kernel_rfl
  have h2 : loopM Try.prog 248 4 g4_ann (cAt [1, 1, 1, 1, 1, 1, 1, 1, 1, 1, 1, 1, 1, 1, 1, 0, 1, 0, 0] (bodyOf Try.f4)) [0, 1, 0, 1, 1, 1, 1, 1, 1, 1, 1, 1, 1, 1, 1, 1, 1, 1] g4_K306 ((g4_l261_cs p4 u1 t28 r70) ++ sputs [(6, .b), (21, .sl), (22, .i .i64)] s) w = g4_K306 (.exit 6) (puts 248 ((g4_l261_cs p4 u1 t28 r70) ++ sputs [(6, .b), (21, .sl), (22, .i .i64)] t)) w' :=
    loop_rule (P := Try.prog) (N := 248) (f := 4) (ann := g4_ann) (body := (cAt [1, 1, 1, 1, 1, 1, 1, 1, 1, 1, 1, 1, 1, 1, 1, 0, 1, 0, 0] (bodyOf Try.f4))) (pt := [0, 1, 0, 1, 1, 1, 1, 1, 1, 1, 1, 1, 1, 1, 1, 1, 1, 1]) (K := g4_K306) (g4_l261_cs p4 u1 t28 r70) [(6, .b), (21, .sl), (22, .i .i64)] (b := g4_l261_b p4 t28 r70 u1) (fun s w => by kernel_rfl) (by kernel_rfl) (by kernel_rfl) (by kernel_rfl) h
  have h3 : g4_K306 (.exit 6) (puts 248 ((g4_l261_cs p4 u1 t28 r70) ++ sputs [(6, .b), (21, .sl), (22, .i .i64)] t)) w' = g4_l261_x6 r70 p4 u1 t28 t w' := by kernel_rfl
  exact h1.trans (h2.trans h3)

theorem g4_l261_ret_of {p4 : Option Addr} {u1 : Int} {t28 : (Option Addr × Nat × Nat) × Int} {r70 : Value × World} {s t : Bool × (Option Addr × Nat × Nat) × Int} {w w' : World} (h : loopS (g4_l261_b p4 t28 r70 u1) s w = some (.ret, t, w')) : g4_l261 p4 u1 t28 r70 s w = g4_l261_ret t w' := by
  have h1 : g4_l261 p4 u1 t28 r70 s w = loopM Try.prog 248 4 g4_ann (cAt [1, 1, 1, 1, 1, 1, 1, 1, 1, 1, 1, 1, 1, 1, 1, 0, 1, 0, 0] (bodyOf Try.f4)) [0, 1, 0, 1, 1, 1, 1, 1, 1, 1, 1, 1, 1, 1, 1, 1, 1, 1] g4_K306 ((g4_l261_cs p4 u1 t28 r70) ++ sputs [(6, .b), (21, .sl), (22, .i .i64)] s) w := by kernel_rfl
  have h2 : loopM Try.prog 248 4 g4_ann (cAt [1, 1, 1, 1, 1, 1, 1, 1, 1, 1, 1, 1, 1, 1, 1, 0, 1, 0, 0] (bodyOf Try.f4)) [0, 1, 0, 1, 1, 1, 1, 1, 1, 1, 1, 1, 1, 1, 1, 1, 1, 1] g4_K306 ((g4_l261_cs p4 u1 t28 r70) ++ sputs [(6, .b), (21, .sl), (22, .i .i64)] s) w = g4_K306 (.ret) (puts 248 ((g4_l261_cs p4 u1 t28 r70) ++ sputs [(6, .b), (21, .sl), (22, .i .i64)] t)) w' :=
    loop_rule (P := Try.prog) (N := 248) (f := 4) (ann := g4_ann) (body := (cAt [1, 1, 1, 1, 1, 1, 1, 1, 1, 1, 1, 1, 1, 1, 1, 0, 1, 0, 0] (bodyOf Try.f4))) (pt := [0, 1, 0, 1, 1, 1, 1, 1, 1, 1, 1, 1, 1, 1, 1, 1, 1, 1]) (K := g4_K306) (g4_l261_cs p4 u1 t28 r70) [(6, .b), (21, .sl), (22, .i .i64)] (b := g4_l261_b p4 t28 r70 u1) (fun s w => by kernel_rfl) (by kernel_rfl) (by kernel_rfl) (by kernel_rfl) h
  have h3 : g4_K306 (.ret) (puts 248 ((g4_l261_cs p4 u1 t28 r70) ++ sputs [(6, .b), (21, .sl), (22, .i .i64)] t)) w' = g4_l261_ret t w' := by kernel_rfl
  exact h1.trans (h2.trans h3)

theorem g4_l431_x6_of {p4 : Option Addr} {u1 : Int} {t28 : (Option Addr × Nat × Nat) × Int} {r70 : Value × World} {s t : Bool × (Option Addr × Nat × Nat) × Int} {w w' : World} (h : loopS (g4_l431_b p4 t28 r70 u1) s w = some (.exit 6, t, w')) : g4_l431 p4 u1 t28 r70 s w = g4_l431_x6 r70 p4 u1 t28 t w' := by
  have h1 : g4_l431 p4 u1 t28 r70 s w = loopM Try.prog 248 4 g4_ann (cAt [1, 1, 1, 1, 1, 1, 1, 1, 1, 1, 1, 1, 1, 1, 1, 0, 1, 0, 0] (bodyOf Try.f4)) [0, 1, 0, 1, 1, 1, 1, 1, 1, 1, 1, 1, 1, 1, 1, 1, 1, 1] g4_K476 ((g4_l431_cs p4 u1 t28 r70) ++ sputs [(6, .b), (21, .sl), (22, .i .i64)] s) w := by kernel_rfl
  have h2 : loopM Try.prog 248 4 g4_ann (cAt [1, 1, 1, 1, 1, 1, 1, 1, 1, 1, 1, 1, 1, 1, 1, 0, 1, 0, 0] (bodyOf Try.f4)) [0, 1, 0, 1, 1, 1, 1, 1, 1, 1, 1, 1, 1, 1, 1, 1, 1, 1] g4_K476 ((g4_l431_cs p4 u1 t28 r70) ++ sputs [(6, .b), (21, .sl), (22, .i .i64)] s) w = g4_K476 (.exit 6) (puts 248 ((g4_l431_cs p4 u1 t28 r70) ++ sputs [(6, .b), (21, .sl), (22, .i .i64)] t)) w' :=
    loop_rule (P := Try.prog) (N := 248) (f := 4) (ann := g4_ann) (body := (cAt [1, 1, 1, 1, 1, 1, 1, 1, 1, 1, 1, 1, 1, 1, 1, 0, 1, 0, 0] (bodyOf Try.f4))) (pt := [0, 1, 0, 1, 1, 1, 1, 1, 1, 1, 1, 1, 1, 1, 1, 1, 1, 1]) (K := g4_K476) (g4_l431_cs p4 u1 t28 r70) [(6, .b), (21, .sl), (22, .i .i64)] (b := g4_l431_b p4 t28 r70 u1) (fun s w => by kernel_rfl) (by kernel_rfl) (by kernel_rfl) (by kernel_rfl) h
  have h3 : g4_K476 (.exit 6) (puts 248 ((g4_l431_cs p4 u1 t28 r70) ++ sputs [(6, .b), (21, .sl), (22, .i .i64)] t)) w' = g4_l431_x6 r70 p4 u1 t28 t w' := by kernel_rfl
  exact h1.trans (h2.trans h3)

theorem g4_l431_ret_of {p4 : Option Addr} {u1 : Int} {t28 : (Option Addr × Nat × Nat) × Int} {r70 : Value × World} {s t : Bool × (Option Addr × Nat × Nat) × Int} {w w' : World} (h : loopS (g4_l431_b p4 t28 r70 u1) s w = some (.ret, t, w')) : g4_l431 p4 u1 t28 r70 s w = g4_l431_ret t w' := by
  have h1 : g4_l431 p4 u1 t28 r70 s w = loopM Try.prog 248 4 g4_ann (cAt [1, 1, 1, 1, 1, 1, 1, 1, 1, 1, 1, 1, 1, 1, 1, 0, 1, 0, 0] (bodyOf Try.f4)) [0, 1, 0, 1, 1, 1, 1, 1, 1, 1, 1, 1, 1, 1, 1, 1, 1, 1] g4_K476 ((g4_l431_cs p4 u1 t28 r70) ++ sputs [(6, .b), (21, .sl), (22, .i .i64)] s) w := by kernel_rfl
  have h2 : loopM Try.prog 248 4 g4_ann (cAt [1, 1, 1, 1, 1, 1, 1, 1, 1, 1, 1, 1, 1, 1, 1, 0, 1, 0, 0] (bodyOf Try.f4)) [0, 1, 0, 1, 1, 1, 1, 1, 1, 1, 1, 1, 1, 1, 1, 1, 1, 1] g4_K476 ((g4_l431_cs p4 u1 t28 r70) ++ sputs [(6, .b), (21, .sl), (22, .i .i64)] s) w = g4_K476 (.ret) (puts 248 ((g4_l431_cs p4 u1 t28 r70) ++ sputs [(6, .b), (21, .sl), (22, .i .i64)] t)) w' :=
    loop_rule (P := Try.prog) (N := 248) (f := 4) (ann := g4_ann) (body := (cAt [1, 1, 1, 1, 1, 1, 1, 1, 1, 1, 1, 1, 1, 1, 1, 0, 1, 0, 0] (bodyOf Try.f4))) (pt := [0, 1, 0, 1, 1, 1, 1, 1, 1, 1, 1, 1, 1, 1, 1, 1, 1, 1]) (K := g4_K476) (g4_l431_cs p4 u1 t28 r70) [(6, .b), (21, .sl), (22, .i .i64)] (b := g4_l431_b p4 t28 r70 u1) (fun s w => by kernel_rfl) (by kernel_rfl) (by kernel_rfl) (by kernel_rfl) h
  have h3 : g4_K476 (.ret) (puts 248 ((g4_l431_cs p4 u1 t28 r70) ++ sputs [(6, .b), (21, .sl), (22, .i .i64)] t)) w' = g4_l431_ret t w' := by kernel_rfl
  exact h1.trans (h2.trans h3)

theorem g4_l594_x6_of {p4 : Option Addr} {u1 : Int} {t28 : (Option Addr × Nat × Nat) × Int} {r70 : Value × World} {s t : Bool × (Option Addr × Nat × Nat) × Int} {w w' : World} (h : loopS (g4_l594_b p4 t28 r70 u1) s w = some (.exit 6, t, w')) : g4_l594 p4 u1 t28 r70 s w = g4_l594_x6 r70 p4 u1 t28 t w' := by
  have h1 : g4_l594 p4 u1 t28 r70 s w = loopM Try.prog 248 4 g4_ann (cAt [1, 1, 1, 1, 1, 1, 1, 1, 1, 1, 1, 1, 1, 1, 1, 0, 1, 0, 0] (bodyOf Try.f4)) [0, 1, 0, 1, 1, 1, 1, 1, 1, 1, 1, 1, 1, 1, 1, 1, 1, 1] g4_K639 ((g4_l594_cs p4 u1 t28 r70) ++ sputs [(6, .b), (21, .sl), (22, .i .i64)] s) w := by kernel_rfl
  have h2 : loopM Try.prog 248 4 g4_ann (cAt [1, 1, 1, 1, 1, 1, 1, 1, 1, 1, 1, 1, 1, 1, 1, 0, 1, 0, 0] (bodyOf Try.f4)) [0, 1, 0, 1, 1, 1, 1, 1, 1, 1, 1, 1, 1, 1, 1, 1, 1, 1] g4_K639 ((g4_l594_cs p4 u1 t28 r70) ++ sputs [(6, .b), (21, .sl), (22, .i .i64)] s) w = g4_K639 (.exit 6) (puts 248 ((g4_l594_cs p4 u1 t28 r70) ++ sputs [(6, .b), (21, .sl), (22, .i .i64)] t)) w' :=
    loop_rule (P := Try.prog) (N := 248) (f := 4) (ann := g4_ann) (body := (cAt [1, 1, 1, 1, 1, 1, 1, 1, 1, 1, 1, 1, 1, 1, 1, 0, 1, 0, 0] (bodyOf Try.f4))) (pt := [0, 1, 0, 1, 1, 1, 1, 1, 1, 1, 1, 1, 1, 1, 1, 1, 1, 1]) (K := g4_K639) (g4_l594_cs p4 u1 t28 r70) [(6, .b), (21, .sl), (22, .i .i64)] (b := g4_l594_b p4 t28 r70 u1) (fun s w => by kernel_rfl) (by kernel_rfl) (by kernel_rfl) (by kernel_rfl) h
  have h3 : g4_K639 (.exit 6) (puts 248 ((g4_l594_cs p4 u1 t28 r70) ++ sputs [(6, .b), (21, .sl), (22, .i .i64)] t)) w' = g4_l594_x6 r70 p4 u1 t28 t w' := by kernel_rfl
  exact h1.trans (h2.trans h3)

theorem g4_l594_ret_of {p4 : Option Addr} {u1 : Int} {t28 : (Option Addr × Nat × Nat) × Int} {r70 : Value × World} {s t : Bool × (Option Addr × Nat × Nat) × Int} {w w' : World} (h : loopS (g4_l594_b p4 t28 r70 u1) s w = some (.ret, t, w')) : g4_l594 p4 u1 t28 r70 s w = g4_l594_ret t w' := by
  have h1 : g4_l594 p4 u1 t28 r70 s w = loopM Try.prog 248 4 g4_ann (cAt [1, 1, 1, 1, 1, 1, 1, 1, 1, 1, 1, 1, 1, 1, 1, 0, 1, 0, 0] (bodyOf Try.f4)) [0, 1, 0, 1, 1, 1, 1, 1, 1, 1, 1, 1, 1, 1, 1, 1, 1, 1] g4_K639 ((g4_l594_cs p4 u1 t28 r70) ++ sputs [(6, .b), (21, .sl), (22, .i .i64)] s) w := by kernel_rfl
  have h2 : loopM Try.prog 248 4 g4_ann (cAt [1, 1, 1, 1, 1, 1, 1, 1, 1, 1, 1, 1, 1, 1, 1, 0, 1, 0, 0] (bodyOf Try.f4)) [0, 1, 0, 1, 1, 1, 1, 1, 1, 1, 1, 1, 1, 1, 1, 1, 1, 1] g4_K639 ((g4_l594_cs p4 u1 t28 r70) ++ sputs [(6, .b), (21, .sl), (22, .i .i64)] s) w = g4_K639 (.ret) (puts 248 ((g4_l594_cs p4 u1 t28 r70) ++ sputs [(6, .b), (21, .sl), (22, .i .i64)] t)) w' :=
    loop_rule (P := Try.prog) (N := 248) (f := 4) (ann := g4_ann) (body := (cAt [1, 1, 1, 1, 1, 1, 1, 1, 1, 1, 1, 1, 1, 1, 1, 0, 1, 0, 0] (bodyOf Try.f4))) (pt := [0, 1, 0, 1, 1, 1, 1, 1, 1, 1, 1, 1, 1, 1, 1, 1, 1, 1]) (K := g4_K639) (g4_l594_cs p4 u1 t28 r70) [(6, .b), (21, .sl), (22, .i .i64)] (b := g4_l594_b p4 t28 r70 u1) (fun s w => by kernel_rfl) (by kernel_rfl) (by kernel_rfl) (by kernel_rfl) h
  have h3 : g4_K639 (.ret) (puts 248 ((g4_l594_cs p4 u1 t28 r70) ++ sputs [(6, .b), (21, .sl), (22, .i .i64)] t)) w' = g4_l594_ret t w' := by kernel_rfl
  exact h1.trans (h2.trans h3)

theorem g4_l56_x4_of {p4 : Option Addr} {u1 : Int} {t28 : (Option Addr × Nat × Nat) × Int} {r30 : Value × World} {n44 : Int} {s t : Bool × Int} {w w' : World} (h : loopS (g4_l56_b t28 r30 p4 u1 n44) s w = some (.exit 4, t, w')) : g4_l56 p4 u1 t28 r30 n44 s w = g4_l56_x4 p4 u1 n44 t28 r30 t w' := by
  have h1 : g4_l56 p4 u1 t28 r30 n44 s w = loopM Try.prog 248 4 g4_ann (cAt [1, 1, 1, 1, 1, 1, 1, 1, 1, 1, 0, 1, 0, 0] (bodyOf Try.f4)) [0, 1, 0, 1, 1, 1, 1, 1, 1, 1, 1, 1, 1] g4_K67 ((g4_l56_cs p4 u1 t28 r30 n44) ++ sputs [(16, .b), (102, .i .i64)] s) w := by kernel_rfl
  have h2 : loopM Try.prog 248 4 g4_ann (cAt [1, 1, 1, 1, 1, 1, 1, 1, 1, 1, 0, 1, 0, 0] (bodyOf Try.f4)) [0, 1, 0, 1, 1, 1, 1, 1, 1, 1, 1, 1, 1] g4_K67 ((g4_l56_cs p4 u1 t28 r30 n44) ++ sputs [(16, .b), (102, .i .i64)] s) w = g4_K67 (.exit 4) (puts 248 ((g4_l56_cs p4 u1 t28 r30 n44) ++ sputs [(16, .b), (102, .i .i64)] t)) w' :=
    loop_rule (P := Try.prog) (N := 248) (f := 4) (ann := g4_ann) (body := (cAt [1, 1, 1, 1, 1, 1, 1, 1, 1, 1, 0, 1, 0, 0] (bodyOf Try.f4))) (pt := [0, 1, 0, 1, 1, 1, 1, 1, 1, 1, 1, 1, 1]) (K := g4_K67) (g4_l56_cs p4 u1 t28 r30 n44) [(16, .b), (102, .i .i64)] (b := g4_l56_b t28 r30 p4 u1 n44) (fun s w => by kernel_rfl) (by kernel_rfl) (by kernel_rfl) (by kernel_rfl) h
  have h3 : g4_K67 (.exit 4) (puts 248 ((g4_l56_cs p4 u1 t28 r30 n44) ++ sputs [(16, .b), (102, .i .i64)] t)) w' = g4_l56_x4 p4 u1 n44 t28 r30 t w' := by kernel_rfl
  exact h1.trans (h2.trans h3)

theorem g4_l5_x0_of {u2 : Option Addr × Nat × Nat} {p4 : Option Addr} {u1 : Int} {s t : (Option Addr × Nat × Nat) × Int} {w w' : World} (h : loopS (g4_l5_b u2 p4 u1) s w = some (.exit 0, t, w')) : g4_l5 u2 p4 u1 s w = g4_l5_x0 p4 u1 t w' := by
  have h1 : g4_l5 u2 p4 u1 s w = loopM Try.prog 248 4 g4_ann (cAt [1, 1, 1, 1, 1, 0, 1, 0, 0] (bodyOf Try.f4)) [0, 1, 0, 1, 1, 1, 1, 1] g4_K27 ((g4_l5_cs u2 p4 u1) ++ sputs [(9, .sl), (10, .i .i64)] s) w := by kernel_rfl
  have h2 : loopM Try.prog 248 4 g4_ann (cAt [1, 1, 1, 1, 1, 0, 1, 0, 0] (bodyOf Try.f4)) [0, 1, 0, 1, 1, 1, 1, 1] g4_K27 ((g4_l5_cs u2 p4 u1) ++ sputs [(9, .sl), (10, .i .i64)] s) w = g4_K27 (.exit 0) (puts 248 ((g4_l5_cs u2 p4 u1) ++ sputs [(9, .sl), (10, .i .i64)] t)) w' :=
    loop_rule (P := Try.prog) (N := 248) (f := 4) (ann := g4_ann) (body := (cAt [1, 1, 1, 1, 1, 0, 1, 0, 0] (bodyOf Try.f4))) (pt := [0, 1, 0, 1, 1, 1, 1, 1]) (K := g4_K27) (g4_l5_cs u2 p4 u1) [(9, .sl), (10, .i .i64)] (b := g4_l5_b u2 p4 u1) (fun s w => by kernel_rfl) (by kernel_rfl) (by kernel_rfl) (by kernel_rfl) h
  have h3 : g4_K27 (.exit 0) (puts 248 ((g4_l5_cs u2 p4 u1) ++ sputs [(9, .sl), (10, .i .i64)] t)) w' = g4_l5_x0 p4 u1 t w' := by kernel_rfl
  exact h1.trans (h2.trans h3)

end Go.Proofs.Ytjcenfgmpbeldaa
