/-
  ImageV2: lemmas on what Go functions of this seat come to (for whatever arguments, as each says). No condition but those that stand in each lemma.
-/
import Derived.Test.YtjcenfgmpbeldaaLb9
import Derived.Test.YtjcenfgmpbeldaaProg
namespace Go.Proofs.Ytjcenfgmpbeldaa
open Go Go.Ev
set_option maxRecDepth 100000
set_option linter.unusedVariables false
/-! 21: penstock/penstockref13.New (nodes: int, parts: int, copies: int) -/
/-! 22: penstock/penstocklaw13.same (m: *image.Image, r: *penstockref13.Image) -/
def g22_ann : List (List Nat × List Nat) := [([0, 1, 0, 1, 1, 1, 1], [0, 1, 5, 6, 4, 10]), ([0, 1, 0, 1, 1, 1, 1, 1], [0, 1, 6, 4, 14]), ([0, 1, 0, 1, 1, 0, 0, 1, 0, 0, 1, 0, 1, 1, 1, 1, 1], [0, 1, 4, 6, 14, 15, 167, 168]), ([0, 1, 1, 1, 1, 0, 0, 1, 0, 0, 1, 0, 1, 1, 1, 1, 1], [0, 1, 4, 6, 14, 15, 178, 179]), ([0, 1, 0, 1, 1, 0, 0, 1, 0, 0, 1, 0, 1, 1, 1, 1, 1], [0, 1, 4, 6, 14, 15, 167, 168]), ([0, 1, 1, 1, 1, 0, 0, 1, 0, 0, 1, 0, 1, 1, 1, 1, 1], [0, 1, 4, 6, 14, 15, 178, 179]), ([0, 1, 0, 1, 1, 0, 0, 1, 0, 0, 1, 0, 1, 1, 1, 1, 1], [0, 1, 4, 6, 14, 15, 167, 168]), ([0, 1, 1, 1, 1, 0, 0, 1, 0, 0, 1, 0, 1, 1, 1, 1, 1], [0, 1, 4, 6, 14, 15, 178, 179]), ([0, 1, 0, 1, 1, 0, 0, 1, 0, 0, 1, 0, 1, 1, 1, 1, 1], [0, 1, 4, 6, 14, 15, 167, 168]), ([0, 1, 1, 1, 1, 0, 0, 1, 0, 0, 1, 0, 1, 1, 1, 1, 1], [0, 1, 4, 6, 14, 15, 178, 179])]

def g22_l27_cs (u0 : Option Addr) (u1 : Option Addr) (n3 : Int) (n4 : Int) : List (Nat × Value) := ([(0, .pointer u0), (1, .pointer u1), (5, .int .i64 n3), (6, .int .i64 n4)] : List (Nat × Value))

/-- the round of a loop (penstock/penstocklaw13.same) -/
noncomputable def g22_l27_b (n3 : Int) (u0 : Option Addr) (u1 : Option Addr) (n4 : Int) (s28 : Bool × Int) (w29 : World) : Option (Exit × (Bool × Int) × World) :=
if (decide ((s28.2 : Int) ≤ n3)) = true then
((callF Try.prog 16 #[.pointer u0, .int .i64 s28.2] w29).bind fun r30 =>
(asTup 3 r30.1).bind fun l31 =>
(asB (l31.getD 0 undef)).bind fun b32 =>
(asI .i64 (l31.getD 1 undef)).bind fun n33 =>
(asI .u64 (l31.getD 2 undef)).bind fun n34 =>
if (decide ((s28.2 : Int) < 0)) = true then
(if b32 = true then
(some (.ret, (false, s28.2), r30.2))
else
(if ((n33 : Int) != 0) = true then
(some (.ret, (false, s28.2), r30.2))
else
(if ((n34 : Int) != 0) = true then
(some (.ret, (false, s28.2), r30.2))
else
(some (.normal, (s28.1, (IntKind.i64.wrap (s28.2 + 1))), r30.2)))))
else
(if ((s28.2 : Int) == n3) = true then
(if b32 = true then
(some (.ret, (false, s28.2), r30.2))
else
(if ((n33 : Int) != 0) = true then
(some (.ret, (false, s28.2), r30.2))
else
(if ((n34 : Int) != 0) = true then
(some (.ret, (false, s28.2), r30.2))
else
(some (.normal, (s28.1, (IntKind.i64.wrap (s28.2 + 1))), r30.2)))))
else
(u1.bind fun a35 =>
(World.cell? r30.2 a35).bind fun v36 =>
(asSl v36).bind fun q37 =>
(idxA q37.1 q37.2.1 1 s28.2).bind fun a38 =>
(World.cell? r30.2 a38).bind fun v39 =>
(asB v39).bind fun b40 =>
if (!(b32 == b40)) = true then
(some (.ret, (false, s28.2), r30.2))
else
(u1.bind fun a41 =>
(World.cell? r30.2 (Addr.add a41 1)).bind fun v42 =>
(asSl v42).bind fun q43 =>
(idxA q43.1 q43.2.1 1 s28.2).bind fun a44 =>
(World.cell? r30.2 a44).bind fun v45 =>
(asI .i64 v45).bind fun n46 =>
if ((n33 : Int) != n46) = true then
(some (.ret, (false, s28.2), r30.2))
else
(u1.bind fun a47 =>
(World.cell? r30.2 (Addr.add a47 2)).bind fun v48 =>
(asSl v48).bind fun q49 =>
(idxA q49.1 q49.2.1 1 s28.2).bind fun a50 =>
(World.cell? r30.2 a50).bind fun v51 =>
(asI .u64 v51).bind fun n52 =>
if ((n34 : Int) != n52) = true then
(some (.ret, (false, s28.2), r30.2))
else
(some (.normal, (s28.1, (IntKind.i64.wrap (s28.2 + 1))), r30.2)))))))
else
(some ((.exit 0), (s28.1, s28.2), w29))

noncomputable def g22_K53  : Exit → Env → World → Option (Value × World) :=
  retK Try.prog Try.f22.results.toList

noncomputable def g22_K54  : Exit → Env → World → Option (Value × World) :=
  seqK (ev Try.prog 187 22 g22_ann (cAt [1, 1, 1, 1, 1] (bodyOf Try.f22)) [1, 1, 1, 1, 1] g22_K53) g22_K53

noncomputable def g22_K55  : Exit → Env → World → Option (Value × World) :=
  blkK 0 g22_K54

/-- the loop, from a state on -/
noncomputable def g22_l27 (u0 : Option Addr) (u1 : Option Addr) (n3 : Int) (n4 : Int) (s : Bool × Int) (w : World) : Option (Value × World) :=
  loopM Try.prog 187 22 g22_ann (cAt [1, 1, 1, 1, 0, 1, 0, 0] (bodyOf Try.f22)) [0, 1, 0, 1, 1, 1, 1] g22_K55 ((g22_l27_cs u0 u1 n3 n4) ++ sputs [(4, .b), (10, .i .i64)] s) w

def g22_l58_cs (u0 : Option Addr) (u1 : Option Addr) (n4 : Int) : List (Nat × Value) := ([(0, .pointer u0), (1, .pointer u1), (6, .int .i64 n4)] : List (Nat × Value))

def g22_l95_cs (u0 : Option Addr) (u1 : Option Addr) (s59 : Bool × Int) (n4 : Int) (r61 : Value × World) (q93 : Option Addr × Nat × Nat) : List (Nat × Value) := ([(0, .pointer u0), (1, .pointer u1), (4, .bool s59.1), (6, .int .i64 n4), (14, .int .i64 s59.2), (15, .pointer (some (⟨r61.2.heap.size, 0, none⟩))), (167, .int .i64 (q93.2.1 : Int))] : List (Nat × Value))

/-- the round of a loop (penstock/penstocklaw13.same) -/
noncomputable def g22_l95_b (q93 : Option Addr × Nat × Nat) (r61 : Value × World) (u0 : Option Addr) (u1 : Option Addr) (s59 : Bool × Int) (n4 : Int) (s96 : Int) (w97 : World) : Option (Exit × (Int) × World) :=
if (decide ((s96 : Int) < (q93.2.1 : Int))) = true then
((World.cell? w97 (Addr.add (⟨r61.2.heap.size, 0, none⟩) 3)).bind fun v98 =>
(asSl v98).bind fun q99 =>
(idxA q99.1 q99.2.1 1 s96).bind fun a100 =>
(st1 w97 a100 (.int .i64 7)).bind fun w101 =>
some (.normal, (IntKind.i64.wrap (s96 + 1)), w101))
else
(some ((.exit 4), s96, w97))

noncomputable def g22_K102 (u0 : Option Addr) (u1 : Option Addr) (n4 : Int) : Exit → Env → World → Option (Exit × (Bool × Int) × World) :=
  fun e ρ w => ((List.map (·.1) (g22_l58_cs u0 u1 n4)).mapM ρ).bind fun _ => loopK [(4, .b), (14, .i .i64)] e ρ w

noncomputable def g22_K103 (u0 : Option Addr) (u1 : Option Addr) (n4 : Int) : Exit → Env → World → Option (Exit × (Bool × Int) × World) :=
  seqK (ev Try.prog 187 22 g22_ann (cAt [1, 1, 1, 1, 1, 0, 1, 0, 0, 1, 1] (bodyOf Try.f22)) [1, 1, 0, 0, 1, 0, 1, 1, 1, 1, 1] (g22_K102 u0 u1 n4)) (g22_K102 u0 u1 n4)

noncomputable def g22_K104 (u0 : Option Addr) (u1 : Option Addr) (n4 : Int) : Exit → Env → World → Option (Exit × (Bool × Int) × World) :=
  blkK 3 (g22_K103 u0 u1 n4)

noncomputable def g22_K105 (u0 : Option Addr) (u1 : Option Addr) (n4 : Int) : Exit → Env → World → Option (Exit × (Bool × Int) × World) :=
  seqK (ev Try.prog 187 22 g22_ann (cAt [1, 1, 1, 1, 1, 0, 1, 0, 0, 1, 0, 0, 1, 1, 1] (bodyOf Try.f22)) [1, 1, 1, 0, 0, 1, 0, 0, 1, 0, 1, 1, 1, 1, 1] (g22_K104 u0 u1 n4)) (g22_K104 u0 u1 n4)

noncomputable def g22_K106 (u0 : Option Addr) (u1 : Option Addr) (n4 : Int) : Exit → Env → World → Option (Exit × (Bool × Int) × World) :=
  blkK 4 (g22_K105 u0 u1 n4)

/-- the loop, from a state on -/
noncomputable def g22_l95 (u0 : Option Addr) (u1 : Option Addr) (s59 : Bool × Int) (n4 : Int) (r61 : Value × World) (q93 : Option Addr × Nat × Nat) (s : Int) (w : World) : Option (Exit × (Bool × Int) × World) :=
  loopM Try.prog 187 22 g22_ann (cAt [1, 1, 1, 1, 1, 0, 1, 0, 0, 1, 0, 0, 1, 1, 0, 1, 0, 0] (bodyOf Try.f22)) [0, 1, 0, 1, 1, 0, 0, 1, 0, 0, 1, 0, 1, 1, 1, 1, 1] (g22_K106 u0 u1 n4) ((g22_l95_cs u0 u1 s59 n4 r61 q93) ++ sputs [(168, .i .i64)] s) w

def g22_l112_cs (u0 : Option Addr) (u1 : Option Addr) (s59 : Bool × Int) (n4 : Int) (r61 : Value × World) (q110 : Option Addr × Nat × Nat) : List (Nat × Value) := ([(0, .pointer u0), (1, .pointer u1), (4, .bool s59.1), (6, .int .i64 n4), (14, .int .i64 s59.2), (15, .pointer (some (⟨r61.2.heap.size, 0, none⟩))), (178, .int .i64 (q110.2.1 : Int))] : List (Nat × Value))

/-- the round of a loop (penstock/penstocklaw13.same) -/
noncomputable def g22_l112_b (q110 : Option Addr × Nat × Nat) (r61 : Value × World) (u0 : Option Addr) (u1 : Option Addr) (s59 : Bool × Int) (n4 : Int) (s113 : Int) (w114 : World) : Option (Exit × (Int) × World) :=
if (decide ((s113 : Int) < (q110.2.1 : Int))) = true then
((World.cell? w114 (Addr.add (⟨r61.2.heap.size, 0, none⟩) 4)).bind fun v115 =>
(asSl v115).bind fun q116 =>
(idxA q116.1 q116.2.1 1 s113).bind fun a117 =>
(st1 w114 a117 (.int .i64 7)).bind fun w118 =>
some (.normal, (IntKind.i64.wrap (s113 + 1)), w118))
else
(some ((.exit 6), s113, w114))

noncomputable def g22_K119 (u0 : Option Addr) (u1 : Option Addr) (n4 : Int) : Exit → Env → World → Option (Exit × (Bool × Int) × World) :=
  blkK 6 (g22_K104 u0 u1 n4)

/-- the loop, from a state on -/
noncomputable def g22_l112 (u0 : Option Addr) (u1 : Option Addr) (s59 : Bool × Int) (n4 : Int) (r61 : Value × World) (q110 : Option Addr × Nat × Nat) (s : Int) (w : World) : Option (Exit × (Bool × Int) × World) :=
  loopM Try.prog 187 22 g22_ann (cAt [1, 1, 1, 1, 1, 0, 1, 0, 0, 1, 0, 0, 1, 1, 1, 1, 0, 0] (bodyOf Try.f22)) [0, 1, 1, 1, 1, 0, 0, 1, 0, 0, 1, 0, 1, 1, 1, 1, 1] (g22_K119 u0 u1 n4) ((g22_l112_cs u0 u1 s59 n4 r61 q110) ++ sputs [(179, .i .i64)] s) w

/-- behind the loop, left by x6 -/
noncomputable def g22_l112_x6 (s59 : Bool × Int) (t120 : Int) (w121 : World) : Option (Exit × (Bool × Int) × World) :=
some (.normal, (s59.1, (IntKind.i64.wrap (s59.2 + 1))), w121)

/-- behind the loop, left by x4 -/
noncomputable def g22_l95_x4 (r61 : Value × World) (u0 : Option Addr) (u1 : Option Addr) (s59 : Bool × Int) (n4 : Int) (t107 : Int) (w108 : World) : Option (Exit × (Bool × Int) × World) :=
(World.cell? w108 (Addr.add (⟨r61.2.heap.size, 0, none⟩) 4)).bind fun v109 =>
(asSl v109).bind fun q110 =>
g22_l112 u0 u1 s59 n4 r61 q110 0 w108

def g22_l125_cs (u0 : Option Addr) (u1 : Option Addr) (s59 : Bool × Int) (n4 : Int) (r61 : Value × World) (q123 : Option Addr × Nat × Nat) : List (Nat × Value) := ([(0, .pointer u0), (1, .pointer u1), (4, .bool s59.1), (6, .int .i64 n4), (14, .int .i64 s59.2), (15, .pointer (some (⟨r61.2.heap.size, 0, none⟩))), (167, .int .i64 (q123.2.1 : Int))] : List (Nat × Value))

/-- the round of a loop (penstock/penstocklaw13.same) -/
noncomputable def g22_l125_b (q123 : Option Addr × Nat × Nat) (r61 : Value × World) (u0 : Option Addr) (u1 : Option Addr) (s59 : Bool × Int) (n4 : Int) (s126 : Int) (w127 : World) : Option (Exit × (Int) × World) :=
if (decide ((s126 : Int) < (q123.2.1 : Int))) = true then
((World.cell? w127 (Addr.add (⟨r61.2.heap.size, 0, none⟩) 3)).bind fun v128 =>
(asSl v128).bind fun q129 =>
(idxA q129.1 q129.2.1 1 s126).bind fun a130 =>
(st1 w127 a130 (.int .i64 7)).bind fun w131 =>
some (.normal, (IntKind.i64.wrap (s126 + 1)), w131))
else
(some ((.exit 4), s126, w127))

noncomputable def g22_K132 (u0 : Option Addr) (u1 : Option Addr) (n4 : Int) : Exit → Env → World → Option (Exit × (Bool × Int) × World) :=
  seqK (ev Try.prog 187 22 g22_ann (cAt [1, 1, 1, 1, 1, 0, 1, 0, 0, 1, 0, 0, 1, 1, 1] (bodyOf Try.f22)) [1, 1, 1, 0, 0, 1, 0, 0, 1, 0, 1, 1, 1, 1, 1] (g22_K104 u0 u1 n4)) (g22_K104 u0 u1 n4)

noncomputable def g22_K133 (u0 : Option Addr) (u1 : Option Addr) (n4 : Int) : Exit → Env → World → Option (Exit × (Bool × Int) × World) :=
  blkK 4 (g22_K132 u0 u1 n4)

/-- the loop, from a state on -/
noncomputable def g22_l125 (u0 : Option Addr) (u1 : Option Addr) (s59 : Bool × Int) (n4 : Int) (r61 : Value × World) (q123 : Option Addr × Nat × Nat) (s : Int) (w : World) : Option (Exit × (Bool × Int) × World) :=
  loopM Try.prog 187 22 g22_ann (cAt [1, 1, 1, 1, 1, 0, 1, 0, 0, 1, 0, 0, 1, 1, 0, 1, 0, 0] (bodyOf Try.f22)) [0, 1, 0, 1, 1, 0, 0, 1, 0, 0, 1, 0, 1, 1, 1, 1, 1] (g22_K133 u0 u1 n4) ((g22_l125_cs u0 u1 s59 n4 r61 q123) ++ sputs [(168, .i .i64)] s) w

def g22_l139_cs (u0 : Option Addr) (u1 : Option Addr) (s59 : Bool × Int) (n4 : Int) (r61 : Value × World) (q137 : Option Addr × Nat × Nat) : List (Nat × Value) := ([(0, .pointer u0), (1, .pointer u1), (4, .bool s59.1), (6, .int .i64 n4), (14, .int .i64 s59.2), (15, .pointer (some (⟨r61.2.heap.size, 0, none⟩))), (178, .int .i64 (q137.2.1 : Int))] : List (Nat × Value))

/-- the round of a loop (penstock/penstocklaw13.same) -/
noncomputable def g22_l139_b (q137 : Option Addr × Nat × Nat) (r61 : Value × World) (u0 : Option Addr) (u1 : Option Addr) (s59 : Bool × Int) (n4 : Int) (s140 : Int) (w141 : World) : Option (Exit × (Int) × World) :=
if (decide ((s140 : Int) < (q137.2.1 : Int))) = true then
((World.cell? w141 (Addr.add (⟨r61.2.heap.size, 0, none⟩) 4)).bind fun v142 =>
(asSl v142).bind fun q143 =>
(idxA q143.1 q143.2.1 1 s140).bind fun a144 =>
(st1 w141 a144 (.int .i64 7)).bind fun w145 =>
some (.normal, (IntKind.i64.wrap (s140 + 1)), w145))
else
(some ((.exit 6), s140, w141))

noncomputable def g22_K146 (u0 : Option Addr) (u1 : Option Addr) (n4 : Int) : Exit → Env → World → Option (Exit × (Bool × Int) × World) :=
  blkK 6 (g22_K104 u0 u1 n4)

/-- the loop, from a state on -/
noncomputable def g22_l139 (u0 : Option Addr) (u1 : Option Addr) (s59 : Bool × Int) (n4 : Int) (r61 : Value × World) (q137 : Option Addr × Nat × Nat) (s : Int) (w : World) : Option (Exit × (Bool × Int) × World) :=
  loopM Try.prog 187 22 g22_ann (cAt [1, 1, 1, 1, 1, 0, 1, 0, 0, 1, 0, 0, 1, 1, 1, 1, 0, 0] (bodyOf Try.f22)) [0, 1, 1, 1, 1, 0, 0, 1, 0, 0, 1, 0, 1, 1, 1, 1, 1] (g22_K146 u0 u1 n4) ((g22_l139_cs u0 u1 s59 n4 r61 q137) ++ sputs [(179, .i .i64)] s) w

/-- behind the loop, left by x6 -/
noncomputable def g22_l139_x6 (s59 : Bool × Int) (t147 : Int) (w148 : World) : Option (Exit × (Bool × Int) × World) :=
some (.normal, (s59.1, (IntKind.i64.wrap (s59.2 + 1))), w148)

/-- behind the loop, left by x4 -/
noncomputable def g22_l125_x4 (r61 : Value × World) (u0 : Option Addr) (u1 : Option Addr) (s59 : Bool × Int) (n4 : Int) (t134 : Int) (w135 : World) : Option (Exit × (Bool × Int) × World) :=
(World.cell? w135 (Addr.add (⟨r61.2.heap.size, 0, none⟩) 4)).bind fun v136 =>
(asSl v136).bind fun q137 =>
g22_l139 u0 u1 s59 n4 r61 q137 0 w135

def g22_l172_cs (u0 : Option Addr) (u1 : Option Addr) (s59 : Bool × Int) (n4 : Int) (r61 : Value × World) (q170 : Option Addr × Nat × Nat) : List (Nat × Value) := ([(0, .pointer u0), (1, .pointer u1), (4, .bool s59.1), (6, .int .i64 n4), (14, .int .i64 s59.2), (15, .pointer (some (⟨r61.2.heap.size, 0, none⟩))), (167, .int .i64 (q170.2.1 : Int))] : List (Nat × Value))

noncomputable def g22_K179 (u0 : Option Addr) (u1 : Option Addr) (n4 : Int) : Exit → Env → World → Option (Exit × (Bool × Int) × World) :=
  seqK (ev Try.prog 187 22 g22_ann (cAt [1, 1, 1, 1, 1, 0, 1, 0, 0, 1, 0, 0, 1, 1, 1] (bodyOf Try.f22)) [1, 1, 1, 0, 0, 1, 0, 0, 1, 0, 1, 1, 1, 1, 1] (g22_K104 u0 u1 n4)) (g22_K104 u0 u1 n4)

noncomputable def g22_K180 (u0 : Option Addr) (u1 : Option Addr) (n4 : Int) : Exit → Env → World → Option (Exit × (Bool × Int) × World) :=
  blkK 4 (g22_K179 u0 u1 n4)

/-- the loop, from a state on -/
noncomputable def g22_l172 (u0 : Option Addr) (u1 : Option Addr) (s59 : Bool × Int) (n4 : Int) (r61 : Value × World) (q170 : Option Addr × Nat × Nat) (s : Int) (w : World) : Option (Exit × (Bool × Int) × World) :=
  loopM Try.prog 187 22 g22_ann (cAt [1, 1, 1, 1, 1, 0, 1, 0, 0, 1, 0, 0, 1, 1, 0, 1, 0, 0] (bodyOf Try.f22)) [0, 1, 0, 1, 1, 0, 0, 1, 0, 0, 1, 0, 1, 1, 1, 1, 1] (g22_K180 u0 u1 n4) ((g22_l172_cs u0 u1 s59 n4 r61 q170) ++ sputs [(168, .i .i64)] s) w

def g22_l199_cs (u0 : Option Addr) (u1 : Option Addr) (s59 : Bool × Int) (n4 : Int) (r61 : Value × World) (q197 : Option Addr × Nat × Nat) : List (Nat × Value) := ([(0, .pointer u0), (1, .pointer u1), (4, .bool s59.1), (6, .int .i64 n4), (14, .int .i64 s59.2), (15, .pointer (some (⟨r61.2.heap.size, 0, none⟩))), (167, .int .i64 (q197.2.1 : Int))] : List (Nat × Value))

/-- the round of a loop (penstock/penstocklaw13.same) -/
noncomputable def g22_l199_b (q197 : Option Addr × Nat × Nat) (r61 : Value × World) (u0 : Option Addr) (u1 : Option Addr) (s59 : Bool × Int) (n4 : Int) (s200 : Int) (w201 : World) : Option (Exit × (Int) × World) :=
if (decide ((s200 : Int) < (q197.2.1 : Int))) = true then
((World.cell? w201 (Addr.add (⟨r61.2.heap.size, 0, none⟩) 3)).bind fun v202 =>
(asSl v202).bind fun q203 =>
(idxA q203.1 q203.2.1 1 s200).bind fun a204 =>
(st1 w201 a204 (.int .i64 7)).bind fun w205 =>
some (.normal, (IntKind.i64.wrap (s200 + 1)), w205))
else
(some ((.exit 4), s200, w201))

noncomputable def g22_K206 (u0 : Option Addr) (u1 : Option Addr) (n4 : Int) : Exit → Env → World → Option (Exit × (Bool × Int) × World) :=
  seqK (ev Try.prog 187 22 g22_ann (cAt [1, 1, 1, 1, 1, 0, 1, 0, 0, 1, 0, 0, 1, 1, 1] (bodyOf Try.f22)) [1, 1, 1, 0, 0, 1, 0, 0, 1, 0, 1, 1, 1, 1, 1] (g22_K104 u0 u1 n4)) (g22_K104 u0 u1 n4)

noncomputable def g22_K207 (u0 : Option Addr) (u1 : Option Addr) (n4 : Int) : Exit → Env → World → Option (Exit × (Bool × Int) × World) :=
  blkK 4 (g22_K206 u0 u1 n4)

/-- the loop, from a state on -/
noncomputable def g22_l199 (u0 : Option Addr) (u1 : Option Addr) (s59 : Bool × Int) (n4 : Int) (r61 : Value × World) (q197 : Option Addr × Nat × Nat) (s : Int) (w : World) : Option (Exit × (Bool × Int) × World) :=
  loopM Try.prog 187 22 g22_ann (cAt [1, 1, 1, 1, 1, 0, 1, 0, 0, 1, 0, 0, 1, 1, 0, 1, 0, 0] (bodyOf Try.f22)) [0, 1, 0, 1, 1, 0, 0, 1, 0, 0, 1, 0, 1, 1, 1, 1, 1] (g22_K207 u0 u1 n4) ((g22_l199_cs u0 u1 s59 n4 r61 q197) ++ sputs [(168, .i .i64)] s) w

def g22_l213_cs (u0 : Option Addr) (u1 : Option Addr) (s59 : Bool × Int) (n4 : Int) (r61 : Value × World) (q211 : Option Addr × Nat × Nat) : List (Nat × Value) := ([(0, .pointer u0), (1, .pointer u1), (4, .bool s59.1), (6, .int .i64 n4), (14, .int .i64 s59.2), (15, .pointer (some (⟨r61.2.heap.size, 0, none⟩))), (178, .int .i64 (q211.2.1 : Int))] : List (Nat × Value))

/-- the round of a loop (penstock/penstocklaw13.same) -/
noncomputable def g22_l213_b (q211 : Option Addr × Nat × Nat) (r61 : Value × World) (u0 : Option Addr) (u1 : Option Addr) (s59 : Bool × Int) (n4 : Int) (s214 : Int) (w215 : World) : Option (Exit × (Int) × World) :=
if (decide ((s214 : Int) < (q211.2.1 : Int))) = true then
((World.cell? w215 (Addr.add (⟨r61.2.heap.size, 0, none⟩) 4)).bind fun v216 =>
(asSl v216).bind fun q217 =>
(idxA q217.1 q217.2.1 1 s214).bind fun a218 =>
(st1 w215 a218 (.int .i64 7)).bind fun w219 =>
some (.normal, (IntKind.i64.wrap (s214 + 1)), w219))
else
(some ((.exit 6), s214, w215))

noncomputable def g22_K220 (u0 : Option Addr) (u1 : Option Addr) (n4 : Int) : Exit → Env → World → Option (Exit × (Bool × Int) × World) :=
  blkK 6 (g22_K104 u0 u1 n4)

/-- the loop, from a state on -/
noncomputable def g22_l213 (u0 : Option Addr) (u1 : Option Addr) (s59 : Bool × Int) (n4 : Int) (r61 : Value × World) (q211 : Option Addr × Nat × Nat) (s : Int) (w : World) : Option (Exit × (Bool × Int) × World) :=
  loopM Try.prog 187 22 g22_ann (cAt [1, 1, 1, 1, 1, 0, 1, 0, 0, 1, 0, 0, 1, 1, 1, 1, 0, 0] (bodyOf Try.f22)) [0, 1, 1, 1, 1, 0, 0, 1, 0, 0, 1, 0, 1, 1, 1, 1, 1] (g22_K220 u0 u1 n4) ((g22_l213_cs u0 u1 s59 n4 r61 q211) ++ sputs [(179, .i .i64)] s) w

/-- behind the loop, left by x6 -/
noncomputable def g22_l213_x6 (s59 : Bool × Int) (t221 : Int) (w222 : World) : Option (Exit × (Bool × Int) × World) :=
some (.normal, (s59.1, (IntKind.i64.wrap (s59.2 + 1))), w222)

/-- behind the loop, left by x4 -/
noncomputable def g22_l199_x4 (r61 : Value × World) (u0 : Option Addr) (u1 : Option Addr) (s59 : Bool × Int) (n4 : Int) (t208 : Int) (w209 : World) : Option (Exit × (Bool × Int) × World) :=
(World.cell? w209 (Addr.add (⟨r61.2.heap.size, 0, none⟩) 4)).bind fun v210 =>
(asSl v210).bind fun q211 =>
g22_l213 u0 u1 s59 n4 r61 q211 0 w209

/-- the round of a loop (penstock/penstocklaw13.same) -/
noncomputable def g22_l58_b (n4 : Int) (u0 : Option Addr) (u1 : Option Addr) (s59 : Bool × Int) (w60 : World) : Option (Exit × (Bool × Int) × World) :=
if (decide ((s59.2 : Int) ≤ n4)) = true then
((callF Try.prog 15 #[.pointer u0, .int .i64 s59.2] w60).bind fun r61 =>
(asTup 2 r61.1).bind fun l62 =>
(Ev.asAgg 6 (l62.getD 0 undef)).bind fun l63 =>
(asI .i64 (l63.getD 0 undef)).bind fun n64 =>
(asI .i64 (l63.getD 1 undef)).bind fun n65 =>
(asI .i64 (l63.getD 2 undef)).bind fun n66 =>
(asSl (l63.getD 3 undef)).bind fun q67 =>
(asSl (l63.getD 4 undef)).bind fun q68 =>
(asSl (l63.getD 5 undef)).bind fun q69 =>
(asB (l62.getD 1 undef)).bind fun b70 =>
(stL (World.alloc r61.2 (.cells #[.int .i64 0, .int .i64 0, .int .i64 0, .slice none 0 0, .slice none 0 0, .slice none 0 0] 30)) (⟨r61.2.heap.size, 0, none⟩) [.int .i64 n64, .int .i64 n65, .int .i64 n66, .slice q67.1 q67.2.1 q67.2.2, .slice q68.1 q68.2.1 q68.2.2, .slice q69.1 q69.2.1 q69.2.2] 0).bind fun w71 =>
if (decide ((s59.2 : Int) ≥ 0)) = true then
(if (!(b70 == (decide ((s59.2 : Int) < n4)))) = true then
(some (.ret, (false, s59.2), (World.drew w71)))
else
(if b70 = true then
((ldN (World.drew w71) (⟨r61.2.heap.size, 0, none⟩) 0 6).bind fun l72 =>
(asI .i64 (l72.getD 0 undef)).bind fun n73 =>
(asI .i64 (l72.getD 1 undef)).bind fun n74 =>
(asI .i64 (l72.getD 2 undef)).bind fun n75 =>
(asSl (l72.getD 3 undef)).bind fun q76 =>
(asSl (l72.getD 4 undef)).bind fun q77 =>
(asSl (l72.getD 5 undef)).bind fun q78 =>
u1.bind fun a79 =>
(World.cell? (World.drew w71) (Addr.add a79 3)).bind fun v80 =>
(asSl v80).bind fun q81 =>
(idxA q81.1 q81.2.1 6 s59.2).bind fun a82 =>
(ldN (World.drew w71) a82 0 6).bind fun l83 =>
(asI .i64 (l83.getD 0 undef)).bind fun n84 =>
(asI .i64 (l83.getD 1 undef)).bind fun n85 =>
(asI .i64 (l83.getD 2 undef)).bind fun n86 =>
(asSl (l83.getD 3 undef)).bind fun q87 =>
(asSl (l83.getD 4 undef)).bind fun q88 =>
(asSl (l83.getD 5 undef)).bind fun q89 =>
(callF Try.prog 43 #[.agg #[.int .i64 n73, .int .i64 n74, .int .i64 n75, .slice q76.1 q76.2.1 q76.2.2, .slice q77.1 q77.2.1 q77.2.2, .slice q78.1 q78.2.1 q78.2.2], .agg #[.int .i64 n84, .int .i64 n85, .int .i64 n86, .slice q87.1 q87.2.1 q87.2.2, .slice q88.1 q88.2.1 q88.2.2, .slice q89.1 q89.2.1 q89.2.2]] (World.drew w71)).bind fun r90 =>
(asB r90.1).bind fun b91 =>
if (!b91) = true then
(some (.ret, (false, s59.2), r90.2))
else
((World.cell? r90.2 (Addr.add (⟨r61.2.heap.size, 0, none⟩) 3)).bind fun v92 =>
(asSl v92).bind fun q93 =>
g22_l95 u0 u1 s59 n4 r61 q93 0 r90.2))
else
((World.cell? (World.drew w71) (Addr.add (⟨r61.2.heap.size, 0, none⟩) 3)).bind fun v122 =>
(asSl v122).bind fun q123 =>
g22_l125 u0 u1 s59 n4 r61 q123 0 (World.drew w71))))
else
(if (!(b70 == false)) = true then
(some (.ret, (false, s59.2), (World.drew w71)))
else
(if b70 = true then
((ldN (World.drew w71) (⟨r61.2.heap.size, 0, none⟩) 0 6).bind fun l149 =>
(asI .i64 (l149.getD 0 undef)).bind fun n150 =>
(asI .i64 (l149.getD 1 undef)).bind fun n151 =>
(asI .i64 (l149.getD 2 undef)).bind fun n152 =>
(asSl (l149.getD 3 undef)).bind fun q153 =>
(asSl (l149.getD 4 undef)).bind fun q154 =>
(asSl (l149.getD 5 undef)).bind fun q155 =>
u1.bind fun a156 =>
(World.cell? (World.drew w71) (Addr.add a156 3)).bind fun v157 =>
(asSl v157).bind fun q158 =>
(idxA q158.1 q158.2.1 6 s59.2).bind fun a159 =>
(ldN (World.drew w71) a159 0 6).bind fun l160 =>
(asI .i64 (l160.getD 0 undef)).bind fun n161 =>
(asI .i64 (l160.getD 1 undef)).bind fun n162 =>
(asI .i64 (l160.getD 2 undef)).bind fun n163 =>
(asSl (l160.getD 3 undef)).bind fun q164 =>
(asSl (l160.getD 4 undef)).bind fun q165 =>
(asSl (l160.getD 5 undef)).bind fun q166 =>
(callF Try.prog 43 #[.agg #[.int .i64 n150, .int .i64 n151, .int .i64 n152, .slice q153.1 q153.2.1 q153.2.2, .slice q154.1 q154.2.1 q154.2.2, .slice q155.1 q155.2.1 q155.2.2], .agg #[.int .i64 n161, .int .i64 n162, .int .i64 n163, .slice q164.1 q164.2.1 q164.2.2, .slice q165.1 q165.2.1 q165.2.2, .slice q166.1 q166.2.1 q166.2.2]] (World.drew w71)).bind fun r167 =>
(asB r167.1).bind fun b168 =>
if (!b168) = true then
(some (.ret, (false, s59.2), r167.2))
else
((World.cell? r167.2 (Addr.add (⟨r61.2.heap.size, 0, none⟩) 3)).bind fun v169 =>
(asSl v169).bind fun q170 =>
g22_l172 u0 u1 s59 n4 r61 q170 0 r167.2))
else
((World.cell? (World.drew w71) (Addr.add (⟨r61.2.heap.size, 0, none⟩) 3)).bind fun v196 =>
(asSl v196).bind fun q197 =>
g22_l199 u0 u1 s59 n4 r61 q197 0 (World.drew w71)))))
else
(some ((.exit 2), (s59.1, s59.2), w60))

noncomputable def g22_K223  : Exit → Env → World → Option (Value × World) :=
  seqK (ev Try.prog 187 22 g22_ann (cAt [1, 1, 1, 1, 1, 1] (bodyOf Try.f22)) [1, 1, 1, 1, 1, 1] g22_K53) g22_K53

noncomputable def g22_K224  : Exit → Env → World → Option (Value × World) :=
  blkK 2 g22_K223

/-- the loop, from a state on -/
noncomputable def g22_l58 (u0 : Option Addr) (u1 : Option Addr) (n4 : Int) (s : Bool × Int) (w : World) : Option (Value × World) :=
  loopM Try.prog 187 22 g22_ann (cAt [1, 1, 1, 1, 1, 0, 1, 0, 0] (bodyOf Try.f22)) [0, 1, 0, 1, 1, 1, 1, 1] g22_K224 ((g22_l58_cs u0 u1 n4) ++ sputs [(4, .b), (14, .i .i64)] s) w

/-- behind the loop, left by x2 -/
noncomputable def g22_l58_x2  (t225 : Bool × Int) (w226 : World) : Option (Value × World) :=
some (.bool true, w226)

/-- behind the loop, left by x0 -/
noncomputable def g22_l27_x0 (u0 : Option Addr) (u1 : Option Addr) (n4 : Int) (t56 : Bool × Int) (w57 : World) : Option (Value × World) :=
g22_l58 u0 u1 n4 (t56.1, (-1)) w57

noncomputable def g22 (u0 : Option Addr) (u1 : Option Addr) (w0 : World) : Option (Value × World) :=
(callF Try.prog 23 #[.pointer u0] w0).bind fun r1 =>
(asTup 3 r1.1).bind fun l2 =>
(asI .i64 (l2.getD 0 undef)).bind fun n3 =>
(asI .i64 (l2.getD 1 undef)).bind fun n4 =>
(asI .i64 (l2.getD 2 undef)).bind fun n5 =>
(callF Try.prog 20 #[.pointer u0] r1.2).bind fun r6 =>
(asTup 2 r6.1).bind fun l7 =>
(asI .u64 (l7.getD 0 undef)).bind fun n8 =>
(asI .u64 (l7.getD 1 undef)).bind fun n9 =>
u1.bind fun a10 =>
(World.cell? r6.2 a10).bind fun v11 =>
(asSl v11).bind fun q12 =>
if ((n3 : Int) != (q12.2.1 : Int)) = true then
(some (.bool false, r6.2))
else
(u1.bind fun a14 =>
(World.cell? r6.2 (Addr.add a14 3)).bind fun v15 =>
(asSl v15).bind fun q16 =>
if ((n4 : Int) != (q16.2.1 : Int)) = true then
(some (.bool false, r6.2))
else
(u1.bind fun a18 =>
(World.cell? r6.2 (Addr.add a18 5)).bind fun v19 =>
(asI .i64 v19).bind fun n20 =>
if ((n5 : Int) != n20) = true then
(some (.bool false, r6.2))
else
(u1.bind fun a21 =>
(World.cell? r6.2 (Addr.add a21 4)).bind fun v22 =>
(asI .u64 v22).bind fun n23 =>
if ((n8 : Int) != n23) = true then
(some (.bool false, r6.2))
else
(u1.bind fun a24 =>
(World.cell? r6.2 (Addr.add a24 4)).bind fun v25 =>
(asI .u64 v25).bind fun n26 =>
if ((n9 : Int) != (IntKind.u64.wrap (1001 - n26))) = true then
(some (.bool false, r6.2))
else
(g22_l27 u0 u1 n3 n4 (false, (-1)) r6.2)))))

theorem g22_eq (u0 : Option Addr) (u1 : Option Addr) (w0 : World) : evFn Try.prog 22 g22_ann #[.pointer u0, .pointer u1] w0 = g22 u0 u1 w0 := by kernel_rfl

theorem g22_call {u0 : Option Addr} {u1 : Option Addr} {w0 : World} {r : Value × World} (h : g22 u0 u1 w0 = some r) : callF Try.prog 22 #[.pointer u0, .pointer u1] w0 = some r :=
  callF_of_evFn (ann := g22_ann) Try.call22 (by kernel_rfl) ((g22_eq u0 u1 w0).trans h)

theorem g22_l112_x6_of {u0 : Option Addr} {u1 : Option Addr} {s59 : Bool × Int} {n4 : Int} {r61 : Value × World} {q110 : Option Addr × Nat × Nat} {s t : Int} {w w' : World} (h : loopS (g22_l112_b q110 r61 u0 u1 s59 n4) s w = some (.exit 6, t, w')) : g22_l112 u0 u1 s59 n4 r61 q110 s w = g22_l112_x6 s59 t w' := by
  have h1 : g22_l112 u0 u1 s59 n4 r61 q110 s w = loopM Try.prog 187 22 g22_ann (cAt [1, 1, 1, 1, 1, 0, 1, 0, 0, 1, 0, 0, 1, 1, 1, 1, 0, 0] (bodyOf Try.f22)) [0, 1, 1, 1, 1, 0, 0, 1, 0, 0, 1, 0, 1, 1, 1, 1, 1] (g22_K119 u0 u1 n4) ((g22_l112_cs u0 u1 s59 n4 r61 q110) ++ sputs [(179, .i .i64)] s) w := by kernel_rfl
  have h2 : loopM Try.prog 187 22 g22_ann (cAt [1, 1, 1, 1, 1, 0, 1, 0, 0, 1, 0, 0, 1, 1, 1, 1, 0, 0] (bodyOf Try.f22)) [0, 1, 1, 1, 1, 0, 0, 1, 0, 0, 1, 0, 1, 1, 1, 1, 1] (g22_K119 u0 u1 n4) ((g22_l112_cs u0 u1 s59 n4 r61 q110) ++ sputs [(179, .i .i64)] s) w = (g22_K119 u0 u1 n4) (.exit 6) (puts 187 ((g22_l112_cs u0 u1 s59 n4 r61 q110) ++ sputs [(179, .i .i64)] t)) w' :=
    loop_rule (P := Try.prog) (N := 187) (f := 22) (ann := g22_ann) (body := (cAt [1, 1, 1, 1, 1, 0, 1, 0, 0, 1, 0, 0, 1, 1, 1, 1, 0, 0] (bodyOf Try.f22))) (pt := [0, 1, 1, 1, 1, 0, 0, 1, 0, 0, 1, 0, 1, 1, 1, 1, 1]) (K := (g22_K119 u0 u1 n4)) (g22_l112_cs u0 u1 s59 n4 r61 q110) [(179, .i .i64)] (b := g22_l112_b q110 r61 u0 u1 s59 n4) (fun s w => by kernel_rfl) (by kernel_rfl) (by kernel_rfl) (by kernel_rfl) h
  have h3 : (g22_K119 u0 u1 n4) (.exit 6) (puts 187 ((g22_l112_cs u0 u1 s59 n4 r61 q110) ++ sputs [(179, .i .i64)] t)) w' = g22_l112_x6 s59 t w' := by kernel_rfl
  exact h1.trans (h2.trans h3)

theorem g22_l95_x4_of {u0 : Option Addr} {u1 : Option Addr} {s59 : Bool × Int} {n4 : Int} {r61 : Value × World} {q93 : Option Addr × Nat × Nat} {s t : Int} {w w' : World} (h : loopS (g22_l95_b q93 r61 u0 u1 s59 n4) s w = some (.exit 4, t, w')) : g22_l95 u0 u1 s59 n4 r61 q93 s w = g22_l95_x4 r61 u0 u1 s59 n4 t w' := by
  have h1 : g22_l95 u0 u1 s59 n4 r61 q93 s w = loopM Try.prog 187 22 g22_ann (cAt [1, 1, 1, 1, 1, 0, 1, 0, 0, 1, 0, 0, 1, 1, 0, 1, 0, 0] (bodyOf Try.f22)) [0, 1, 0, 1, 1, 0, 0, 1, 0, 0, 1, 0, 1, 1, 1, 1, 1] (g22_K106 u0 u1 n4) ((g22_l95_cs u0 u1 s59 n4 r61 q93) ++ sputs [(168, .i .i64)] s) w := by kernel_rfl
  have h2 : loopM Try.prog 187 22 g22_ann (cAt [1, 1, 1, 1, 1, 0, 1, 0, 0, 1, 0, 0, 1, 1, 0, 1, 0, 0] (bodyOf Try.f22)) [0, 1, 0, 1, 1, 0, 0, 1, 0, 0, 1, 0, 1, 1, 1, 1, 1] (g22_K106 u0 u1 n4) ((g22_l95_cs u0 u1 s59 n4 r61 q93) ++ sputs [(168, .i .i64)] s) w = (g22_K106 u0 u1 n4) (.exit 4) (puts 187 ((g22_l95_cs u0 u1 s59 n4 r61 q93) ++ sputs [(168, .i .i64)] t)) w' :=
    loop_rule (P := Try.prog) (N := 187) (f := 22) (ann := g22_ann) (body := (cAt [1, 1, 1, 1, 1, 0, 1, 0, 0, 1, 0, 0, 1, 1, 0, 1, 0, 0] (bodyOf Try.f22))) (pt := [0, 1, 0, 1, 1, 0, 0, 1, 0, 0, 1, 0, 1, 1, 1, 1, 1]) (K := (g22_K106 u0 u1 n4)) (g22_l95_cs u0 u1 s59 n4 r61 q93) [(168, .i .i64)] (b := g22_l95_b q93 r61 u0 u1 s59 n4) (fun s w => by kernel_rfl) (by kernel_rfl) (by kernel_rfl) (by kernel_rfl) h
  have h3 : (g22_K106 u0 u1 n4) (.exit 4) (puts 187 ((g22_l95_cs u0 u1 s59 n4 r61 q93) ++ sputs [(168, .i .i64)] t)) w' = g22_l95_x4 r61 u0 u1 s59 n4 t w' := by kernel_rfl
  exact h1.trans (h2.trans h3)

theorem g22_l139_x6_of {u0 : Option Addr} {u1 : Option Addr} {s59 : Bool × Int} {n4 : Int} {r61 : Value × World} {q137 : Option Addr × Nat × Nat} {s t : Int} {w w' : World} (h : loopS (g22_l139_b q137 r61 u0 u1 s59 n4) s w = some (.exit 6, t, w')) : g22_l139 u0 u1 s59 n4 r61 q137 s w = g22_l139_x6 s59 t w' := by
  have h1 : g22_l139 u0 u1 s59 n4 r61 q137 s w = loopM Try.prog 187 22 g22_ann (cAt [1, 1, 1, 1, 1, 0, 1, 0, 0, 1, 0, 0, 1, 1, 1, 1, 0, 0] (bodyOf Try.f22)) [0, 1, 1, 1, 1, 0, 0, 1, 0, 0, 1, 0, 1, 1, 1, 1, 1] (g22_K146 u0 u1 n4) ((g22_l139_cs u0 u1 s59 n4 r61 q137) ++ sputs [(179, .i .i64)] s) w := by kernel_rfl
  have h2 : loopM Try.prog 187 22 g22_ann (cAt [1, 1, 1, 1, 1, 0, 1, 0, 0, 1, 0, 0, 1, 1, 1, 1, 0, 0] (bodyOf Try.f22)) [0, 1, 1, 1, 1, 0, 0, 1, 0, 0, 1, 0, 1, 1, 1, 1, 1] (g22_K146 u0 u1 n4) ((g22_l139_cs u0 u1 s59 n4 r61 q137) ++ sputs [(179, .i .i64)] s) w = (g22_K146 u0 u1 n4) (.exit 6) (puts 187 ((g22_l139_cs u0 u1 s59 n4 r61 q137) ++ sputs [(179, .i .i64)] t)) w' :=
    loop_rule (P := Try.prog) (N := 187) (f := 22) (ann := g22_ann) (body := (cAt [1, 1, 1, 1, 1, 0, 1, 0, 0, 1, 0, 0, 1, 1, 1, 1, 0, 0] (bodyOf Try.f22))) (pt := [0, 1, 1, 1, 1, 0, 0, 1, 0, 0, 1, 0, 1, 1, 1, 1, 1]) (K := (g22_K146 u0 u1 n4)) (g22_l139_cs u0 u1 s59 n4 r61 q137) [(179, .i .i64)] (b := g22_l139_b q137 r61 u0 u1 s59 n4) (fun s w => by kernel_rfl) (by kernel_rfl) (by kernel_rfl) (by kernel_rfl) h
  have h3 : (g22_K146 u0 u1 n4) (.exit 6) (puts 187 ((g22_l139_cs u0 u1 s59 n4 r61 q137) ++ sputs [(179, .i .i64)] t)) w' = g22_l139_x6 s59 t w' := by kernel_rfl
  exact h1.trans (h2.trans h3)

theorem g22_l125_x4_of {u0 : Option Addr} {u1 : Option Addr} {s59 : Bool × Int} {n4 : Int} {r61 : Value × World} {q123 : Option Addr × Nat × Nat} {s t : Int} {w w' : World} (h : loopS (g22_l125_b q123 r61 u0 u1 s59 n4) s w = some (.exit 4, t, w')) : g22_l125 u0 u1 s59 n4 r61 q123 s w = g22_l125_x4 r61 u0 u1 s59 n4 t w' := by
  have h1 : g22_l125 u0 u1 s59 n4 r61 q123 s w = loopM Try.prog 187 22 g22_ann (cAt [1, 1, 1, 1, 1, 0, 1, 0, 0, 1, 0, 0, 1, 1, 0, 1, 0, 0] (bodyOf Try.f22)) [0, 1, 0, 1, 1, 0, 0, 1, 0, 0, 1, 0, 1, 1, 1, 1, 1] (g22_K133 u0 u1 n4) ((g22_l125_cs u0 u1 s59 n4 r61 q123) ++ sputs [(168, .i .i64)] s) w := by kernel_rfl
  have h2 : loopM Try.prog 187 22 g22_ann (cAt [1, 1, 1, 1, 1, 0, 1, 0, 0, 1, 0, 0, 1, 1, 0, 1, 0, 0] (bodyOf Try.f22)) [0, 1, 0, 1, 1, 0, 0, 1, 0, 0, 1, 0, 1, 1, 1, 1, 1] (g22_K133 u0 u1 n4) ((g22_l125_cs u0 u1 s59 n4 r61 q123) ++ sputs [(168, .i .i64)] s) w = (g22_K133 u0 u1 n4) (.exit 4) (puts 187 ((g22_l125_cs u0 u1 s59 n4 r61 q123) ++ sputs [(168, .i .i64)] t)) w' :=
    loop_rule (P := Try.prog) (N := 187) (f := 22) (ann := g22_ann) (body := (cAt [1, 1, 1, 1, 1, 0, 1, 0, 0, 1, 0, 0, 1, 1, 0, 1, 0, 0] (bodyOf Try.f22))) (pt := [0, 1, 0, 1, 1, 0, 0, 1, 0, 0, 1, 0, 1, 1, 1, 1, 1]) (K := (g22_K133 u0 u1 n4)) (g22_l125_cs u0 u1 s59 n4 r61 q123) [(168, .i .i64)] (b := g22_l125_b q123 r61 u0 u1 s59 n4) (fun s w => by kernel_rfl) (by kernel_rfl) (by kernel_rfl) (by kernel_rfl) h
  have h3 : (g22_K133 u0 u1 n4) (.exit 4) (puts 187 ((g22_l125_cs u0 u1 s59 n4 r61 q123) ++ sputs [(168, .i .i64)] t)) w' = g22_l125_x4 r61 u0 u1 s59 n4 t w' := by kernel_rfl
  exact h1.trans (h2.trans h3)

theorem g22_l213_x6_of {u0 : Option Addr} {u1 : Option Addr} {s59 : Bool × Int} {n4 : Int} {r61 : Value × World} {q211 : Option Addr × Nat × Nat} {s t : Int} {w w' : World} (h : loopS (g22_l213_b q211 r61 u0 u1 s59 n4) s w = some (.exit 6, t, w')) : g22_l213 u0 u1 s59 n4 r61 q211 s w = g22_l213_x6 s59 t w' := by
  have h1 : g22_l213 u0 u1 s59 n4 r61 q211 s w = loopM Try.prog 187 22 g22_ann (cAt [1, 1, 1, 1, 1, 0, 1, 0, 0, 1, 0, 0, 1, 1, 1, 1, 0, 0] (bodyOf Try.f22)) [0, 1, 1, 1, 1, 0, 0, 1, 0, 0, 1, 0, 1, 1, 1, 1, 1] (g22_K220 u0 u1 n4) ((g22_l213_cs u0 u1 s59 n4 r61 q211) ++ sputs [(179, .i .i64)] s) w := by kernel_rfl
  have h2 : loopM Try.prog 187 22 g22_ann (cAt [1, 1, 1, 1, 1, 0, 1, 0, 0, 1, 0, 0, 1, 1, 1, 1, 0, 0] (bodyOf Try.f22)) [0, 1, 1, 1, 1, 0, 0, 1, 0, 0, 1, 0, 1, 1, 1, 1, 1] (g22_K220 u0 u1 n4) ((g22_l213_cs u0 u1 s59 n4 r61 q211) ++ sputs [(179, .i .i64)] s) w = (g22_K220 u0 u1 n4) (.exit 6) (puts 187 ((g22_l213_cs u0 u1 s59 n4 r61 q211) ++ sputs [(179, .i .i64)] t)) w' :=
    loop_rule (P := Try.prog) (N := 187) (f := 22) (ann := g22_ann) (body := (cAt [1, 1, 1, 1, 1, 0, 1, 0, 0, 1, 0, 0, 1, 1, 1, 1, 0, 0] (bodyOf Try.f22))) (pt := [0, 1, 1, 1, 1, 0, 0, 1, 0, 0, 1, 0, 1, 1, 1, 1, 1]) (K := (g22_K220 u0 u1 n4)) (g22_l213_cs u0 u1 s59 n4 r61 q211) [(179, .i .i64)] (b := g22_l213_b q211 r61 u0 u1 s59 n4) (fun s w => by kernel_rfl) (by kernel_rfl) (by kernel_rfl) (by kernel_rfl) h
  have h3 : (g22_K220 u0 u1 n4) (.exit 6) (puts 187 ((g22_l213_cs u0 u1 s59 n4 r61 q211) ++ sputs [(179, .i .i64)] t)) w' = g22_l213_x6 s59 t w' := by kernel_rfl
  exact h1.trans (h2.trans h3)

theorem g22_l199_x4_of {u0 : Option Addr} {u1 : Option Addr} {s59 : Bool × Int} {n4 : Int} {r61 : Value × World} {q197 : Option Addr × Nat × Nat} {s t : Int} {w w' : World} (h : loopS (g22_l199_b q197 r61 u0 u1 s59 n4) s w = some (.exit 4, t, w')) : g22_l199 u0 u1 s59 n4 r61 q197 s w = g22_l199_x4 r61 u0 u1 s59 n4 t w' := by
  have h1 : g22_l199 u0 u1 s59 n4 r61 q197 s w = loopM Try.prog 187 22 g22_ann (cAt [1, 1, 1, 1, 1, 0, 1, 0, 0, 1, 0, 0, 1, 1, 0, 1, 0, 0] (bodyOf Try.f22)) [0, 1, 0, 1, 1, 0, 0, 1, 0, 0, 1, 0, 1, 1, 1, 1, 1] (g22_K207 u0 u1 n4) ((g22_l199_cs u0 u1 s59 n4 r61 q197) ++ sputs [(168, .i .i64)] s) w := by kernel_rfl
  have h2 : loopM Try.prog 187 22 g22_ann (cAt [1, 1, 1, 1, 1, 0, 1, 0, 0, 1, 0, 0, 1, 1, 0, 1, 0, 0] (bodyOf Try.f22)) [0, 1, 0, 1, 1, 0, 0, 1, 0, 0, 1, 0, 1, 1, 1, 1, 1] (g22_K207 u0 u1 n4) ((g22_l199_cs u0 u1 s59 n4 r61 q197) ++ sputs [(168, .i .i64)] s) w = (g22_K207 u0 u1 n4) (.exit 4) (puts 187 ((g22_l199_cs u0 u1 s59 n4 r61 q197) ++ sputs [(168, .i .i64)] t)) w' :=
    loop_rule (P := Try.prog) (N := 187) (f := 22) (ann := g22_ann) (body := (cAt [1, 1, 1, 1, 1, 0, 1, 0, 0, 1, 0, 0, 1, 1, 0, 1, 0, 0] (bodyOf Try.f22))) (pt := [0, 1, 0, 1, 1, 0, 0, 1, 0, 0, 1, 0, 1, 1, 1, 1, 1]) (K := (g22_K207 u0 u1 n4)) (g22_l199_cs u0 u1 s59 n4 r61 q197) [(168, .i .i64)] (b := g22_l199_b q197 r61 u0 u1 s59 n4) (fun s w => by kernel_rfl) (by kernel_rfl) (by kernel_rfl) (by kernel_rfl) h
  have h3 : (g22_K207 u0 u1 n4) (.exit 4) (puts 187 ((g22_l199_cs u0 u1 s59 n4 r61 q197) ++ sputs [(168, .i .i64)] t)) w' = g22_l199_x4 r61 u0 u1 s59 n4 t w' := by kernel_rfl
  exact h1.trans (h2.trans h3)

theorem g22_l58_x2_of {u0 : Option Addr} {u1 : Option Addr} {n4 : Int} {s t : Bool × Int} {w w' : World} (h : loopS (g22_l58_b n4 u0 u1) s w = some (.exit 2, t, w')) : g22_l58 u0 u1 n4 s w = g22_l58_x2 t w' := by
  have h1 : g22_l58 u0 u1 n4 s w = loopM Try.prog 187 22 g22_ann (cAt [1, 1, 1, 1, 1, 0, 1, 0, 0] (bodyOf Try.f22)) [0, 1, 0, 1, 1, 1, 1, 1] g22_K224 ((g22_l58_cs u0 u1 n4) ++ sputs [(4, .b), (14, .i .i64)] s) w := by kernel_rfl
  have h2 : loopM Try.prog 187 22 g22_ann (cAt [1, 1, 1, 1, 1, 0, 1, 0, 0] (bodyOf Try.f22)) [0, 1, 0, 1, 1, 1, 1, 1] g22_K224 ((g22_l58_cs u0 u1 n4) ++ sputs [(4, .b), (14, .i .i64)] s) w = g22_K224 (.exit 2) (puts 187 ((g22_l58_cs u0 u1 n4) ++ sputs [(4, .b), (14, .i .i64)] t)) w' :=
    loop_rule (P := Try.prog) (N := 187) (f := 22) (ann := g22_ann) (body := (cAt [1, 1, 1, 1, 1, 0, 1, 0, 0] (bodyOf Try.f22))) (pt := [0, 1, 0, 1, 1, 1, 1, 1]) (K := g22_K224) (g22_l58_cs u0 u1 n4) [(4, .b), (14, .i .i64)] (b := g22_l58_b n4 u0 u1) (fun s w => by kernel_rfl) (by kernel_rfl) (by kernel_rfl) (by kernel_rfl) h
  have h3 : g22_K224 (.exit 2) (puts 187 ((g22_l58_cs u0 u1 n4) ++ sputs [(4, .b), (14, .i .i64)] t)) w' = g22_l58_x2 t w' := by kernel_rfl
  exact h1.trans (h2.trans h3)

theorem g22_l27_x0_of {u0 : Option Addr} {u1 : Option Addr} {n3 : Int} {n4 : Int} {s t : Bool × Int} {w w' : World} (h : loopS (g22_l27_b n3 u0 u1 n4) s w = some (.exit 0, t, w')) : g22_l27 u0 u1 n3 n4 s w = g22_l27_x0 u0 u1 n4 t w' := by
  have h1 : g22_l27 u0 u1 n3 n4 s w = loopM Try.prog 187 22 g22_ann (cAt [1, 1, 1, 1, 0, 1, 0, 0] (bodyOf Try.f22)) [0, 1, 0, 1, 1, 1, 1] g22_K55 ((g22_l27_cs u0 u1 n3 n4) ++ sputs [(4, .b), (10, .i .i64)] s) w := by kernel_rfl
  have h2 : loopM Try.prog 187 22 g22_ann (cAt [1, 1, 1, 1, 0, 1, 0, 0] (bodyOf Try.f22)) [0, 1, 0, 1, 1, 1, 1] g22_K55 ((g22_l27_cs u0 u1 n3 n4) ++ sputs [(4, .b), (10, .i .i64)] s) w = g22_K55 (.exit 0) (puts 187 ((g22_l27_cs u0 u1 n3 n4) ++ sputs [(4, .b), (10, .i .i64)] t)) w' :=
    loop_rule (P := Try.prog) (N := 187) (f := 22) (ann := g22_ann) (body := (cAt [1, 1, 1, 1, 0, 1, 0, 0] (bodyOf Try.f22))) (pt := [0, 1, 0, 1, 1, 1, 1]) (K := g22_K55) (g22_l27_cs u0 u1 n3 n4) [(4, .b), (10, .i .i64)] (b := g22_l27_b n3 u0 u1 n4) (fun s w => by kernel_rfl) (by kernel_rfl) (by kernel_rfl) (by kernel_rfl) h
  have h3 : g22_K55 (.exit 0) (puts 187 ((g22_l27_cs u0 u1 n3 n4) ++ sputs [(4, .b), (10, .i .i64)] t)) w' = g22_l27_x0 u0 u1 n4 t w' := by kernel_rfl
  exact h1.trans (h2.trans h3)

/-! 43: penstock/penstockref13.SamePart (a: api.Part, b: api.Part) -/
def g43_ann : List (List Nat × List Nat) := []

noncomputable def g43 (u0c0 : Int) (u0c1 : Int) (u0c2 : Int) (u0c3 : Option Addr × Nat × Nat) (u0c4 : Option Addr × Nat × Nat) (u0c5 : Option Addr × Nat × Nat) (u1c0 : Int) (u1c1 : Int) (u1c2 : Int) (u1c3 : Option Addr × Nat × Nat) (u1c4 : Option Addr × Nat × Nat) (u1c5 : Option Addr × Nat × Nat) (w0 : World) : Option (Value × World) :=
(World.cell? (World.alloc (World.alloc w0 (.cells #[.int .i64 u0c0, .int .i64 u0c1, .int .i64 u0c2, .slice u0c3.1 u0c3.2.1 u0c3.2.2, .slice u0c4.1 u0c4.2.1 u0c4.2.2, .slice u0c5.1 u0c5.2.1 u0c5.2.2] 30)) (.cells #[.int .i64 u1c0, .int .i64 u1c1, .int .i64 u1c2, .slice u1c3.1 u1c3.2.1 u1c3.2.2, .slice u1c4.1 u1c4.2.1 u1c4.2.2, .slice u1c5.1 u1c5.2.1 u1c5.2.2] 30)) (⟨w0.heap.size, 0, none⟩)).bind fun v1 =>
(asI .i64 v1).bind fun n2 =>
(World.cell? (World.alloc (World.alloc w0 (.cells #[.int .i64 u0c0, .int .i64 u0c1, .int .i64 u0c2, .slice u0c3.1 u0c3.2.1 u0c3.2.2, .slice u0c4.1 u0c4.2.1 u0c4.2.2, .slice u0c5.1 u0c5.2.1 u0c5.2.2] 30)) (.cells #[.int .i64 u1c0, .int .i64 u1c1, .int .i64 u1c2, .slice u1c3.1 u1c3.2.1 u1c3.2.2, .slice u1c4.1 u1c4.2.1 u1c4.2.2, .slice u1c5.1 u1c5.2.1 u1c5.2.2] 30)) (⟨(World.alloc w0 (.cells #[.int .i64 u0c0, .int .i64 u0c1, .int .i64 u0c2, .slice u0c3.1 u0c3.2.1 u0c3.2.2, .slice u0c4.1 u0c4.2.1 u0c4.2.2, .slice u0c5.1 u0c5.2.1 u0c5.2.2] 30)).heap.size, 0, none⟩)).bind fun v3 =>
(asI .i64 v3).bind fun n4 =>
if ((n2 : Int) == n4) = true then
((World.cell? (World.alloc (World.alloc w0 (.cells #[.int .i64 u0c0, .int .i64 u0c1, .int .i64 u0c2, .slice u0c3.1 u0c3.2.1 u0c3.2.2, .slice u0c4.1 u0c4.2.1 u0c4.2.2, .slice u0c5.1 u0c5.2.1 u0c5.2.2] 30)) (.cells #[.int .i64 u1c0, .int .i64 u1c1, .int .i64 u1c2, .slice u1c3.1 u1c3.2.1 u1c3.2.2, .slice u1c4.1 u1c4.2.1 u1c4.2.2, .slice u1c5.1 u1c5.2.1 u1c5.2.2] 30)) (Addr.add (⟨w0.heap.size, 0, none⟩) 1)).bind fun v5 =>
(asI .i64 v5).bind fun n6 =>
(World.cell? (World.alloc (World.alloc w0 (.cells #[.int .i64 u0c0, .int .i64 u0c1, .int .i64 u0c2, .slice u0c3.1 u0c3.2.1 u0c3.2.2, .slice u0c4.1 u0c4.2.1 u0c4.2.2, .slice u0c5.1 u0c5.2.1 u0c5.2.2] 30)) (.cells #[.int .i64 u1c0, .int .i64 u1c1, .int .i64 u1c2, .slice u1c3.1 u1c3.2.1 u1c3.2.2, .slice u1c4.1 u1c4.2.1 u1c4.2.2, .slice u1c5.1 u1c5.2.1 u1c5.2.2] 30)) (Addr.add (⟨(World.alloc w0 (.cells #[.int .i64 u0c0, .int .i64 u0c1, .int .i64 u0c2, .slice u0c3.1 u0c3.2.1 u0c3.2.2, .slice u0c4.1 u0c4.2.1 u0c4.2.2, .slice u0c5.1 u0c5.2.1 u0c5.2.2] 30)).heap.size, 0, none⟩) 1)).bind fun v7 =>
(asI .i64 v7).bind fun n8 =>
if ((n6 : Int) == n8) = true then
((World.cell? (World.alloc (World.alloc w0 (.cells #[.int .i64 u0c0, .int .i64 u0c1, .int .i64 u0c2, .slice u0c3.1 u0c3.2.1 u0c3.2.2, .slice u0c4.1 u0c4.2.1 u0c4.2.2, .slice u0c5.1 u0c5.2.1 u0c5.2.2] 30)) (.cells #[.int .i64 u1c0, .int .i64 u1c1, .int .i64 u1c2, .slice u1c3.1 u1c3.2.1 u1c3.2.2, .slice u1c4.1 u1c4.2.1 u1c4.2.2, .slice u1c5.1 u1c5.2.1 u1c5.2.2] 30)) (Addr.add (⟨w0.heap.size, 0, none⟩) 2)).bind fun v9 =>
(asI .i64 v9).bind fun n10 =>
(World.cell? (World.alloc (World.alloc w0 (.cells #[.int .i64 u0c0, .int .i64 u0c1, .int .i64 u0c2, .slice u0c3.1 u0c3.2.1 u0c3.2.2, .slice u0c4.1 u0c4.2.1 u0c4.2.2, .slice u0c5.1 u0c5.2.1 u0c5.2.2] 30)) (.cells #[.int .i64 u1c0, .int .i64 u1c1, .int .i64 u1c2, .slice u1c3.1 u1c3.2.1 u1c3.2.2, .slice u1c4.1 u1c4.2.1 u1c4.2.2, .slice u1c5.1 u1c5.2.1 u1c5.2.2] 30)) (Addr.add (⟨(World.alloc w0 (.cells #[.int .i64 u0c0, .int .i64 u0c1, .int .i64 u0c2, .slice u0c3.1 u0c3.2.1 u0c3.2.2, .slice u0c4.1 u0c4.2.1 u0c4.2.2, .slice u0c5.1 u0c5.2.1 u0c5.2.2] 30)).heap.size, 0, none⟩) 2)).bind fun v11 =>
(asI .i64 v11).bind fun n12 =>
if ((n10 : Int) == n12) = true then
((World.cell? (World.alloc (World.alloc w0 (.cells #[.int .i64 u0c0, .int .i64 u0c1, .int .i64 u0c2, .slice u0c3.1 u0c3.2.1 u0c3.2.2, .slice u0c4.1 u0c4.2.1 u0c4.2.2, .slice u0c5.1 u0c5.2.1 u0c5.2.2] 30)) (.cells #[.int .i64 u1c0, .int .i64 u1c1, .int .i64 u1c2, .slice u1c3.1 u1c3.2.1 u1c3.2.2, .slice u1c4.1 u1c4.2.1 u1c4.2.2, .slice u1c5.1 u1c5.2.1 u1c5.2.2] 30)) (Addr.add (⟨w0.heap.size, 0, none⟩) 3)).bind fun v13 =>
(asSl v13).bind fun q14 =>
(World.cell? (World.alloc (World.alloc w0 (.cells #[.int .i64 u0c0, .int .i64 u0c1, .int .i64 u0c2, .slice u0c3.1 u0c3.2.1 u0c3.2.2, .slice u0c4.1 u0c4.2.1 u0c4.2.2, .slice u0c5.1 u0c5.2.1 u0c5.2.2] 30)) (.cells #[.int .i64 u1c0, .int .i64 u1c1, .int .i64 u1c2, .slice u1c3.1 u1c3.2.1 u1c3.2.2, .slice u1c4.1 u1c4.2.1 u1c4.2.2, .slice u1c5.1 u1c5.2.1 u1c5.2.2] 30)) (Addr.add (⟨(World.alloc w0 (.cells #[.int .i64 u0c0, .int .i64 u0c1, .int .i64 u0c2, .slice u0c3.1 u0c3.2.1 u0c3.2.2, .slice u0c4.1 u0c4.2.1 u0c4.2.2, .slice u0c5.1 u0c5.2.1 u0c5.2.2] 30)).heap.size, 0, none⟩) 3)).bind fun v15 =>
(asSl v15).bind fun q16 =>
(callF Try.prog 19 #[.slice q14.1 q14.2.1 q14.2.2, .slice q16.1 q16.2.1 q16.2.2] (World.alloc (World.alloc w0 (.cells #[.int .i64 u0c0, .int .i64 u0c1, .int .i64 u0c2, .slice u0c3.1 u0c3.2.1 u0c3.2.2, .slice u0c4.1 u0c4.2.1 u0c4.2.2, .slice u0c5.1 u0c5.2.1 u0c5.2.2] 30)) (.cells #[.int .i64 u1c0, .int .i64 u1c1, .int .i64 u1c2, .slice u1c3.1 u1c3.2.1 u1c3.2.2, .slice u1c4.1 u1c4.2.1 u1c4.2.2, .slice u1c5.1 u1c5.2.1 u1c5.2.2] 30))).bind fun r17 =>
(asB r17.1).bind fun b18 =>
if b18 = true then
((World.cell? r17.2 (Addr.add (⟨w0.heap.size, 0, none⟩) 4)).bind fun v19 =>
(asSl v19).bind fun q20 =>
(World.cell? r17.2 (Addr.add (⟨(World.alloc w0 (.cells #[.int .i64 u0c0, .int .i64 u0c1, .int .i64 u0c2, .slice u0c3.1 u0c3.2.1 u0c3.2.2, .slice u0c4.1 u0c4.2.1 u0c4.2.2, .slice u0c5.1 u0c5.2.1 u0c5.2.2] 30)).heap.size, 0, none⟩) 4)).bind fun v21 =>
(asSl v21).bind fun q22 =>
(callF Try.prog 19 #[.slice q20.1 q20.2.1 q20.2.2, .slice q22.1 q22.2.1 q22.2.2] r17.2).bind fun r23 =>
(asB r23.1).bind fun b24 =>
if b24 = true then
((World.cell? r23.2 (Addr.add (⟨w0.heap.size, 0, none⟩) 5)).bind fun v25 =>
(asSl v25).bind fun q26 =>
(World.cell? r23.2 (Addr.add (⟨(World.alloc w0 (.cells #[.int .i64 u0c0, .int .i64 u0c1, .int .i64 u0c2, .slice u0c3.1 u0c3.2.1 u0c3.2.2, .slice u0c4.1 u0c4.2.1 u0c4.2.2, .slice u0c5.1 u0c5.2.1 u0c5.2.2] 30)).heap.size, 0, none⟩) 5)).bind fun v27 =>
(asSl v27).bind fun q28 =>
(callF Try.prog 19 #[.slice q26.1 q26.2.1 q26.2.2, .slice q28.1 q28.2.1 q28.2.2] r23.2).bind fun r29 =>
(asB r29.1).bind fun b30 =>
some (.bool b30, r29.2))
else
(some (.bool false, r23.2)))
else
(some (.bool false, r17.2)))
else
(some (.bool false, (World.alloc (World.alloc w0 (.cells #[.int .i64 u0c0, .int .i64 u0c1, .int .i64 u0c2, .slice u0c3.1 u0c3.2.1 u0c3.2.2, .slice u0c4.1 u0c4.2.1 u0c4.2.2, .slice u0c5.1 u0c5.2.1 u0c5.2.2] 30)) (.cells #[.int .i64 u1c0, .int .i64 u1c1, .int .i64 u1c2, .slice u1c3.1 u1c3.2.1 u1c3.2.2, .slice u1c4.1 u1c4.2.1 u1c4.2.2, .slice u1c5.1 u1c5.2.1 u1c5.2.2] 30)))))
else
(some (.bool false, (World.alloc (World.alloc w0 (.cells #[.int .i64 u0c0, .int .i64 u0c1, .int .i64 u0c2, .slice u0c3.1 u0c3.2.1 u0c3.2.2, .slice u0c4.1 u0c4.2.1 u0c4.2.2, .slice u0c5.1 u0c5.2.1 u0c5.2.2] 30)) (.cells #[.int .i64 u1c0, .int .i64 u1c1, .int .i64 u1c2, .slice u1c3.1 u1c3.2.1 u1c3.2.2, .slice u1c4.1 u1c4.2.1 u1c4.2.2, .slice u1c5.1 u1c5.2.1 u1c5.2.2] 30)))))
else
(some (.bool false, (World.alloc (World.alloc w0 (.cells #[.int .i64 u0c0, .int .i64 u0c1, .int .i64 u0c2, .slice u0c3.1 u0c3.2.1 u0c3.2.2, .slice u0c4.1 u0c4.2.1 u0c4.2.2, .slice u0c5.1 u0c5.2.1 u0c5.2.2] 30)) (.cells #[.int .i64 u1c0, .int .i64 u1c1, .int .i64 u1c2, .slice u1c3.1 u1c3.2.1 u1c3.2.2, .slice u1c4.1 u1c4.2.1 u1c4.2.2, .slice u1c5.1 u1c5.2.1 u1c5.2.2] 30))))

theorem g43_eq (u0c0 : Int) (u0c1 : Int) (u0c2 : Int) (u0c3 : Option Addr × Nat × Nat) (u0c4 : Option Addr × Nat × Nat) (u0c5 : Option Addr × Nat × Nat) (u1c0 : Int) (u1c1 : Int) (u1c2 : Int) (u1c3 : Option Addr × Nat × Nat) (u1c4 : Option Addr × Nat × Nat) (u1c5 : Option Addr × Nat × Nat) (w0 : World) : evFn Try.prog 43 g43_ann #[.agg #[.int .i64 u0c0, .int .i64 u0c1, .int .i64 u0c2, .slice u0c3.1 u0c3.2.1 u0c3.2.2, .slice u0c4.1 u0c4.2.1 u0c4.2.2, .slice u0c5.1 u0c5.2.1 u0c5.2.2], .agg #[.int .i64 u1c0, .int .i64 u1c1, .int .i64 u1c2, .slice u1c3.1 u1c3.2.1 u1c3.2.2, .slice u1c4.1 u1c4.2.1 u1c4.2.2, .slice u1c5.1 u1c5.2.1 u1c5.2.2]] w0 = g43 u0c0 u0c1 u0c2 u0c3 u0c4 u0c5 u1c0 u1c1 u1c2 u1c3 u1c4 u1c5 w0 := by kernel_rfl

theorem g43_call {u0c0 : Int} {u0c1 : Int} {u0c2 : Int} {u0c3 : Option Addr × Nat × Nat} {u0c4 : Option Addr × Nat × Nat} {u0c5 : Option Addr × Nat × Nat} {u1c0 : Int} {u1c1 : Int} {u1c2 : Int} {u1c3 : Option Addr × Nat × Nat} {u1c4 : Option Addr × Nat × Nat} {u1c5 : Option Addr × Nat × Nat} {w0 : World} {r : Value × World} (h : g43 u0c0 u0c1 u0c2 u0c3 u0c4 u0c5 u1c0 u1c1 u1c2 u1c3 u1c4 u1c5 w0 = some r) : callF Try.prog 43 #[.agg #[.int .i64 u0c0, .int .i64 u0c1, .int .i64 u0c2, .slice u0c3.1 u0c3.2.1 u0c3.2.2, .slice u0c4.1 u0c4.2.1 u0c4.2.2, .slice u0c5.1 u0c5.2.1 u0c5.2.2], .agg #[.int .i64 u1c0, .int .i64 u1c1, .int .i64 u1c2, .slice u1c3.1 u1c3.2.1 u1c3.2.2, .slice u1c4.1 u1c4.2.1 u1c4.2.2, .slice u1c5.1 u1c5.2.1 u1c5.2.2]] w0 = some r :=
  callF_of_evFn (ann := g43_ann) Try.call43 (by kernel_rfl) ((g43_eq u0c0 u0c1 u0c2 u0c3 u0c4 u0c5 u1c0 u1c1 u1c2 u1c3 u1c4 u1c5 w0).trans h)

end Go.Proofs.Ytjcenfgmpbeldaa
