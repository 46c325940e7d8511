/-
  GroupL7: lemmas on what Go functions of this seat come to (for whatever arguments, as each says). No condition but those that stand in each lemma.
-/
import Derived.Test.YtcakijeoeankfaaGroupF2
import Derived.Test.YtcakijeoeankfaaGroupV
namespace Go.Proofs.Ytcakijeoeankfaa
open Go Go.Ev
set_option maxRecDepth 100000
set_option linter.unusedVariables false
/-! 7: penstock/penstocklaw16.GroupGoes (script: []penstocklaw16.Op) -/
def g7_ann : List (List Nat × List Nat) := [([0, 1, 0, 1, 1, 1, 1, 1], [3, 31, 32, 2, 4, 5, 33]), ([0, 1, 0, 1, 1, 1, 1, 1, 0, 0, 1, 1, 0, 0, 1, 0, 1, 1, 1, 1, 1], [2, 3, 4, 5, 7, 8, 9, 10, 11, 31, 32, 33, 12, 13, 14]), ([0, 1, 0, 1, 0, 0, 1, 0, 0, 1, 0, 1, 1, 1, 1, 1, 0, 0, 1, 1, 0, 0, 1, 0, 1, 1, 1, 1, 1], [2, 3, 4, 5, 7, 8, 9, 10, 11, 12, 13, 14, 31, 32, 33, 55, 56, 15, 57]), ([0, 1, 1, 1, 1, 1, 1, 1, 1, 1, 1, 1, 1, 0, 0, 1, 1, 0, 0, 1, 0, 1, 1, 1, 1, 1], [3, 4, 5, 8, 31, 32, 33, 2, 18]), ([0, 1, 1, 1, 1, 1, 1, 1, 1, 1, 1, 1, 1, 0, 0, 1, 1, 0, 0, 1, 0, 1, 1, 1, 1, 1], [3, 4, 5, 8, 31, 32, 33, 2, 18])]

def g7_l6_cs (p2 : Option Addr) (u0 : Option Addr × Nat × Nat) : List (Nat × Value) := ([(3, .pointer p2), (31, .slice u0.1 u0.2.1 u0.2.2), (32, .int .i64 (u0.2.1 : Int))] : List (Nat × Value))

def g7_l45_cs (s7 : Bool × Int × (Option Addr × Nat × Nat) × Int) (p2 : Option Addr) (w8 : World) (n30 : Int) (r33 : Value × World) (b42 : Bool) (n43 : Int) (u0 : Option Addr × Nat × Nat) : List (Nat × Value) := ([(2, .bool s7.1), (3, .pointer p2), (4, .int .i64 s7.2.1), (5, .slice s7.2.2.1.1 s7.2.2.1.2.1 s7.2.2.1.2.2), (7, .pointer (some (⟨w8.heap.size, 0, none⟩))), (8, .int .i64 (Int.tmod (IntKind.i64.wrap ((Int.tmod n30 12) + 12)) 12)), (9, .pointer (some (⟨r33.2.heap.size, 0, none⟩))), (10, .bool b42), (11, .int .i64 n43), (31, .slice u0.1 u0.2.1 u0.2.2), (32, .int .i64 (u0.2.1 : Int)), (33, .int .i64 s7.2.2.2)] : List (Nat × Value))

def g7_l49_cs (s7 : Bool × Int × (Option Addr × Nat × Nat) × Int) (p2 : Option Addr) (w8 : World) (n30 : Int) (r33 : Value × World) (b42 : Bool) (n43 : Int) (s46 : Bool × (Option Addr × Nat × Nat) × Int) (u0 : Option Addr × Nat × Nat) : List (Nat × Value) := ([(2, .bool s7.1), (3, .pointer p2), (4, .int .i64 s7.2.1), (5, .slice s7.2.2.1.1 s7.2.2.1.2.1 s7.2.2.1.2.2), (7, .pointer (some (⟨w8.heap.size, 0, none⟩))), (8, .int .i64 (Int.tmod (IntKind.i64.wrap ((Int.tmod n30 12) + 12)) 12)), (9, .pointer (some (⟨r33.2.heap.size, 0, none⟩))), (10, .bool b42), (11, .int .i64 n43), (12, .bool s46.1), (13, .slice s46.2.1.1 s46.2.1.2.1 s46.2.1.2.2), (14, .int .i64 s46.2.2), (31, .slice u0.1 u0.2.1 u0.2.2), (32, .int .i64 (u0.2.1 : Int)), (33, .int .i64 s7.2.2.2), (55, .slice s7.2.2.1.1 s7.2.2.1.2.1 s7.2.2.1.2.2), (56, .int .i64 (s7.2.2.1.2.1 : Int))] : List (Nat × Value))

/-- the round of a loop (penstock/penstocklaw16.GroupGoes) -/
noncomputable def g7_l49_b (s7 : Bool × Int × (Option Addr × Nat × Nat) × Int) (s46 : Bool × (Option Addr × Nat × Nat) × Int) (p2 : Option Addr) (w8 : World) (n30 : Int) (r33 : Value × World) (b42 : Bool) (n43 : Int) (u0 : Option Addr × Nat × Nat) (s50 : Bool × Int) (w51 : World) : Option (Exit × (Bool × Int) × World) :=
if (decide ((s50.2 : Int) < (s7.2.2.1.2.1 : Int))) = true then
((idxA s7.2.2.1.1 s7.2.2.1.2.1 1 s50.2).bind fun a52 =>
(World.cell? w51 a52).bind fun v53 =>
(asI .i64 v53).bind fun n54 =>
if s50.1 = true then
(some (.normal, (true, (IntKind.i64.wrap (s50.2 + 1))), w51))
else
(some (.normal, (((s46.2.2 : Int) == n54), (IntKind.i64.wrap (s50.2 + 1))), w51)))
else
(some ((.exit 4), (s50.1, s50.2), w51))

noncomputable def g7_K55 (s7 : Bool × Int × (Option Addr × Nat × Nat) × Int) (p2 : Option Addr) (w8 : World) (n30 : Int) (r33 : Value × World) (b42 : Bool) (n43 : Int) (u0 : Option Addr × Nat × Nat) : Exit → Env → World → Option (Exit × (Bool × (Option Addr × Nat × Nat) × Int) × World) :=
  fun e ρ w => ((List.map (·.1) (g7_l45_cs s7 p2 w8 n30 r33 b42 n43 u0)).mapM ρ).bind fun _ => loopK [(12, .b), (13, .sl), (14, .i .i64)] e ρ w

noncomputable def g7_K56 (s7 : Bool × Int × (Option Addr × Nat × Nat) × Int) (p2 : Option Addr) (w8 : World) (n30 : Int) (r33 : Value × World) (b42 : Bool) (n43 : Int) (u0 : Option Addr × Nat × Nat) : Exit → Env → World → Option (Exit × (Bool × (Option Addr × Nat × Nat) × Int) × World) :=
  seqK (ev Try.prog 209 7 g7_ann (cAt [1, 1, 1, 1, 1, 0, 1, 0, 0, 1, 1, 0, 0, 1, 1, 1, 1, 1, 0, 1, 0, 0, 1, 1] (bodyOf Try.f7)) [1, 1, 0, 0, 1, 0, 1, 1, 1, 1, 1, 0, 0, 1, 1, 0, 0, 1, 0, 1, 1, 1, 1, 1] (g7_K55 s7 p2 w8 n30 r33 b42 n43 u0)) (g7_K55 s7 p2 w8 n30 r33 b42 n43 u0)

noncomputable def g7_K57 (s7 : Bool × Int × (Option Addr × Nat × Nat) × Int) (p2 : Option Addr) (w8 : World) (n30 : Int) (r33 : Value × World) (b42 : Bool) (n43 : Int) (u0 : Option Addr × Nat × Nat) : Exit → Env → World → Option (Exit × (Bool × (Option Addr × Nat × Nat) × Int) × World) :=
  blkK 3 (g7_K56 s7 p2 w8 n30 r33 b42 n43 u0)

noncomputable def g7_K58 (s7 : Bool × Int × (Option Addr × Nat × Nat) × Int) (p2 : Option Addr) (w8 : World) (n30 : Int) (r33 : Value × World) (b42 : Bool) (n43 : Int) (u0 : Option Addr × Nat × Nat) : Exit → Env → World → Option (Exit × (Bool × (Option Addr × Nat × Nat) × Int) × World) :=
  seqK (ev Try.prog 209 7 g7_ann (cAt [1, 1, 1, 1, 1, 0, 1, 0, 0, 1, 1, 0, 0, 1, 1, 1, 1, 1, 0, 1, 0, 0, 1, 0, 0, 1, 1] (bodyOf Try.f7)) [1, 1, 0, 0, 1, 0, 0, 1, 0, 1, 1, 1, 1, 1, 0, 0, 1, 1, 0, 0, 1, 0, 1, 1, 1, 1, 1] (g7_K57 s7 p2 w8 n30 r33 b42 n43 u0)) (g7_K57 s7 p2 w8 n30 r33 b42 n43 u0)

noncomputable def g7_K59 (s7 : Bool × Int × (Option Addr × Nat × Nat) × Int) (p2 : Option Addr) (w8 : World) (n30 : Int) (r33 : Value × World) (b42 : Bool) (n43 : Int) (u0 : Option Addr × Nat × Nat) : Exit → Env → World → Option (Exit × (Bool × (Option Addr × Nat × Nat) × Int) × World) :=
  blkK 4 (g7_K58 s7 p2 w8 n30 r33 b42 n43 u0)

/-- the loop, from a state on -/
noncomputable def g7_l49 (s7 : Bool × Int × (Option Addr × Nat × Nat) × Int) (p2 : Option Addr) (w8 : World) (n30 : Int) (r33 : Value × World) (b42 : Bool) (n43 : Int) (s46 : Bool × (Option Addr × Nat × Nat) × Int) (u0 : Option Addr × Nat × Nat) (s : Bool × Int) (w : World) : Option (Exit × (Bool × (Option Addr × Nat × Nat) × Int) × World) :=
  loopM Try.prog 209 7 g7_ann (cAt [1, 1, 1, 1, 1, 0, 1, 0, 0, 1, 1, 0, 0, 1, 1, 1, 1, 1, 0, 1, 0, 0, 1, 0, 0, 1, 0, 1, 0, 0] (bodyOf Try.f7)) [0, 1, 0, 1, 0, 0, 1, 0, 0, 1, 0, 1, 1, 1, 1, 1, 0, 0, 1, 1, 0, 0, 1, 0, 1, 1, 1, 1, 1] (g7_K59 s7 p2 w8 n30 r33 b42 n43 u0) ((g7_l49_cs s7 p2 w8 n30 r33 b42 n43 s46 u0) ++ sputs [(15, .b), (57, .i .i64)] s) w

/-- behind the loop, left by x4 -/
noncomputable def g7_l49_x4 (s46 : Bool × (Option Addr × Nat × Nat) × Int) (n30 : Int) (w8 : World) (t60 : Bool × Int) (w61 : World) : Option (Exit × (Bool × (Option Addr × Nat × Nat) × Int) × World) :=
if s46.1 = true then
(if t60.1 = true then
(if ((s46.2.2 : Int) != (Int.tmod (IntKind.i64.wrap ((Int.tmod n30 12) + 12)) 12)) = true then
((callB Try.prog .append #[22, 22] 22 #[false, false] #[.slice s46.2.1.1 s46.2.1.2.1 s46.2.1.2.2, .slice (some (⟨w61.heap.size, 0, none⟩)) 1 1] (World.alloc w61 (.cells #[.int .i64 s46.2.2] 3))).bind fun r62 =>
(asSl r62.1).bind fun q63 =>
some (.normal, (true, (q63.1, q63.2.1, q63.2.2), (IntKind.i64.wrap (s46.2.2 + 1))), r62.2))
else
(if ((s46.2.2 : Int) == (Int.tmod (IntKind.i64.wrap ((Int.tmod n30 12) + 12)) 12)) = true then
((World.cell? w61 (Addr.add (⟨w8.heap.size, 0, none⟩) 6)).bind fun v64 =>
(asB v64).bind fun b65 =>
if b65 = true then
((callB Try.prog .append #[22, 22] 22 #[false, false] #[.slice s46.2.1.1 s46.2.1.2.1 s46.2.1.2.2, .slice (some (⟨w61.heap.size, 0, none⟩)) 1 1] (World.alloc w61 (.cells #[.int .i64 s46.2.2] 3))).bind fun r66 =>
(asSl r66.1).bind fun q67 =>
some (.normal, (true, (q67.1, q67.2.1, q67.2.2), (IntKind.i64.wrap (s46.2.2 + 1))), r66.2))
else
(some (.normal, (true, (s46.2.1.1, s46.2.1.2.1, s46.2.1.2.2), (IntKind.i64.wrap (s46.2.2 + 1))), w61)))
else
(some (.normal, (true, (s46.2.1.1, s46.2.1.2.1, s46.2.1.2.2), (IntKind.i64.wrap (s46.2.2 + 1))), w61))))
else
(if ((s46.2.2 : Int) == (Int.tmod (IntKind.i64.wrap ((Int.tmod n30 12) + 12)) 12)) = true then
((World.cell? w61 (Addr.add (⟨w8.heap.size, 0, none⟩) 6)).bind fun v68 =>
(asB v68).bind fun b69 =>
if b69 = true then
((callB Try.prog .append #[22, 22] 22 #[false, false] #[.slice s46.2.1.1 s46.2.1.2.1 s46.2.1.2.2, .slice (some (⟨w61.heap.size, 0, none⟩)) 1 1] (World.alloc w61 (.cells #[.int .i64 s46.2.2] 3))).bind fun r70 =>
(asSl r70.1).bind fun q71 =>
some (.normal, (true, (q71.1, q71.2.1, q71.2.2), (IntKind.i64.wrap (s46.2.2 + 1))), r70.2))
else
(some (.normal, (true, (s46.2.1.1, s46.2.1.2.1, s46.2.1.2.2), (IntKind.i64.wrap (s46.2.2 + 1))), w61)))
else
(some (.normal, (true, (s46.2.1.1, s46.2.1.2.1, s46.2.1.2.2), (IntKind.i64.wrap (s46.2.2 + 1))), w61))))
else
(if t60.1 = true then
(if t60.1 = true then
(if ((s46.2.2 : Int) != (Int.tmod (IntKind.i64.wrap ((Int.tmod n30 12) + 12)) 12)) = true then
((callB Try.prog .append #[22, 22] 22 #[false, false] #[.slice s46.2.1.1 s46.2.1.2.1 s46.2.1.2.2, .slice (some (⟨w61.heap.size, 0, none⟩)) 1 1] (World.alloc w61 (.cells #[.int .i64 s46.2.2] 3))).bind fun r72 =>
(asSl r72.1).bind fun q73 =>
some (.normal, (((s46.2.2 : Int) == (Int.tmod (IntKind.i64.wrap ((Int.tmod n30 12) + 12)) 12)), (q73.1, q73.2.1, q73.2.2), (IntKind.i64.wrap (s46.2.2 + 1))), r72.2))
else
(if ((s46.2.2 : Int) == (Int.tmod (IntKind.i64.wrap ((Int.tmod n30 12) + 12)) 12)) = true then
((World.cell? w61 (Addr.add (⟨w8.heap.size, 0, none⟩) 6)).bind fun v74 =>
(asB v74).bind fun b75 =>
if b75 = true then
((callB Try.prog .append #[22, 22] 22 #[false, false] #[.slice s46.2.1.1 s46.2.1.2.1 s46.2.1.2.2, .slice (some (⟨w61.heap.size, 0, none⟩)) 1 1] (World.alloc w61 (.cells #[.int .i64 s46.2.2] 3))).bind fun r76 =>
(asSl r76.1).bind fun q77 =>
some (.normal, (((s46.2.2 : Int) == (Int.tmod (IntKind.i64.wrap ((Int.tmod n30 12) + 12)) 12)), (q77.1, q77.2.1, q77.2.2), (IntKind.i64.wrap (s46.2.2 + 1))), r76.2))
else
(some (.normal, (((s46.2.2 : Int) == (Int.tmod (IntKind.i64.wrap ((Int.tmod n30 12) + 12)) 12)), (s46.2.1.1, s46.2.1.2.1, s46.2.1.2.2), (IntKind.i64.wrap (s46.2.2 + 1))), w61)))
else
(some (.normal, (((s46.2.2 : Int) == (Int.tmod (IntKind.i64.wrap ((Int.tmod n30 12) + 12)) 12)), (s46.2.1.1, s46.2.1.2.1, s46.2.1.2.2), (IntKind.i64.wrap (s46.2.2 + 1))), w61))))
else
(if ((s46.2.2 : Int) == (Int.tmod (IntKind.i64.wrap ((Int.tmod n30 12) + 12)) 12)) = true then
((World.cell? w61 (Addr.add (⟨w8.heap.size, 0, none⟩) 6)).bind fun v78 =>
(asB v78).bind fun b79 =>
if b79 = true then
((callB Try.prog .append #[22, 22] 22 #[false, false] #[.slice s46.2.1.1 s46.2.1.2.1 s46.2.1.2.2, .slice (some (⟨w61.heap.size, 0, none⟩)) 1 1] (World.alloc w61 (.cells #[.int .i64 s46.2.2] 3))).bind fun r80 =>
(asSl r80.1).bind fun q81 =>
some (.normal, (((s46.2.2 : Int) == (Int.tmod (IntKind.i64.wrap ((Int.tmod n30 12) + 12)) 12)), (q81.1, q81.2.1, q81.2.2), (IntKind.i64.wrap (s46.2.2 + 1))), r80.2))
else
(some (.normal, (((s46.2.2 : Int) == (Int.tmod (IntKind.i64.wrap ((Int.tmod n30 12) + 12)) 12)), (s46.2.1.1, s46.2.1.2.1, s46.2.1.2.2), (IntKind.i64.wrap (s46.2.2 + 1))), w61)))
else
(some (.normal, (((s46.2.2 : Int) == (Int.tmod (IntKind.i64.wrap ((Int.tmod n30 12) + 12)) 12)), (s46.2.1.1, s46.2.1.2.1, s46.2.1.2.2), (IntKind.i64.wrap (s46.2.2 + 1))), w61))))
else
(if t60.1 = true then
(if ((s46.2.2 : Int) != (Int.tmod (IntKind.i64.wrap ((Int.tmod n30 12) + 12)) 12)) = true then
((callB Try.prog .append #[22, 22] 22 #[false, false] #[.slice s46.2.1.1 s46.2.1.2.1 s46.2.1.2.2, .slice (some (⟨w61.heap.size, 0, none⟩)) 1 1] (World.alloc w61 (.cells #[.int .i64 s46.2.2] 3))).bind fun r82 =>
(asSl r82.1).bind fun q83 =>
some (.normal, (false, (q83.1, q83.2.1, q83.2.2), (IntKind.i64.wrap (s46.2.2 + 1))), r82.2))
else
(if ((s46.2.2 : Int) == (Int.tmod (IntKind.i64.wrap ((Int.tmod n30 12) + 12)) 12)) = true then
((World.cell? w61 (Addr.add (⟨w8.heap.size, 0, none⟩) 6)).bind fun v84 =>
(asB v84).bind fun b85 =>
if b85 = true then
((callB Try.prog .append #[22, 22] 22 #[false, false] #[.slice s46.2.1.1 s46.2.1.2.1 s46.2.1.2.2, .slice (some (⟨w61.heap.size, 0, none⟩)) 1 1] (World.alloc w61 (.cells #[.int .i64 s46.2.2] 3))).bind fun r86 =>
(asSl r86.1).bind fun q87 =>
some (.normal, (false, (q87.1, q87.2.1, q87.2.2), (IntKind.i64.wrap (s46.2.2 + 1))), r86.2))
else
(some (.normal, (false, (s46.2.1.1, s46.2.1.2.1, s46.2.1.2.2), (IntKind.i64.wrap (s46.2.2 + 1))), w61)))
else
(some (.normal, (false, (s46.2.1.1, s46.2.1.2.1, s46.2.1.2.2), (IntKind.i64.wrap (s46.2.2 + 1))), w61))))
else
(if ((s46.2.2 : Int) == (Int.tmod (IntKind.i64.wrap ((Int.tmod n30 12) + 12)) 12)) = true then
((World.cell? w61 (Addr.add (⟨w8.heap.size, 0, none⟩) 6)).bind fun v88 =>
(asB v88).bind fun b89 =>
if b89 = true then
((callB Try.prog .append #[22, 22] 22 #[false, false] #[.slice s46.2.1.1 s46.2.1.2.1 s46.2.1.2.2, .slice (some (⟨w61.heap.size, 0, none⟩)) 1 1] (World.alloc w61 (.cells #[.int .i64 s46.2.2] 3))).bind fun r90 =>
(asSl r90.1).bind fun q91 =>
some (.normal, (false, (q91.1, q91.2.1, q91.2.2), (IntKind.i64.wrap (s46.2.2 + 1))), r90.2))
else
(some (.normal, (false, (s46.2.1.1, s46.2.1.2.1, s46.2.1.2.2), (IntKind.i64.wrap (s46.2.2 + 1))), w61)))
else
(some (.normal, (false, (s46.2.1.1, s46.2.1.2.1, s46.2.1.2.2), (IntKind.i64.wrap (s46.2.2 + 1))), w61)))))

/-- the round of a loop (penstock/penstocklaw16.GroupGoes) -/
noncomputable def g7_l45_b (s7 : Bool × Int × (Option Addr × Nat × Nat) × Int) (p2 : Option Addr) (w8 : World) (n30 : Int) (r33 : Value × World) (b42 : Bool) (n43 : Int) (u0 : Option Addr × Nat × Nat) (s46 : Bool × (Option Addr × Nat × Nat) × Int) (w47 : World) : Option (Exit × (Bool × (Option Addr × Nat × Nat) × Int) × World) :=
if (decide ((s46.2.2 : Int) < 12)) = true then
(g7_l49 s7 p2 w8 n30 r33 b42 n43 s46 u0 (false, 0) w47)
else
(some ((.exit 2), (s46.1, (s46.2.1.1, s46.2.1.2.1, s46.2.1.2.2), s46.2.2), w47))

noncomputable def g7_K92 (p2 : Option Addr) (u0 : Option Addr × Nat × Nat) : Exit → Env → World → Option (Exit × (Bool × Int × (Option Addr × Nat × Nat) × Int) × World) :=
  fun e ρ w => ((List.map (·.1) (g7_l6_cs p2 u0)).mapM ρ).bind fun _ => loopK [(2, .b), (4, .i .i64), (5, .sl), (33, .i .i64)] e ρ w

noncomputable def g7_K93 (p2 : Option Addr) (u0 : Option Addr × Nat × Nat) : Exit → Env → World → Option (Exit × (Bool × Int × (Option Addr × Nat × Nat) × Int) × World) :=
  seqK (ev Try.prog 209 7 g7_ann (cAt [1, 1, 1, 1, 1, 0, 1, 0, 0, 1, 1, 1] (bodyOf Try.f7)) [1, 1, 1, 0, 0, 1, 0, 1, 1, 1, 1, 1] (g7_K92 p2 u0)) (g7_K92 p2 u0)

noncomputable def g7_K94 (p2 : Option Addr) (u0 : Option Addr × Nat × Nat) : Exit → Env → World → Option (Exit × (Bool × Int × (Option Addr × Nat × Nat) × Int) × World) :=
  blkK 1 (g7_K93 p2 u0)

noncomputable def g7_K95 (p2 : Option Addr) (u0 : Option Addr × Nat × Nat) : Exit → Env → World → Option (Exit × (Bool × Int × (Option Addr × Nat × Nat) × Int) × World) :=
  seqK (ev Try.prog 209 7 g7_ann (cAt [1, 1, 1, 1, 1, 0, 1, 0, 0, 1, 1, 0, 0, 1, 1, 1, 1, 1, 1] (bodyOf Try.f7)) [1, 1, 1, 1, 1, 1, 0, 0, 1, 1, 0, 0, 1, 0, 1, 1, 1, 1, 1] (g7_K94 p2 u0)) (g7_K94 p2 u0)

noncomputable def g7_K96 (p2 : Option Addr) (u0 : Option Addr × Nat × Nat) : Exit → Env → World → Option (Exit × (Bool × Int × (Option Addr × Nat × Nat) × Int) × World) :=
  blkK 2 (g7_K95 p2 u0)

/-- the loop, from a state on -/
noncomputable def g7_l45 (s7 : Bool × Int × (Option Addr × Nat × Nat) × Int) (p2 : Option Addr) (w8 : World) (n30 : Int) (r33 : Value × World) (b42 : Bool) (n43 : Int) (u0 : Option Addr × Nat × Nat) (s : Bool × (Option Addr × Nat × Nat) × Int) (w : World) : Option (Exit × (Bool × Int × (Option Addr × Nat × Nat) × Int) × World) :=
  loopM Try.prog 209 7 g7_ann (cAt [1, 1, 1, 1, 1, 0, 1, 0, 0, 1, 1, 0, 0, 1, 1, 1, 1, 1, 0, 1, 0, 0] (bodyOf Try.f7)) [0, 1, 0, 1, 1, 1, 1, 1, 0, 0, 1, 1, 0, 0, 1, 0, 1, 1, 1, 1, 1] (g7_K96 p2 u0) ((g7_l45_cs s7 p2 w8 n30 r33 b42 n43 u0) ++ sputs [(12, .b), (13, .sl), (14, .i .i64)] s) w

def g7_l133_cs (p2 : Option Addr) (s7 : Bool × Int × (Option Addr × Nat × Nat) × Int) (t97 : Bool × (Option Addr × Nat × Nat) × Int) (n30 : Int) (u0 : Option Addr × Nat × Nat) : List (Nat × Value) := ([(3, .pointer p2), (4, .int .i64 (IntKind.i64.wrap (s7.2.1 + 1))), (5, .slice t97.2.1.1 t97.2.1.2.1 t97.2.1.2.2), (8, .int .i64 (Int.tmod (IntKind.i64.wrap ((Int.tmod n30 12) + 12)) 12)), (31, .slice u0.1 u0.2.1 u0.2.2), (32, .int .i64 (u0.2.1 : Int)), (33, .int .i64 s7.2.2.2)] : List (Nat × Value))

/-- the round of a loop (penstock/penstocklaw16.GroupGoes) -/
noncomputable def g7_l133_b (p2 : Option Addr) (n30 : Int) (s7 : Bool × Int × (Option Addr × Nat × Nat) × Int) (t97 : Bool × (Option Addr × Nat × Nat) × Int) (u0 : Option Addr × Nat × Nat) (s134 : Bool × Int) (w135 : World) : Option (Exit × (Bool × Int) × World) :=
if (decide ((s134.2 : Int) < 4)) = true then
((callF Try.prog 26 #[.pointer p2, .int .i64 3, .int .i64 (Int.tmod (IntKind.i64.wrap ((Int.tmod n30 12) + 12)) 12), .int .i64 (IntKind.i64.wrap (s7.2.1 + 1)), .int .i64 s134.2, .int .i64 5] w135).bind fun r136 =>
(asTup 2 r136.1).bind fun l137 =>
(Ev.asAgg 6 (l137.getD 0 undef)).bind fun l138 =>
(asI .i64 (l138.getD 0 undef)).bind fun n139 =>
(asI .i64 (l138.getD 1 undef)).bind fun n140 =>
(asI .i64 (l138.getD 2 undef)).bind fun n141 =>
(asSl (l138.getD 3 undef)).bind fun q142 =>
(asI .i64 (l138.getD 4 undef)).bind fun n143 =>
(asI .i64 (l138.getD 5 undef)).bind fun n144 =>
(asI .i64 (l137.getD 1 undef)).bind fun n145 =>
(stL (World.alloc r136.2 (.cells #[.int .i64 0, .int .i64 0, .int .i64 0, .slice none 0 0, .int .i64 0, .int .i64 0] 27)) (⟨r136.2.heap.size, 0, none⟩) [.int .i64 n139, .int .i64 n140, .int .i64 n141, .slice q142.1 q142.2.1 q142.2.2, .int .i64 n143, .int .i64 n144] 0).bind fun w146 =>
(callF Try.prog 26 #[.pointer p2, .int .i64 3, .int .i64 (Int.tmod (IntKind.i64.wrap ((Int.tmod n30 12) + 12)) 12), .int .i64 (IntKind.i64.wrap ((IntKind.i64.wrap (s7.2.1 + 1)) - 1)), .int .i64 s134.2, .int .i64 5] w146).bind fun r147 =>
(asTup 2 r147.1).bind fun l148 =>
(Ev.asAgg 6 (l148.getD 0 undef)).bind fun l149 =>
(asI .i64 (l149.getD 0 undef)).bind fun n150 =>
(asI .i64 (l149.getD 1 undef)).bind fun n151 =>
(asI .i64 (l149.getD 2 undef)).bind fun n152 =>
(asSl (l149.getD 3 undef)).bind fun q153 =>
(asI .i64 (l149.getD 4 undef)).bind fun n154 =>
(asI .i64 (l149.getD 5 undef)).bind fun n155 =>
(asI .i64 (l148.getD 1 undef)).bind fun n156 =>
(stL (World.alloc r147.2 (.cells #[.int .i64 0, .int .i64 0, .int .i64 0, .slice none 0 0, .int .i64 0, .int .i64 0] 27)) (⟨r147.2.heap.size, 0, none⟩) [.int .i64 n150, .int .i64 n151, .int .i64 n152, .slice q153.1 q153.2.1 q153.2.2, .int .i64 n154, .int .i64 n155] 0).bind fun w157 =>
if (decide (((t97.2.1.2.1 : Int) : Int) > 0)) = true then
(if ((t97.2.1.2.1 : Int) : Int) = 0 then
(none)
else
((idxA t97.2.1.1 t97.2.1.2.1 1 (Int.tmod s134.2 (t97.2.1.2.1 : Int))).bind fun a160 =>
(World.cell? w157 a160).bind fun v161 =>
(asI .i64 v161).bind fun n162 =>
if (!(((n145 : Int) == 0) == ((n162 : Int) == (Int.tmod (IntKind.i64.wrap ((Int.tmod n30 12) + 12)) 12)))) = true then
(some (.ret, (false, s134.2), w157))
else
(if ((n145 : Int) != 0) = true then
(if ((n145 : Int) != 15) = true then
(some (.ret, (false, s134.2), w157))
else
(if ((n156 : Int) != 15) = true then
(some (.ret, (false, s134.2), w157))
else
(some (.normal, (s134.1, (IntKind.i64.wrap (s134.2 + 1))), w157))))
else
(if ((n156 : Int) != 15) = true then
(some (.ret, (false, s134.2), w157))
else
(some (.normal, (s134.1, (IntKind.i64.wrap (s134.2 + 1))), w157))))))
else
(if (!(((n145 : Int) == 0) == false)) = true then
(some (.ret, (false, s134.2), w157))
else
(if ((n145 : Int) != 0) = true then
(if ((n145 : Int) != 15) = true then
(some (.ret, (false, s134.2), w157))
else
(if ((n156 : Int) != 15) = true then
(some (.ret, (false, s134.2), w157))
else
(some (.normal, (s134.1, (IntKind.i64.wrap (s134.2 + 1))), w157))))
else
(if ((n156 : Int) != 15) = true then
(some (.ret, (false, s134.2), w157))
else
(some (.normal, (s134.1, (IntKind.i64.wrap (s134.2 + 1))), w157))))))
else
(some ((.exit 6), (s134.1, s134.2), w135))

noncomputable def g7_K163 (p2 : Option Addr) (u0 : Option Addr × Nat × Nat) : Exit → Env → World → Option (Exit × (Bool × Int × (Option Addr × Nat × Nat) × Int) × World) :=
  blkK 6 (g7_K94 p2 u0)

/-- the loop, from a state on -/
noncomputable def g7_l133 (p2 : Option Addr) (s7 : Bool × Int × (Option Addr × Nat × Nat) × Int) (t97 : Bool × (Option Addr × Nat × Nat) × Int) (n30 : Int) (u0 : Option Addr × Nat × Nat) (s : Bool × Int) (w : World) : Option (Exit × (Bool × Int × (Option Addr × Nat × Nat) × Int) × World) :=
  loopM Try.prog 209 7 g7_ann (cAt [1, 1, 1, 1, 1, 0, 1, 0, 0, 1, 1, 0, 0, 1, 1, 1, 1, 1, 1, 1, 1, 1, 1, 1, 1, 0, 0] (bodyOf Try.f7)) [0, 1, 1, 1, 1, 1, 1, 1, 1, 1, 1, 1, 1, 0, 0, 1, 1, 0, 0, 1, 0, 1, 1, 1, 1, 1] (g7_K163 p2 u0) ((g7_l133_cs p2 s7 t97 n30 u0) ++ sputs [(2, .b), (18, .i .i64)] s) w

/-- behind the loop, left by x6 -/
noncomputable def g7_l133_x6 (s7 : Bool × Int × (Option Addr × Nat × Nat) × Int) (t97 : Bool × (Option Addr × Nat × Nat) × Int) (t164 : Bool × Int) (w165 : World) : Option (Exit × (Bool × Int × (Option Addr × Nat × Nat) × Int) × World) :=
some (.normal, (t164.1, (IntKind.i64.wrap (s7.2.1 + 1)), (t97.2.1.1, t97.2.1.2.1, t97.2.1.2.2), (IntKind.i64.wrap (s7.2.2.2 + 1))), w165)

/-- behind the loop, left by ret -/
noncomputable def g7_l133_ret (s7 : Bool × Int × (Option Addr × Nat × Nat) × Int) (t97 : Bool × (Option Addr × Nat × Nat) × Int) (t166 : Bool × Int) (w167 : World) : Option (Exit × (Bool × Int × (Option Addr × Nat × Nat) × Int) × World) :=
some (.ret, (t166.1, (IntKind.i64.wrap (s7.2.1 + 1)), (t97.2.1.1, t97.2.1.2.1, t97.2.1.2.2), s7.2.2.2), w167)

def g7_l193_cs (p2 : Option Addr) (s7 : Bool × Int × (Option Addr × Nat × Nat) × Int) (t97 : Bool × (Option Addr × Nat × Nat) × Int) (n30 : Int) (u0 : Option Addr × Nat × Nat) : List (Nat × Value) := ([(3, .pointer p2), (4, .int .i64 (IntKind.i64.wrap (s7.2.1 + 1))), (5, .slice t97.2.1.1 t97.2.1.2.1 t97.2.1.2.2), (8, .int .i64 (Int.tmod (IntKind.i64.wrap ((Int.tmod n30 12) + 12)) 12)), (31, .slice u0.1 u0.2.1 u0.2.2), (32, .int .i64 (u0.2.1 : Int)), (33, .int .i64 s7.2.2.2)] : List (Nat × Value))

/-- the round of a loop (penstock/penstocklaw16.GroupGoes) -/
noncomputable def g7_l193_b (p2 : Option Addr) (n30 : Int) (s7 : Bool × Int × (Option Addr × Nat × Nat) × Int) (t97 : Bool × (Option Addr × Nat × Nat) × Int) (u0 : Option Addr × Nat × Nat) (s194 : Bool × Int) (w195 : World) : Option (Exit × (Bool × Int) × World) :=
if (decide ((s194.2 : Int) < 4)) = true then
((callF Try.prog 26 #[.pointer p2, .int .i64 3, .int .i64 (Int.tmod (IntKind.i64.wrap ((Int.tmod n30 12) + 12)) 12), .int .i64 (IntKind.i64.wrap (s7.2.1 + 1)), .int .i64 s194.2, .int .i64 5] w195).bind fun r196 =>
(asTup 2 r196.1).bind fun l197 =>
(Ev.asAgg 6 (l197.getD 0 undef)).bind fun l198 =>
(asI .i64 (l198.getD 0 undef)).bind fun n199 =>
(asI .i64 (l198.getD 1 undef)).bind fun n200 =>
(asI .i64 (l198.getD 2 undef)).bind fun n201 =>
(asSl (l198.getD 3 undef)).bind fun q202 =>
(asI .i64 (l198.getD 4 undef)).bind fun n203 =>
(asI .i64 (l198.getD 5 undef)).bind fun n204 =>
(asI .i64 (l197.getD 1 undef)).bind fun n205 =>
(stL (World.alloc r196.2 (.cells #[.int .i64 0, .int .i64 0, .int .i64 0, .slice none 0 0, .int .i64 0, .int .i64 0] 27)) (⟨r196.2.heap.size, 0, none⟩) [.int .i64 n199, .int .i64 n200, .int .i64 n201, .slice q202.1 q202.2.1 q202.2.2, .int .i64 n203, .int .i64 n204] 0).bind fun w206 =>
(callF Try.prog 26 #[.pointer p2, .int .i64 3, .int .i64 (Int.tmod (IntKind.i64.wrap ((Int.tmod n30 12) + 12)) 12), .int .i64 (IntKind.i64.wrap ((IntKind.i64.wrap (s7.2.1 + 1)) - 1)), .int .i64 s194.2, .int .i64 5] w206).bind fun r207 =>
(asTup 2 r207.1).bind fun l208 =>
(Ev.asAgg 6 (l208.getD 0 undef)).bind fun l209 =>
(asI .i64 (l209.getD 0 undef)).bind fun n210 =>
(asI .i64 (l209.getD 1 undef)).bind fun n211 =>
(asI .i64 (l209.getD 2 undef)).bind fun n212 =>
(asSl (l209.getD 3 undef)).bind fun q213 =>
(asI .i64 (l209.getD 4 undef)).bind fun n214 =>
(asI .i64 (l209.getD 5 undef)).bind fun n215 =>
(asI .i64 (l208.getD 1 undef)).bind fun n216 =>
(stL (World.alloc r207.2 (.cells #[.int .i64 0, .int .i64 0, .int .i64 0, .slice none 0 0, .int .i64 0, .int .i64 0] 27)) (⟨r207.2.heap.size, 0, none⟩) [.int .i64 n210, .int .i64 n211, .int .i64 n212, .slice q213.1 q213.2.1 q213.2.2, .int .i64 n214, .int .i64 n215] 0).bind fun w217 =>
if (decide (((t97.2.1.2.1 : Int) : Int) > 0)) = true then
(if ((t97.2.1.2.1 : Int) : Int) = 0 then
(none)
else
((idxA t97.2.1.1 t97.2.1.2.1 1 (Int.tmod s194.2 (t97.2.1.2.1 : Int))).bind fun a220 =>
(World.cell? w217 a220).bind fun v221 =>
(asI .i64 v221).bind fun n222 =>
if (!(((n205 : Int) == 0) == ((n222 : Int) == (Int.tmod (IntKind.i64.wrap ((Int.tmod n30 12) + 12)) 12)))) = true then
(some (.ret, (false, s194.2), w217))
else
(if ((n205 : Int) != 0) = true then
(if ((n205 : Int) != 15) = true then
(some (.ret, (false, s194.2), w217))
else
(if ((n216 : Int) != 15) = true then
(some (.ret, (false, s194.2), w217))
else
(some (.normal, (s194.1, (IntKind.i64.wrap (s194.2 + 1))), w217))))
else
(if ((n216 : Int) != 15) = true then
(some (.ret, (false, s194.2), w217))
else
(some (.normal, (s194.1, (IntKind.i64.wrap (s194.2 + 1))), w217))))))
else
(if (!(((n205 : Int) == 0) == false)) = true then
(some (.ret, (false, s194.2), w217))
else
(if ((n205 : Int) != 0) = true then
(if ((n205 : Int) != 15) = true then
(some (.ret, (false, s194.2), w217))
else
(if ((n216 : Int) != 15) = true then
(some (.ret, (false, s194.2), w217))
else
(some (.normal, (s194.1, (IntKind.i64.wrap (s194.2 + 1))), w217))))
else
(if ((n216 : Int) != 15) = true then
(some (.ret, (false, s194.2), w217))
else
(some (.normal, (s194.1, (IntKind.i64.wrap (s194.2 + 1))), w217))))))
else
(some ((.exit 6), (s194.1, s194.2), w195))

noncomputable def g7_K223 (p2 : Option Addr) (u0 : Option Addr × Nat × Nat) : Exit → Env → World → Option (Exit × (Bool × Int × (Option Addr × Nat × Nat) × Int) × World) :=
  blkK 6 (g7_K94 p2 u0)

/-- the loop, from a state on -/
noncomputable def g7_l193 (p2 : Option Addr) (s7 : Bool × Int × (Option Addr × Nat × Nat) × Int) (t97 : Bool × (Option Addr × Nat × Nat) × Int) (n30 : Int) (u0 : Option Addr × Nat × Nat) (s : Bool × Int) (w : World) : Option (Exit × (Bool × Int × (Option Addr × Nat × Nat) × Int) × World) :=
  loopM Try.prog 209 7 g7_ann (cAt [1, 1, 1, 1, 1, 0, 1, 0, 0, 1, 1, 0, 0, 1, 1, 1, 1, 1, 1, 1, 1, 1, 1, 1, 1, 0, 0] (bodyOf Try.f7)) [0, 1, 1, 1, 1, 1, 1, 1, 1, 1, 1, 1, 1, 0, 0, 1, 1, 0, 0, 1, 0, 1, 1, 1, 1, 1] (g7_K223 p2 u0) ((g7_l193_cs p2 s7 t97 n30 u0) ++ sputs [(2, .b), (18, .i .i64)] s) w

/-- behind the loop, left by x6 -/
noncomputable def g7_l193_x6 (s7 : Bool × Int × (Option Addr × Nat × Nat) × Int) (t97 : Bool × (Option Addr × Nat × Nat) × Int) (t224 : Bool × Int) (w225 : World) : Option (Exit × (Bool × Int × (Option Addr × Nat × Nat) × Int) × World) :=
some (.normal, (t224.1, (IntKind.i64.wrap (s7.2.1 + 1)), (t97.2.1.1, t97.2.1.2.1, t97.2.1.2.2), (IntKind.i64.wrap (s7.2.2.2 + 1))), w225)

/-- behind the loop, left by ret -/
noncomputable def g7_l193_ret (s7 : Bool × Int × (Option Addr × Nat × Nat) × Int) (t97 : Bool × (Option Addr × Nat × Nat) × Int) (t226 : Bool × Int) (w227 : World) : Option (Exit × (Bool × Int × (Option Addr × Nat × Nat) × Int) × World) :=
some (.ret, (t226.1, (IntKind.i64.wrap (s7.2.1 + 1)), (t97.2.1.1, t97.2.1.2.1, t97.2.1.2.2), s7.2.2.2), w227)

/-- behind the loop, left by x2 -/
noncomputable def g7_l45_x2 (w8 : World) (b42 : Bool) (s7 : Bool × Int × (Option Addr × Nat × Nat) × Int) (n43 : Int) (r33 : Value × World) (p2 : Option Addr) (n30 : Int) (u0 : Option Addr × Nat × Nat) (t97 : Bool × (Option Addr × Nat × Nat) × Int) (w98 : World) : Option (Exit × (Bool × Int × (Option Addr × Nat × Nat) × Int) × World) :=
(World.cell? w98 (Addr.add (⟨w8.heap.size, 0, none⟩) 6)).bind fun v99 =>
(asB v99).bind fun b100 =>
if (t97.1 == b100) = true then
(if b42 = true then
(some (.ret, (false, s7.2.1, (s7.2.2.1.1, s7.2.2.1.2.1, s7.2.2.1.2.2), s7.2.2.2), w98))
else
(if (!t97.1) = true then
((World.cell? w98 (Addr.add (⟨w8.heap.size, 0, none⟩) 6)).bind fun v101 =>
(asB v101).bind fun b102 =>
if (!(((n43 : Int) == 3) == b102)) = true then
(some (.ret, (false, s7.2.1, (s7.2.2.1.1, s7.2.2.1.2.1, s7.2.2.1.2.2), s7.2.2.2), w98))
else
(if ((n43 : Int) != 0) = true then
(if ((n43 : Int) != 3) = true then
(some (.ret, (false, s7.2.1, (s7.2.2.1.1, s7.2.2.1.2.1, s7.2.2.1.2.2), s7.2.2.2), w98))
else
(some (.normal, (s7.1, s7.2.1, (s7.2.2.1.1, s7.2.2.1.2.1, s7.2.2.1.2.2), (IntKind.i64.wrap (s7.2.2.2 + 1))), w98)))
else
(some (.normal, (s7.1, s7.2.1, (s7.2.2.1.1, s7.2.2.1.2.1, s7.2.2.1.2.2), (IntKind.i64.wrap (s7.2.2.2 + 1))), w98))))
else
(if (!(((n43 : Int) == 3) == false)) = true then
(some (.ret, (false, s7.2.1, (s7.2.2.1.1, s7.2.2.1.2.1, s7.2.2.1.2.2), s7.2.2.2), w98))
else
(if ((n43 : Int) != 0) = true then
(if ((n43 : Int) != 3) = true then
(some (.ret, (false, s7.2.1, (s7.2.2.1.1, s7.2.2.1.2.1, s7.2.2.1.2.2), s7.2.2.2), w98))
else
(some (.normal, (s7.1, s7.2.1, (s7.2.2.1.1, s7.2.2.1.2.1, s7.2.2.1.2.2), (IntKind.i64.wrap (s7.2.2.2 + 1))), w98)))
else
(some (.normal, (s7.1, s7.2.1, (s7.2.2.1.1, s7.2.2.1.2.1, s7.2.2.1.2.2), (IntKind.i64.wrap (s7.2.2.2 + 1))), w98))))))
else
((World.cell? w98 (Addr.add (⟨w8.heap.size, 0, none⟩) 6)).bind fun v103 =>
(asB v103).bind fun b104 =>
if b104 = true then
(if (((s7.2.2.1.2.1 : Int) : Int) == 8) = true then
(if b42 = true then
(some (.ret, (false, s7.2.1, (s7.2.2.1.1, s7.2.2.1.2.1, s7.2.2.1.2.2), s7.2.2.2), w98))
else
(if (!t97.1) = true then
((World.cell? w98 (Addr.add (⟨w8.heap.size, 0, none⟩) 6)).bind fun v106 =>
(asB v106).bind fun b107 =>
if (!(((n43 : Int) == 3) == b107)) = true then
(some (.ret, (false, s7.2.1, (s7.2.2.1.1, s7.2.2.1.2.1, s7.2.2.1.2.2), s7.2.2.2), w98))
else
(if ((n43 : Int) != 0) = true then
(if ((n43 : Int) != 3) = true then
(some (.ret, (false, s7.2.1, (s7.2.2.1.1, s7.2.2.1.2.1, s7.2.2.1.2.2), s7.2.2.2), w98))
else
(some (.normal, (s7.1, s7.2.1, (s7.2.2.1.1, s7.2.2.1.2.1, s7.2.2.1.2.2), (IntKind.i64.wrap (s7.2.2.2 + 1))), w98)))
else
(some (.normal, (s7.1, s7.2.1, (s7.2.2.1.1, s7.2.2.1.2.1, s7.2.2.1.2.2), (IntKind.i64.wrap (s7.2.2.2 + 1))), w98))))
else
(if (!(((n43 : Int) == 3) == false)) = true then
(some (.ret, (false, s7.2.1, (s7.2.2.1.1, s7.2.2.1.2.1, s7.2.2.1.2.2), s7.2.2.2), w98))
else
(if ((n43 : Int) != 0) = true then
(if ((n43 : Int) != 3) = true then
(some (.ret, (false, s7.2.1, (s7.2.2.1.1, s7.2.2.1.2.1, s7.2.2.1.2.2), s7.2.2.2), w98))
else
(some (.normal, (s7.1, s7.2.1, (s7.2.2.1.1, s7.2.2.1.2.1, s7.2.2.1.2.2), (IntKind.i64.wrap (s7.2.2.2 + 1))), w98)))
else
(some (.normal, (s7.1, s7.2.1, (s7.2.2.1.1, s7.2.2.1.2.1, s7.2.2.1.2.2), (IntKind.i64.wrap (s7.2.2.2 + 1))), w98))))))
else
(if (!b42) = true then
(some (.ret, (false, s7.2.1, (s7.2.2.1.1, s7.2.2.1.2.1, s7.2.2.1.2.2), s7.2.2.2), w98))
else
(if ((n43 : Int) != 0) = true then
(some (.ret, (false, s7.2.1, (s7.2.2.1.1, s7.2.2.1.2.1, s7.2.2.1.2.2), s7.2.2.2), w98))
else
((World.cell? w98 (Addr.add (⟨r33.2.heap.size, 0, none⟩) 2)).bind fun v108 =>
(asI .i64 v108).bind fun n109 =>
if ((n109 : Int) != (IntKind.i64.wrap (s7.2.1 + 1))) = true then
(some (.ret, (false, s7.2.1, (s7.2.2.1.1, s7.2.2.1.2.1, s7.2.2.1.2.2), s7.2.2.2), w98))
else
((World.cell? w98 (Addr.add (⟨r33.2.heap.size, 0, none⟩) 3)).bind fun v110 =>
(asSl v110).bind fun q111 =>
(callF Try.prog 24 #[.slice q111.1 q111.2.1 q111.2.2, .slice t97.2.1.1 t97.2.1.2.1 t97.2.1.2.2] w98).bind fun r112 =>
(asB r112.1).bind fun b113 =>
if (!b113) = true then
(some (.ret, (false, s7.2.1, (s7.2.2.1.1, s7.2.2.1.2.1, s7.2.2.1.2.2), s7.2.2.2), r112.2))
else
((ldN r112.2 (⟨r33.2.heap.size, 0, none⟩) 0 6).bind fun l114 =>
(asI .i64 (l114.getD 0 undef)).bind fun n115 =>
(asI .i64 (l114.getD 1 undef)).bind fun n116 =>
(asI .i64 (l114.getD 2 undef)).bind fun n117 =>
(asSl (l114.getD 3 undef)).bind fun q118 =>
(asI .i64 (l114.getD 4 undef)).bind fun n119 =>
(asI .i64 (l114.getD 5 undef)).bind fun n120 =>
(callF Try.prog 21 #[.int .u64 0, .slice (some (⟨r112.2.heap.size, 0, none⟩)) 1 1] (World.alloc r112.2 (.cells #[.int .i64 n115, .int .i64 n116, .int .i64 n117, .slice q118.1 q118.2.1 q118.2.2, .int .i64 n119, .int .i64 n120] 27))).bind fun r121 =>
(Ev.asAgg 9 r121.1).bind fun l122 =>
(asI .i64 (l122.getD 0 undef)).bind fun n123 =>
(asI .i64 (l122.getD 1 undef)).bind fun n124 =>
(asI .u64 (l122.getD 2 undef)).bind fun n125 =>
(asI .i64 (l122.getD 3 undef)).bind fun n126 =>
(asI .i64 (l122.getD 4 undef)).bind fun n127 =>
(asB (l122.getD 5 undef)).bind fun b128 =>
(asB (l122.getD 6 undef)).bind fun b129 =>
(asB (l122.getD 7 undef)).bind fun b130 =>
(asSl (l122.getD 8 undef)).bind fun q131 =>
(callF Try.prog 20 #[.pointer p2, .agg #[.int .i64 n123, .int .i64 n124, .int .u64 n125, .int .i64 n126, .int .i64 n127, .bool b128, .bool b129, .bool b130, .slice q131.1 q131.2.1 q131.2.2]] r121.2).bind fun r132 =>
(asTup 0 r132.1).bind fun _ =>
g7_l133 p2 s7 t97 n30 u0 (s7.1, 0) r132.2))))))
else
(if (!b42) = true then
(some (.ret, (false, s7.2.1, (s7.2.2.1.1, s7.2.2.1.2.1, s7.2.2.1.2.2), s7.2.2.2), w98))
else
(if ((n43 : Int) != 0) = true then
(some (.ret, (false, s7.2.1, (s7.2.2.1.1, s7.2.2.1.2.1, s7.2.2.1.2.2), s7.2.2.2), w98))
else
((World.cell? w98 (Addr.add (⟨r33.2.heap.size, 0, none⟩) 2)).bind fun v168 =>
(asI .i64 v168).bind fun n169 =>
if ((n169 : Int) != (IntKind.i64.wrap (s7.2.1 + 1))) = true then
(some (.ret, (false, s7.2.1, (s7.2.2.1.1, s7.2.2.1.2.1, s7.2.2.1.2.2), s7.2.2.2), w98))
else
((World.cell? w98 (Addr.add (⟨r33.2.heap.size, 0, none⟩) 3)).bind fun v170 =>
(asSl v170).bind fun q171 =>
(callF Try.prog 24 #[.slice q171.1 q171.2.1 q171.2.2, .slice t97.2.1.1 t97.2.1.2.1 t97.2.1.2.2] w98).bind fun r172 =>
(asB r172.1).bind fun b173 =>
if (!b173) = true then
(some (.ret, (false, s7.2.1, (s7.2.2.1.1, s7.2.2.1.2.1, s7.2.2.1.2.2), s7.2.2.2), r172.2))
else
((ldN r172.2 (⟨r33.2.heap.size, 0, none⟩) 0 6).bind fun l174 =>
(asI .i64 (l174.getD 0 undef)).bind fun n175 =>
(asI .i64 (l174.getD 1 undef)).bind fun n176 =>
(asI .i64 (l174.getD 2 undef)).bind fun n177 =>
(asSl (l174.getD 3 undef)).bind fun q178 =>
(asI .i64 (l174.getD 4 undef)).bind fun n179 =>
(asI .i64 (l174.getD 5 undef)).bind fun n180 =>
(callF Try.prog 21 #[.int .u64 0, .slice (some (⟨r172.2.heap.size, 0, none⟩)) 1 1] (World.alloc r172.2 (.cells #[.int .i64 n175, .int .i64 n176, .int .i64 n177, .slice q178.1 q178.2.1 q178.2.2, .int .i64 n179, .int .i64 n180] 27))).bind fun r181 =>
(Ev.asAgg 9 r181.1).bind fun l182 =>
(asI .i64 (l182.getD 0 undef)).bind fun n183 =>
(asI .i64 (l182.getD 1 undef)).bind fun n184 =>
(asI .u64 (l182.getD 2 undef)).bind fun n185 =>
(asI .i64 (l182.getD 3 undef)).bind fun n186 =>
(asI .i64 (l182.getD 4 undef)).bind fun n187 =>
(asB (l182.getD 5 undef)).bind fun b188 =>
(asB (l182.getD 6 undef)).bind fun b189 =>
(asB (l182.getD 7 undef)).bind fun b190 =>
(asSl (l182.getD 8 undef)).bind fun q191 =>
(callF Try.prog 20 #[.pointer p2, .agg #[.int .i64 n183, .int .i64 n184, .int .u64 n185, .int .i64 n186, .int .i64 n187, .bool b188, .bool b189, .bool b190, .slice q191.1 q191.2.1 q191.2.2]] r181.2).bind fun r192 =>
(asTup 0 r192.1).bind fun _ =>
g7_l193 p2 s7 t97 n30 u0 (s7.1, 0) r192.2))))))

/-- the round of a loop (penstock/penstocklaw16.GroupGoes) -/
noncomputable def g7_l6_b (u0 : Option Addr × Nat × Nat) (p2 : Option Addr) (s7 : Bool × Int × (Option Addr × Nat × Nat) × Int) (w8 : World) : Option (Exit × (Bool × Int × (Option Addr × Nat × Nat) × Int) × World) :=
if (decide ((s7.2.2.2 : Int) < (u0.2.1 : Int))) = true then
((idxA u0.1 u0.2.1 17 s7.2.2.2).bind fun a9 =>
(ldN w8 a9 0 17).bind fun l10 =>
(asI .i64 (l10.getD 0 undef)).bind fun n11 =>
(asI .i64 (l10.getD 1 undef)).bind fun n12 =>
(asI .i64 (l10.getD 2 undef)).bind fun n13 =>
(asI .i64 (l10.getD 3 undef)).bind fun n14 =>
(asI .i64 (l10.getD 4 undef)).bind fun n15 =>
(asI .i64 (l10.getD 5 undef)).bind fun n16 =>
(asB (l10.getD 6 undef)).bind fun b17 =>
(asI .u64 (l10.getD 7 undef)).bind fun n18 =>
(asI .i64 (l10.getD 8 undef)).bind fun n19 =>
(asI .i64 (l10.getD 9 undef)).bind fun n20 =>
(asI .u64 (l10.getD 10 undef)).bind fun n21 =>
(asI .i64 (l10.getD 11 undef)).bind fun n22 =>
(asI .i64 (l10.getD 12 undef)).bind fun n23 =>
(asB (l10.getD 13 undef)).bind fun b24 =>
(asB (l10.getD 14 undef)).bind fun b25 =>
(asB (l10.getD 15 undef)).bind fun b26 =>
(asSl (l10.getD 16 undef)).bind fun q27 =>
(stL (World.alloc w8 (.cells #[.int .i64 0, .int .i64 0, .int .i64 0, .int .i64 0, .int .i64 0, .int .i64 0, .bool false, .int .u64 0, .int .i64 0, .int .i64 0, .int .u64 0, .int .i64 0, .int .i64 0, .bool false, .bool false, .bool false, .slice none 0 0] 62)) (⟨w8.heap.size, 0, none⟩) [.int .i64 n11, .int .i64 n12, .int .i64 n13, .int .i64 n14, .int .i64 n15, .int .i64 n16, .bool b17, .int .u64 n18, .int .i64 n19, .int .i64 n20, .int .u64 n21, .int .i64 n22, .int .i64 n23, .bool b24, .bool b25, .bool b26, .slice q27.1 q27.2.1 q27.2.2] 0).bind fun w28 =>
(World.cell? w28 (Addr.add (⟨w8.heap.size, 0, none⟩) 2)).bind fun v29 =>
(asI .i64 v29).bind fun n30 =>
(World.cell? w28 (Addr.add (⟨w8.heap.size, 0, none⟩) 6)).bind fun v31 =>
(asB v31).bind fun b32 =>
(callF Try.prog 25 #[.pointer p2, .int .i64 3, .int .i64 (Int.tmod (IntKind.i64.wrap ((Int.tmod n30 12) + 12)) 12), .bool b32] w28).bind fun r33 =>
(asTup 3 r33.1).bind fun l34 =>
(Ev.asAgg 6 (l34.getD 0 undef)).bind fun l35 =>
(asI .i64 (l35.getD 0 undef)).bind fun n36 =>
(asI .i64 (l35.getD 1 undef)).bind fun n37 =>
(asI .i64 (l35.getD 2 undef)).bind fun n38 =>
(asSl (l35.getD 3 undef)).bind fun q39 =>
(asI .i64 (l35.getD 4 undef)).bind fun n40 =>
(asI .i64 (l35.getD 5 undef)).bind fun n41 =>
(asB (l34.getD 1 undef)).bind fun b42 =>
(asI .i64 (l34.getD 2 undef)).bind fun n43 =>
(stL (World.alloc r33.2 (.cells #[.int .i64 0, .int .i64 0, .int .i64 0, .slice none 0 0, .int .i64 0, .int .i64 0] 27)) (⟨r33.2.heap.size, 0, none⟩) [.int .i64 n36, .int .i64 n37, .int .i64 n38, .slice q39.1 q39.2.1 q39.2.2, .int .i64 n40, .int .i64 n41] 0).bind fun w44 =>
g7_l45 s7 p2 w8 n30 r33 b42 n43 u0 (false, (none, 0, 0), 0) w44)
else
(some ((.exit 0), (s7.1, s7.2.1, (s7.2.2.1.1, s7.2.2.1.2.1, s7.2.2.1.2.2), s7.2.2.2), w8))

noncomputable def g7_K228  : Exit → Env → World → Option (Value × World) :=
  retK Try.prog Try.f7.results.toList

noncomputable def g7_K229  : Exit → Env → World → Option (Value × World) :=
  seqK (ev Try.prog 209 7 g7_ann (cAt [1, 1, 1, 1, 1, 1] (bodyOf Try.f7)) [1, 1, 1, 1, 1, 1] g7_K228) g7_K228

noncomputable def g7_K230  : Exit → Env → World → Option (Value × World) :=
  blkK 0 g7_K229

/-- the loop, from a state on -/
noncomputable def g7_l6 (p2 : Option Addr) (u0 : Option Addr × Nat × Nat) (s : Bool × Int × (Option Addr × Nat × Nat) × Int) (w : World) : Option (Value × World) :=
  loopM Try.prog 209 7 g7_ann (cAt [1, 1, 1, 1, 1, 0, 1, 0, 0] (bodyOf Try.f7)) [0, 1, 0, 1, 1, 1, 1, 1] g7_K230 ((g7_l6_cs p2 u0) ++ sputs [(2, .b), (4, .i .i64), (5, .sl), (33, .i .i64)] s) w

/-- behind the loop, left by x0 -/
noncomputable def g7_l6_x0  (t231 : Bool × Int × (Option Addr × Nat × Nat) × Int) (w232 : World) : Option (Value × World) :=
some (.bool true, w232)

/-- behind the loop, left by ret -/
noncomputable def g7_l6_ret  (t233 : Bool × Int × (Option Addr × Nat × Nat) × Int) (w234 : World) : Option (Value × World) :=
some (.bool t233.1, w234)

noncomputable def g7 (u0 : Option Addr × Nat × Nat) (w0 : World) : Option (Value × World) :=
(callF Try.prog 19 #[] w0).bind fun r1 =>
(asP r1.1).bind fun p2 =>
(callF Try.prog 9 #[] r1.2).bind fun r3 =>
(asB r3.1).bind fun b4 =>
if (!b4) = true then
(some (.bool false, r3.2))
else
(if (p2.isNone) = true then
(some (.bool false, r3.2))
else
(g7_l6 p2 u0 (false, 0, (none, 0, 0), 0) r3.2))

theorem g7_eq (u0 : Option Addr × Nat × Nat) (w0 : World) : evFn Try.prog 7 g7_ann #[.slice u0.1 u0.2.1 u0.2.2] w0 = g7 u0 w0 := by kernel_rfl

theorem g7_call {u0 : Option Addr × Nat × Nat} {w0 : World} {r : Value × World} (h : g7 u0 w0 = some r) : callF Try.prog 7 #[.slice u0.1 u0.2.1 u0.2.2] w0 = some r :=
  callF_of_evFn (ann := g7_ann) Try.call7 (by kernel_rfl) ((g7_eq u0 w0).trans h)

theorem g7_l49_x4_of {s7 : Bool × Int × (Option Addr × Nat × Nat) × Int} {p2 : Option Addr} {w8 : World} {n30 : Int} {r33 : Value × World} {b42 : Bool} {n43 : Int} {s46 : Bool × (Option Addr × Nat × Nat) × Int} {u0 : Option Addr × Nat × Nat} {s t : Bool × Int} {w w' : World} (h : loopS (g7_l49_b s7 s46 p2 w8 n30 r33 b42 n43 u0) s w = some (.exit 4, t, w')) : g7_l49 s7 p2 w8 n30 r33 b42 n43 s46 u0 s w = g7_l49_x4 s46 n30 w8 t w' := by
  have h1 : g7_l49 s7 p2 w8 n30 r33 b42 n43 s46 u0 s w = loopM Try.prog 209 7 g7_ann (cAt [1, 1, 1, 1, 1, 0, 1, 0, 0, 1, 1, 0, 0, 1, 1, 1, 1, 1, 0, 1, 0, 0, 1, 0, 0, 1, 0, 1, 0, 0] (bodyOf Try.f7)) [0, 1, 0, 1, 0, 0, 1, 0, 0, 1, 0, 1, 1, 1, 1, 1, 0, 0, 1, 1, 0, 0, 1, 0, 1, 1, 1, 1, 1] (g7_K59 s7 p2 w8 n30 r33 b42 n43 u0) ((g7_l49_cs s7 p2 w8 n30 r33 b42 n43 s46 u0) ++ sputs [(15, .b), (57, .i .i64)] s) w := by kernel_rfl
  have h2 : loopM Try.prog 209 7 g7_ann (cAt [1, 1, 1, 1, 1, 0, 1, 0, 0, 1, 1, 0, 0, 1, 1, 1, 1, 1, 0, 1, 0, 0, 1, 0, 0, 1, 0, 1, 0, 0] (bodyOf Try.f7)) [0, 1, 0, 1, 0, 0, 1, 0, 0, 1, 0, 1, 1, 1, 1, 1, 0, 0, 1, 1, 0, 0, 1, 0, 1, 1, 1, 1, 1] (g7_K59 s7 p2 w8 n30 r33 b42 n43 u0) ((g7_l49_cs s7 p2 w8 n30 r33 b42 n43 s46 u0) ++ sputs [(15, .b), (57, .i .i64)] s) w = (g7_K59 s7 p2 w8 n30 r33 b42 n43 u0) (.exit 4) (puts 209 ((g7_l49_cs s7 p2 w8 n30 r33 b42 n43 s46 u0) ++ sputs [(15, .b), (57, .i .i64)] t)) w' :=
    loop_rule (P := Try.prog) (N := 209) (f := 7) (ann := g7_ann) (body := (cAt [1, 1, 1, 1, 1, 0, 1, 0, 0, 1, 1, 0, 0, 1, 1, 1, 1, 1, 0, 1, 0, 0, 1, 0, 0, 1, 0, 1, 0, 0] (bodyOf Try.f7))) (pt := [0, 1, 0, 1, 0, 0, 1, 0, 0, 1, 0, 1, 1, 1, 1, 1, 0, 0, 1, 1, 0, 0, 1, 0, 1, 1, 1, 1, 1]) (K := (g7_K59 s7 p2 w8 n30 r33 b42 n43 u0)) (g7_l49_cs s7 p2 w8 n30 r33 b42 n43 s46 u0) [(15, .b), (57, .i .i64)] (b := g7_l49_b s7 s46 p2 w8 n30 r33 b42 n43 u0) (fun s w => by kernel_rfl) (by kernel_rfl) (by kernel_rfl) (by kernel_rfl) h
  have h3 : (g7_K59 s7 p2 w8 n30 r33 b42 n43 u0) (.exit 4) (puts 209 ((g7_l49_cs s7 p2 w8 n30 r33 b42 n43 s46 u0) ++ sputs [(15, .b), (57, .i .i64)] t)) w' = g7_l49_x4 s46 n30 w8 t w' := by kernel_rfl
  exact h1.trans (h2.trans h3)

theorem g7_l133_x6_of {p2 : Option Addr} {s7 : Bool × Int × (Option Addr × Nat × Nat) × Int} {t97 : Bool × (Option Addr × Nat × Nat) × Int} {n30 : Int} {u0 : Option Addr × Nat × Nat} {s t : Bool × Int} {w w' : World} (h : loopS (g7_l133_b p2 n30 s7 t97 u0) s w = some (.exit 6, t, w')) : g7_l133 p2 s7 t97 n30 u0 s w = g7_l133_x6 s7 t97 t w' := by
  have h1 : g7_l133 p2 s7 t97 n30 u0 s w = loopM Try.prog 209 7 g7_ann (cAt [1, 1, 1, 1, 1, 0, 1, 0, 0, 1, 1, 0, 0, 1, 1, 1, 1, 1, 1, 1, 1, 1, 1, 1, 1, 0, 0] (bodyOf Try.f7)) [0, 1, 1, 1, 1, 1, 1, 1, 1, 1, 1, 1, 1, 0, 0, 1, 1, 0, 0, 1, 0, 1, 1, 1, 1, 1] (g7_K163 p2 u0) ((g7_l133_cs p2 s7 t97 n30 u0) ++ sputs [(2, .b), (18, .i .i64)] s) w := by kernel_rfl
  have h2 : loopM Try.prog 209 7 g7_ann (cAt [1, 1, 1, 1, 1, 0, 1, 0, 0, 1, 1, 0, 0, 1, 1, 1, 1, 1, 1, 1, 1, 1, 1, 1, 1, 0, 0] (bodyOf Try.f7)) [0, 1, 1, 1, 1, 1, 1, 1, 1, 1, 1, 1, 1, 0, 0, 1, 1, 0, 0, 1, 0, 1, 1, 1, 1, 1] (g7_K163 p2 u0) ((g7_l133_cs p2 s7 t97 n30 u0) ++ sputs [(2, .b), (18, .i .i64)] s) w = (g7_K163 p2 u0) (.exit 6) (puts 209 ((g7_l133_cs p2 s7 t97 n30 u0) ++ sputs [(2, .b), (18, .i .i64)] t)) w' :=
    loop_rule (P := Try.prog) (N := 209) (f := 7) (ann := g7_ann) (body := (cAt [1, 1, 1, 1, 1, 0, 1, 0, 0, 1, 1, 0, 0, 1, 1, 1, 1, 1, 1, 1, 1, 1, 1, 1, 1, 0, 0] (bodyOf Try.f7))) (pt := [0, 1, 1, 1, 1, 1, 1, 1, 1, 1, 1, 1, 1, 0, 0, 1, 1, 0, 0, 1, 0, 1, 1, 1, 1, 1]) (K := (g7_K163 p2 u0)) (g7_l133_cs p2 s7 t97 n30 u0) [(2, .b), (18, .i .i64)] (b := g7_l133_b p2 n30 s7 t97 u0) (fun s w => by kernel_rfl) (by kernel_rfl) (by kernel_rfl) (by kernel_rfl) h
  have h3 : (g7_K163 p2 u0) (.exit 6) (puts 209 ((g7_l133_cs p2 s7 t97 n30 u0) ++ sputs [(2, .b), (18, .i .i64)] t)) w' = g7_l133_x6 s7 t97 t w' := by kernel_rfl
  exact h1.trans (h2.trans h3)

theorem g7_l133_ret_of {p2 : Option Addr} {s7 : Bool × Int × (Option Addr × Nat × Nat) × Int} {t97 : Bool × (Option Addr × Nat × Nat) × Int} {n30 : Int} {u0 : Option Addr × Nat × Nat} {s t : Bool × Int} {w w' : World} (h : loopS (g7_l133_b p2 n30 s7 t97 u0) s w = some (.ret, t, w')) : g7_l133 p2 s7 t97 n30 u0 s w = g7_l133_ret s7 t97 t w' := by
  have h1 : g7_l133 p2 s7 t97 n30 u0 s w = loopM Try.prog 209 7 g7_ann (cAt [1, 1, 1, 1, 1, 0, 1, 0, 0, 1, 1, 0, 0, 1, 1, 1, 1, 1, 1, 1, 1, 1, 1, 1, 1, 0, 0] (bodyOf Try.f7)) [0, 1, 1, 1, 1, 1, 1, 1, 1, 1, 1, 1, 1, 0, 0, 1, 1, 0, 0, 1, 0, 1, 1, 1, 1, 1] (g7_K163 p2 u0) ((g7_l133_cs p2 s7 t97 n30 u0) ++ sputs [(2, .b), (18, .i .i64)] s) w := by kernel_rfl
  have h2 : loopM Try.prog 209 7 g7_ann (cAt [1, 1, 1, 1, 1, 0, 1, 0, 0, 1, 1, 0, 0, 1, 1, 1, 1, 1, 1, 1, 1, 1, 1, 1, 1, 0, 0] (bodyOf Try.f7)) [0, 1, 1, 1, 1, 1, 1, 1, 1, 1, 1, 1, 1, 0, 0, 1, 1, 0, 0, 1, 0, 1, 1, 1, 1, 1] (g7_K163 p2 u0) ((g7_l133_cs p2 s7 t97 n30 u0) ++ sputs [(2, .b), (18, .i .i64)] s) w = (g7_K163 p2 u0) (.ret) (puts 209 ((g7_l133_cs p2 s7 t97 n30 u0) ++ sputs [(2, .b), (18, .i .i64)] t)) w' :=
    loop_rule (P := Try.prog) (N := 209) (f := 7) (ann := g7_ann) (body := (cAt [1, 1, 1, 1, 1, 0, 1, 0, 0, 1, 1, 0, 0, 1, 1, 1, 1, 1, 1, 1, 1, 1, 1, 1, 1, 0, 0] (bodyOf Try.f7))) (pt := [0, 1, 1, 1, 1, 1, 1, 1, 1, 1, 1, 1, 1, 0, 0, 1, 1, 0, 0, 1, 0, 1, 1, 1, 1, 1]) (K := (g7_K163 p2 u0)) (g7_l133_cs p2 s7 t97 n30 u0) [(2, .b), (18, .i .i64)] (b := g7_l133_b p2 n30 s7 t97 u0) (fun s w => by kernel_rfl) (by kernel_rfl) (by kernel_rfl) (by kernel_rfl) h
  have h3 : (g7_K163 p2 u0) (.ret) (puts 209 ((g7_l133_cs p2 s7 t97 n30 u0) ++ sputs [(2, .b), (18, .i .i64)] t)) w' = g7_l133_ret s7 t97 t w' := by kernel_rfl
  exact h1.trans (h2.trans h3)

theorem g7_l193_x6_of {p2 : Option Addr} {s7 : Bool × Int × (Option Addr × Nat × Nat) × Int} {t97 : Bool × (Option Addr × Nat × Nat) × Int} {n30 : Int} {u0 : Option Addr × Nat × Nat} {s t : Bool × Int} {w w' : World} (h : loopS (g7_l193_b p2 n30 s7 t97 u0) s w = some (.exit 6, t, w')) : g7_l193 p2 s7 t97 n30 u0 s w = g7_l193_x6 s7 t97 t w' := by
  have h1 : g7_l193 p2 s7 t97 n30 u0 s w = loopM Try.prog 209 7 g7_ann (cAt [1, 1, 1, 1, 1, 0, 1, 0, 0, 1, 1, 0, 0, 1, 1, 1, 1, 1, 1, 1, 1, 1, 1, 1, 1, 0, 0] (bodyOf Try.f7)) [0, 1, 1, 1, 1, 1, 1, 1, 1, 1, 1, 1, 1, 0, 0, 1, 1, 0, 0, 1, 0, 1, 1, 1, 1, 1] (g7_K223 p2 u0) ((g7_l193_cs p2 s7 t97 n30 u0) ++ sputs [(2, .b), (18, .i .i64)] s) w := by kernel_rfl
  have h2 : loopM Try.prog 209 7 g7_ann (cAt [1, 1, 1, 1, 1, 0, 1, 0, 0, 1, 1, 0, 0, 1, 1, 1, 1, 1, 1, 1, 1, 1, 1, 1, 1, 0, 0] (bodyOf Try.f7)) [0, 1, 1, 1, 1, 1, 1, 1, 1, 1, 1, 1, 1, 0, 0, 1, 1, 0, 0, 1, 0, 1, 1, 1, 1, 1] (g7_K223 p2 u0) ((g7_l193_cs p2 s7 t97 n30 u0) ++ sputs [(2, .b), (18, .i .i64)] s) w = (g7_K223 p2 u0) (.exit 6) (puts 209 ((g7_l193_cs p2 s7 t97 n30 u0) ++ sputs [(2, .b), (18, .i .i64)] t)) w' :=
    loop_rule (P := Try.prog) (N := 209) (f := 7) (ann := g7_ann) (body := (cAt [1, 1, 1, 1, 1, 0, 1, 0, 0, 1, 1, 0, 0, 1, 1, 1, 1, 1, 1, 1, 1, 1, 1, 1, 1, 0, 0] (bodyOf Try.f7))) (pt := [0, 1, 1, 1, 1, 1, 1, 1, 1, 1, 1, 1, 1, 0, 0, 1, 1, 0, 0, 1, 0, 1, 1, 1, 1, 1]) (K := (g7_K223 p2 u0)) (g7_l193_cs p2 s7 t97 n30 u0) [(2, .b), (18, .i .i64)] (b := g7_l193_b p2 n30 s7 t97 u0) (fun s w => by kernel_rfl) (by kernel_rfl) (by kernel_rfl) (by kernel_rfl) h
  have h3 : (g7_K223 p2 u0) (.exit 6) (puts 209 ((g7_l193_cs p2 s7 t97 n30 u0) ++ sputs [(2, .b), (18, .i .i64)] t)) w' = g7_l193_x6 s7 t97 t w' := by kernel_rfl
  exact h1.trans (h2.trans h3)

theorem g7_l193_ret_of {p2 : Option Addr} {s7 : Bool × Int × (Option Addr × Nat × Nat) × Int} {t97 : Bool × (Option Addr × Nat × Nat) × Int} {n30 : Int} {u0 : Option Addr × Nat × Nat} {s t : Bool × Int} {w w' : World} (h : loopS (g7_l193_b p2 n30 s7 t97 u0) s w = some (.ret, t, w')) : g7_l193 p2 s7 t97 n30 u0 s w = g7_l193_ret s7 t97 t w' := by
  have h1 : g7_l193 p2 s7 t97 n30 u0 s w = loopM Try.prog 209 7 g7_ann (cAt [1, 1, 1, 1, 1, 0, 1, 0, 0, 1, 1, 0, 0, 1, 1, 1, 1, 1, 1, 1, 1, 1, 1, 1, 1, 0, 0] (bodyOf Try.f7)) [0, 1, 1, 1, 1, 1, 1, 1, 1, 1, 1, 1, 1, 0, 0, 1, 1, 0, 0, 1, 0, 1, 1, 1, 1, 1] (g7_K223 p2 u0) ((g7_l193_cs p2 s7 t97 n30 u0) ++ sputs [(2, .b), (18, .i .i64)] s) w := by kernel_rfl
  have h2 : loopM Try.prog 209 7 g7_ann (cAt [1, 1, 1, 1, 1, 0, 1, 0, 0, 1, 1, 0, 0, 1, 1, 1, 1, 1, 1, 1, 1, 1, 1, 1, 1, 0, 0] (bodyOf Try.f7)) [0, 1, 1, 1, 1, 1, 1, 1, 1, 1, 1, 1, 1, 0, 0, 1, 1, 0, 0, 1, 0, 1, 1, 1, 1, 1] (g7_K223 p2 u0) ((g7_l193_cs p2 s7 t97 n30 u0) ++ sputs [(2, .b), (18, .i .i64)] s) w = (g7_K223 p2 u0) (.ret) (puts 209 ((g7_l193_cs p2 s7 t97 n30 u0) ++ sputs [(2, .b), (18, .i .i64)] t)) w' :=
    loop_rule (P := Try.prog) (N := 209) (f := 7) (ann := g7_ann) (body := (cAt [1, 1, 1, 1, 1, 0, 1, 0, 0, 1, 1, 0, 0, 1, 1, 1, 1, 1, 1, 1, 1, 1, 1, 1, 1, 0, 0] (bodyOf Try.f7))) (pt := [0, 1, 1, 1, 1, 1, 1, 1, 1, 1, 1, 1, 1, 0, 0, 1, 1, 0, 0, 1, 0, 1, 1, 1, 1, 1]) (K := (g7_K223 p2 u0)) (g7_l193_cs p2 s7 t97 n30 u0) [(2, .b), (18, .i .i64)] (b := g7_l193_b p2 n30 s7 t97 u0) (fun s w => by kernel_rfl) (by kernel_rfl) (by kernel_rfl) (by kernel_rfl) h
  have h3 : (g7_K223 p2 u0) (.ret) (puts 209 ((g7_l193_cs p2 s7 t97 n30 u0) ++ sputs [(2, .b), (18, .i .i64)] t)) w' = g7_l193_ret s7 t97 t w' := by kernel_rfl
  exact h1.trans (h2.trans h3)

theorem g7_l45_x2_of {s7 : Bool × Int × (Option Addr × Nat × Nat) × Int} {p2 : Option Addr} {w8 : World} {n30 : Int} {r33 : Value × World} {b42 : Bool} {n43 : Int} {u0 : Option Addr × Nat × Nat} {s t : Bool × (Option Addr × Nat × Nat) × Int} {w w' : World} (h : loopS (g7_l45_b s7 p2 w8 n30 r33 b42 n43 u0) s w = some (.exit 2, t, w')) : g7_l45 s7 p2 w8 n30 r33 b42 n43 u0 s w = g7_l45_x2 w8 b42 s7 n43 r33 p2 n30 u0 t w' := by
  have h1 : g7_l45 s7 p2 w8 n30 r33 b42 n43 u0 s w = loopM Try.prog 209 7 g7_ann (cAt [1, 1, 1, 1, 1, 0, 1, 0, 0, 1, 1, 0, 0, 1, 1, 1, 1, 1, 0, 1, 0, 0] (bodyOf Try.f7)) [0, 1, 0, 1, 1, 1, 1, 1, 0, 0, 1, 1, 0, 0, 1, 0, 1, 1, 1, 1, 1] (g7_K96 p2 u0) ((g7_l45_cs s7 p2 w8 n30 r33 b42 n43 u0) ++ sputs [(12, .b), (13, .sl), (14, .i .i64)] s) w := by kernel_rfl
  have h2 : loopM Try.prog 209 7 g7_ann (cAt [1, 1, 1, 1, 1, 0, 1, 0, 0, 1, 1, 0, 0, 1, 1, 1, 1, 1, 0, 1, 0, 0] (bodyOf Try.f7)) [0, 1, 0, 1, 1, 1, 1, 1, 0, 0, 1, 1, 0, 0, 1, 0, 1, 1, 1, 1, 1] (g7_K96 p2 u0) ((g7_l45_cs s7 p2 w8 n30 r33 b42 n43 u0) ++ sputs [(12, .b), (13, .sl), (14, .i .i64)] s) w = (g7_K96 p2 u0) (.exit 2) (puts 209 ((g7_l45_cs s7 p2 w8 n30 r33 b42 n43 u0) ++ sputs [(12, .b), (13, .sl), (14, .i .i64)] t)) w' :=
    loop_rule (P := Try.prog) (N := 209) (f := 7) (ann := g7_ann) (body := (cAt [1, 1, 1, 1, 1, 0, 1, 0, 0, 1, 1, 0, 0, 1, 1, 1, 1, 1, 0, 1, 0, 0] (bodyOf Try.f7))) (pt := [0, 1, 0, 1, 1, 1, 1, 1, 0, 0, 1, 1, 0, 0, 1, 0, 1, 1, 1, 1, 1]) (K := (g7_K96 p2 u0)) (g7_l45_cs s7 p2 w8 n30 r33 b42 n43 u0) [(12, .b), (13, .sl), (14, .i .i64)] (b := g7_l45_b s7 p2 w8 n30 r33 b42 n43 u0) (fun s w => by kernel_rfl) (by kernel_rfl) (by kernel_rfl) (by kernel_rfl) h
  have h3 : (g7_K96 p2 u0) (.exit 2) (puts 209 ((g7_l45_cs s7 p2 w8 n30 r33 b42 n43 u0) ++ sputs [(12, .b), (13, .sl), (14, .i .i64)] t)) w' = g7_l45_x2 w8 b42 s7 n43 r33 p2 n30 u0 t w' := by kernel_rfl
  exact h1.trans (h2.trans h3)

theorem g7_l6_x0_of {p2 : Option Addr} {u0 : Option Addr × Nat × Nat} {s t : Bool × Int × (Option Addr × Nat × Nat) × Int} {w w' : World} (h : loopS (g7_l6_b u0 p2) s w = some (.exit 0, t, w')) : g7_l6 p2 u0 s w = g7_l6_x0 t w' := by
  have h1 : g7_l6 p2 u0 s w = loopM Try.prog 209 7 g7_ann (cAt [1, 1, 1, 1, 1, 0, 1, 0, 0] (bodyOf Try.f7)) [0, 1, 0, 1, 1, 1, 1, 1] g7_K230 ((g7_l6_cs p2 u0) ++ sputs [(2, .b), (4, .i .i64), (5, .sl), (33, .i .i64)] s) w := by kernel_rfl
  have h2 : loopM Try.prog 209 7 g7_ann (cAt [1, 1, 1, 1, 1, 0, 1, 0, 0] (bodyOf Try.f7)) [0, 1, 0, 1, 1, 1, 1, 1] g7_K230 ((g7_l6_cs p2 u0) ++ sputs [(2, .b), (4, .i .i64), (5, .sl), (33, .i .i64)] s) w = g7_K230 (.exit 0) (puts 209 ((g7_l6_cs p2 u0) ++ sputs [(2, .b), (4, .i .i64), (5, .sl), (33, .i .i64)] t)) w' :=
    loop_rule (P := Try.prog) (N := 209) (f := 7) (ann := g7_ann) (body := (cAt [1, 1, 1, 1, 1, 0, 1, 0, 0] (bodyOf Try.f7))) (pt := [0, 1, 0, 1, 1, 1, 1, 1]) (K := g7_K230) (g7_l6_cs p2 u0) [(2, .b), (4, .i .i64), (5, .sl), (33, .i .i64)] (b := g7_l6_b u0 p2) (fun s w => by kernel_rfl) (by kernel_rfl) (by kernel_rfl) (by kernel_rfl) h
  have h3 : g7_K230 (.exit 0) (puts 209 ((g7_l6_cs p2 u0) ++ sputs [(2, .b), (4, .i .i64), (5, .sl), (33, .i .i64)] t)) w' = g7_l6_x0 t w' := by kernel_rfl
  exact h1.trans (h2.trans h3)

theorem g7_l6_ret_of {p2 : Option Addr} {u0 : Option Addr × Nat × Nat} {s t : Bool × Int × (Option Addr × Nat × Nat) × Int} {w w' : World} (h : loopS (g7_l6_b u0 p2) s w = some (.ret, t, w')) : g7_l6 p2 u0 s w = g7_l6_ret t w' := by
  have h1 : g7_l6 p2 u0 s w = loopM Try.prog 209 7 g7_ann (cAt [1, 1, 1, 1, 1, 0, 1, 0, 0] (bodyOf Try.f7)) [0, 1, 0, 1, 1, 1, 1, 1] g7_K230 ((g7_l6_cs p2 u0) ++ sputs [(2, .b), (4, .i .i64), (5, .sl), (33, .i .i64)] s) w := by kernel_rfl
  have h2 : loopM Try.prog 209 7 g7_ann (cAt [1, 1, 1, 1, 1, 0, 1, 0, 0] (bodyOf Try.f7)) [0, 1, 0, 1, 1, 1, 1, 1] g7_K230 ((g7_l6_cs p2 u0) ++ sputs [(2, .b), (4, .i .i64), (5, .sl), (33, .i .i64)] s) w = g7_K230 (.ret) (puts 209 ((g7_l6_cs p2 u0) ++ sputs [(2, .b), (4, .i .i64), (5, .sl), (33, .i .i64)] t)) w' :=
    loop_rule (P := Try.prog) (N := 209) (f := 7) (ann := g7_ann) (body := (cAt [1, 1, 1, 1, 1, 0, 1, 0, 0] (bodyOf Try.f7))) (pt := [0, 1, 0, 1, 1, 1, 1, 1]) (K := g7_K230) (g7_l6_cs p2 u0) [(2, .b), (4, .i .i64), (5, .sl), (33, .i .i64)] (b := g7_l6_b u0 p2) (fun s w => by kernel_rfl) (by kernel_rfl) (by kernel_rfl) (by kernel_rfl) h
  have h3 : g7_K230 (.ret) (puts 209 ((g7_l6_cs p2 u0) ++ sputs [(2, .b), (4, .i .i64), (5, .sl), (33, .i .i64)] t)) w' = g7_l6_ret t w' := by kernel_rfl
  exact h1.trans (h2.trans h3)

end Go.Proofs.Ytcakijeoeankfaa
