/-
  WalL8: lemmas on what Go functions of this seat come to (for whatever arguments, as each says). No condition but those that stand in each lemma.
-/
import Derived.Test.YtnflklkjjjlpaaaWalF0
namespace Go.Proofs.Ytnflklkjjjlpaaa
open Go Go.Ev
set_option maxRecDepth 100000
set_option linter.unusedVariables false
/-! 8: penstock/penstocklaw06.WalPlays (script: []penstocklaw06.Op) -/
def g8_ann : List (List Nat × List Nat) := [([0, 1, 0, 1, 1, 1, 1, 1, 1], [3, 42, 43, 2, 4, 7, 8, 9, 10, 44])]

def g8_l12_cs (p2 : Option Addr) (u0 : Option Addr × Nat × Nat) : List (Nat × Value) := ([(3, .pointer p2), (42, .slice u0.1 u0.2.1 u0.2.2), (43, .int .i64 (u0.2.1 : Int))] : List (Nat × Value))

noncomputable def g8_j22 (p2 : Option Addr) (s13 : Bool × Option Addr × (Option Addr × Nat × Nat) × (Option Addr × Nat × Nat) × Int × Bool × Int) (x127 : Option Addr) (x128 : Option Addr × Nat × Nat) (x129 : Option Addr × Nat × Nat) (x130 : Int) (x131 : Bool) (w132 : World) : Option (Exit × (Bool × Option Addr × (Option Addr × Nat × Nat) × (Option Addr × Nat × Nat) × Int × Bool × Int) × World) :=
(callF Try.prog 28 #[.pointer p2] w132).bind fun r133 =>
(asB r133.1).bind fun b134 =>
if (!b134) = true then
((callF Try.prog 18 #[.pointer x127] r133.2).bind fun r135 =>
(asI .i64 r135.1).bind fun n136 =>
if ((n136 : Int) != (x128.2.1 : Int)) = true then
(some (.ret, (false, x127, (x128.1, x128.2.1, x128.2.2), (x129.1, x129.2.1, x129.2.2), x130, x131, s13.2.2.2.2.2.2), r135.2))
else
(some (.normal, (s13.1, x127, (x128.1, x128.2.1, x128.2.2), (x129.1, x129.2.1, x129.2.2), x130, x131, (IntKind.i64.wrap (s13.2.2.2.2.2.2 + 1))), r135.2)))
else
(some (.normal, (s13.1, x127, (x128.1, x128.2.1, x128.2.2), (x129.1, x129.2.1, x129.2.2), x130, x131, (IntKind.i64.wrap (s13.2.2.2.2.2.2 + 1))), r133.2))

/-- the round of a loop (penstock/penstocklaw06.WalPlays) -/
noncomputable def g8_l12_b (u0 : Option Addr × Nat × Nat) (p2 : Option Addr) (s13 : Bool × Option Addr × (Option Addr × Nat × Nat) × (Option Addr × Nat × Nat) × Int × Bool × Int) (w14 : World) : Option (Exit × (Bool × Option Addr × (Option Addr × Nat × Nat) × (Option Addr × Nat × Nat) × Int × Bool × Int) × World) :=
if (decide ((s13.2.2.2.2.2.2 : Int) < (u0.2.1 : Int))) = true then
((idxA u0.1 u0.2.1 4 s13.2.2.2.2.2.2).bind fun a15 =>
(ldN w14 a15 0 4).bind fun l16 =>
(asI .i64 (l16.getD 0 undef)).bind fun n17 =>
(asSl (l16.getD 1 undef)).bind fun q18 =>
(asSl (l16.getD 2 undef)).bind fun q19 =>
(asI .i64 (l16.getD 3 undef)).bind fun n20 =>
(stL (World.alloc w14 (.cells #[.int .i64 0, .slice none 0 0, .slice none 0 0, .int .i64 0] 55)) (⟨w14.heap.size, 0, none⟩) [.int .i64 n17, .slice q18.1 q18.2.1 q18.2.2, .slice q19.1 q19.2.1 q19.2.2, .int .i64 n20] 0).bind fun w21 =>
(World.cell? w21 (⟨w14.heap.size, 0, none⟩)).bind fun v23 =>
(asI .i64 v23).bind fun n24 =>
if ((n24 : Int) == 0) = true then
((World.cell? (World.alloc w21 (.cells #[] 5)) (Addr.add (⟨w14.heap.size, 0, none⟩) 1)).bind fun v25 =>
(asSl v25).bind fun q26 =>
(callB Try.prog .append #[31, 31] 31 #[false, false] #[.slice (some (⟨w21.heap.size, 0, none⟩)) 0 0, .slice q26.1 q26.2.1 q26.2.2] (World.alloc w21 (.cells #[] 5))).bind fun r27 =>
(asSl r27.1).bind fun q28 =>
(callF Try.prog 14 #[.pointer s13.2.1, .slice q28.1 q28.2.1 q28.2.2] r27.2).bind fun r29 =>
(asI .i64 r29.1).bind fun n30 =>
(World.cell? r29.2 (Addr.add (⟨w14.heap.size, 0, none⟩) 1)).bind fun v31 =>
(asSl v31).bind fun q32 =>
if (!(((n30 : Int) == 2) == (decide (((q32.2.1 : Int) : Int) > 4096)))) = true then
(some (.ret, (false, s13.2.1, (s13.2.2.1.1, s13.2.2.1.2.1, s13.2.2.1.2.2), (s13.2.2.2.1.1, s13.2.2.2.1.2.1, s13.2.2.2.1.2.2), s13.2.2.2.2.1, s13.2.2.2.2.2.1, s13.2.2.2.2.2.2), r29.2))
else
((World.cell? r29.2 (Addr.add (⟨w14.heap.size, 0, none⟩) 1)).bind fun v34 =>
(asSl v34).bind fun q35 =>
(callF Try.prog 16 #[.slice q28.1 q28.2.1 q28.2.2, .slice q35.1 q35.2.1 q35.2.2] r29.2).bind fun r36 =>
(asB r36.1).bind fun b37 =>
if (!b37) = true then
(some (.ret, (false, s13.2.1, (s13.2.2.1.1, s13.2.2.1.2.1, s13.2.2.1.2.2), (s13.2.2.2.1.1, s13.2.2.2.1.2.1, s13.2.2.2.1.2.2), s13.2.2.2.2.1, s13.2.2.2.2.2.1, s13.2.2.2.2.2.2), r36.2))
else
(if ((n30 : Int) != 0) = true then
(if ((n30 : Int) != 2) = true then
(if ((n30 : Int) != 9) = true then
(if ((n30 : Int) != 3) = true then
(some (.ret, (false, s13.2.1, (s13.2.2.1.1, s13.2.2.1.2.1, s13.2.2.1.2.2), (s13.2.2.2.1.1, s13.2.2.2.1.2.1, s13.2.2.2.1.2.2), s13.2.2.2.2.1, s13.2.2.2.2.2.1, s13.2.2.2.2.2.2), r36.2))
else
(if ((n30 : Int) == 9) = true then
((callF Try.prog 28 #[.pointer p2] r36.2).bind fun r38 =>
(asB r38.1).bind fun b39 =>
if (!b39) = true then
(some (.ret, (false, s13.2.1, (s13.2.2.1.1, s13.2.2.1.2.1, s13.2.2.1.2.2), (s13.2.2.2.1.1, s13.2.2.2.1.2.1, s13.2.2.2.1.2.2), s13.2.2.2.2.1, s13.2.2.2.2.2.1, s13.2.2.2.2.2.2), r38.2))
else
(if ((n30 : Int) == 0) = true then
((callB Try.prog .append #[22, 22] 22 #[false, false] #[.slice s13.2.2.1.1 s13.2.2.1.2.1 s13.2.2.1.2.2, .slice (some (⟨r38.2.heap.size, 0, none⟩)) 1 1] (World.alloc r38.2 (.cells #[.slice q28.1 q28.2.1 q28.2.2] 31))).bind fun r40 =>
(asSl r40.1).bind fun q41 =>
g8_j22 p2 s13 s13.2.1 (q41.1, q41.2.1, q41.2.2) (s13.2.2.2.1.1, s13.2.2.2.1.2.1, s13.2.2.2.1.2.2) s13.2.2.2.2.1 s13.2.2.2.2.2.1 r40.2)
else
(g8_j22 p2 s13 s13.2.1 (s13.2.2.1.1, s13.2.2.1.2.1, s13.2.2.1.2.2) (s13.2.2.2.1.1, s13.2.2.2.1.2.1, s13.2.2.2.1.2.2) s13.2.2.2.2.1 s13.2.2.2.2.2.1 r38.2)))
else
(if ((n30 : Int) == 0) = true then
((callB Try.prog .append #[22, 22] 22 #[false, false] #[.slice s13.2.2.1.1 s13.2.2.1.2.1 s13.2.2.1.2.2, .slice (some (⟨r36.2.heap.size, 0, none⟩)) 1 1] (World.alloc r36.2 (.cells #[.slice q28.1 q28.2.1 q28.2.2] 31))).bind fun r42 =>
(asSl r42.1).bind fun q43 =>
g8_j22 p2 s13 s13.2.1 (q43.1, q43.2.1, q43.2.2) (s13.2.2.2.1.1, s13.2.2.2.1.2.1, s13.2.2.2.1.2.2) s13.2.2.2.2.1 s13.2.2.2.2.2.1 r42.2)
else
(g8_j22 p2 s13 s13.2.1 (s13.2.2.1.1, s13.2.2.1.2.1, s13.2.2.1.2.2) (s13.2.2.2.1.1, s13.2.2.2.1.2.1, s13.2.2.2.1.2.2) s13.2.2.2.2.1 s13.2.2.2.2.2.1 r36.2))))
else
(if ((n30 : Int) == 9) = true then
((callF Try.prog 28 #[.pointer p2] r36.2).bind fun r44 =>
(asB r44.1).bind fun b45 =>
if (!b45) = true then
(some (.ret, (false, s13.2.1, (s13.2.2.1.1, s13.2.2.1.2.1, s13.2.2.1.2.2), (s13.2.2.2.1.1, s13.2.2.2.1.2.1, s13.2.2.2.1.2.2), s13.2.2.2.2.1, s13.2.2.2.2.2.1, s13.2.2.2.2.2.2), r44.2))
else
(if ((n30 : Int) == 0) = true then
((callB Try.prog .append #[22, 22] 22 #[false, false] #[.slice s13.2.2.1.1 s13.2.2.1.2.1 s13.2.2.1.2.2, .slice (some (⟨r44.2.heap.size, 0, none⟩)) 1 1] (World.alloc r44.2 (.cells #[.slice q28.1 q28.2.1 q28.2.2] 31))).bind fun r46 =>
(asSl r46.1).bind fun q47 =>
g8_j22 p2 s13 s13.2.1 (q47.1, q47.2.1, q47.2.2) (s13.2.2.2.1.1, s13.2.2.2.1.2.1, s13.2.2.2.1.2.2) s13.2.2.2.2.1 s13.2.2.2.2.2.1 r46.2)
else
(g8_j22 p2 s13 s13.2.1 (s13.2.2.1.1, s13.2.2.1.2.1, s13.2.2.1.2.2) (s13.2.2.2.1.1, s13.2.2.2.1.2.1, s13.2.2.2.1.2.2) s13.2.2.2.2.1 s13.2.2.2.2.2.1 r44.2)))
else
(if ((n30 : Int) == 0) = true then
((callB Try.prog .append #[22, 22] 22 #[false, false] #[.slice s13.2.2.1.1 s13.2.2.1.2.1 s13.2.2.1.2.2, .slice (some (⟨r36.2.heap.size, 0, none⟩)) 1 1] (World.alloc r36.2 (.cells #[.slice q28.1 q28.2.1 q28.2.2] 31))).bind fun r48 =>
(asSl r48.1).bind fun q49 =>
g8_j22 p2 s13 s13.2.1 (q49.1, q49.2.1, q49.2.2) (s13.2.2.2.1.1, s13.2.2.2.1.2.1, s13.2.2.2.1.2.2) s13.2.2.2.2.1 s13.2.2.2.2.2.1 r48.2)
else
(g8_j22 p2 s13 s13.2.1 (s13.2.2.1.1, s13.2.2.1.2.1, s13.2.2.1.2.2) (s13.2.2.2.1.1, s13.2.2.2.1.2.1, s13.2.2.2.1.2.2) s13.2.2.2.2.1 s13.2.2.2.2.2.1 r36.2))))
else
(if ((n30 : Int) == 9) = true then
((callF Try.prog 28 #[.pointer p2] r36.2).bind fun r50 =>
(asB r50.1).bind fun b51 =>
if (!b51) = true then
(some (.ret, (false, s13.2.1, (s13.2.2.1.1, s13.2.2.1.2.1, s13.2.2.1.2.2), (s13.2.2.2.1.1, s13.2.2.2.1.2.1, s13.2.2.2.1.2.2), s13.2.2.2.2.1, s13.2.2.2.2.2.1, s13.2.2.2.2.2.2), r50.2))
else
(if ((n30 : Int) == 0) = true then
((callB Try.prog .append #[22, 22] 22 #[false, false] #[.slice s13.2.2.1.1 s13.2.2.1.2.1 s13.2.2.1.2.2, .slice (some (⟨r50.2.heap.size, 0, none⟩)) 1 1] (World.alloc r50.2 (.cells #[.slice q28.1 q28.2.1 q28.2.2] 31))).bind fun r52 =>
(asSl r52.1).bind fun q53 =>
g8_j22 p2 s13 s13.2.1 (q53.1, q53.2.1, q53.2.2) (s13.2.2.2.1.1, s13.2.2.2.1.2.1, s13.2.2.2.1.2.2) s13.2.2.2.2.1 s13.2.2.2.2.2.1 r52.2)
else
(g8_j22 p2 s13 s13.2.1 (s13.2.2.1.1, s13.2.2.1.2.1, s13.2.2.1.2.2) (s13.2.2.2.1.1, s13.2.2.2.1.2.1, s13.2.2.2.1.2.2) s13.2.2.2.2.1 s13.2.2.2.2.2.1 r50.2)))
else
(if ((n30 : Int) == 0) = true then
((callB Try.prog .append #[22, 22] 22 #[false, false] #[.slice s13.2.2.1.1 s13.2.2.1.2.1 s13.2.2.1.2.2, .slice (some (⟨r36.2.heap.size, 0, none⟩)) 1 1] (World.alloc r36.2 (.cells #[.slice q28.1 q28.2.1 q28.2.2] 31))).bind fun r54 =>
(asSl r54.1).bind fun q55 =>
g8_j22 p2 s13 s13.2.1 (q55.1, q55.2.1, q55.2.2) (s13.2.2.2.1.1, s13.2.2.2.1.2.1, s13.2.2.2.1.2.2) s13.2.2.2.2.1 s13.2.2.2.2.2.1 r54.2)
else
(g8_j22 p2 s13 s13.2.1 (s13.2.2.1.1, s13.2.2.1.2.1, s13.2.2.1.2.2) (s13.2.2.2.1.1, s13.2.2.2.1.2.1, s13.2.2.2.1.2.2) s13.2.2.2.2.1 s13.2.2.2.2.2.1 r36.2))))
else
(if ((n30 : Int) == 9) = true then
((callF Try.prog 28 #[.pointer p2] r36.2).bind fun r56 =>
(asB r56.1).bind fun b57 =>
if (!b57) = true then
(some (.ret, (false, s13.2.1, (s13.2.2.1.1, s13.2.2.1.2.1, s13.2.2.1.2.2), (s13.2.2.2.1.1, s13.2.2.2.1.2.1, s13.2.2.2.1.2.2), s13.2.2.2.2.1, s13.2.2.2.2.2.1, s13.2.2.2.2.2.2), r56.2))
else
(if ((n30 : Int) == 0) = true then
((callB Try.prog .append #[22, 22] 22 #[false, false] #[.slice s13.2.2.1.1 s13.2.2.1.2.1 s13.2.2.1.2.2, .slice (some (⟨r56.2.heap.size, 0, none⟩)) 1 1] (World.alloc r56.2 (.cells #[.slice q28.1 q28.2.1 q28.2.2] 31))).bind fun r58 =>
(asSl r58.1).bind fun q59 =>
g8_j22 p2 s13 s13.2.1 (q59.1, q59.2.1, q59.2.2) (s13.2.2.2.1.1, s13.2.2.2.1.2.1, s13.2.2.2.1.2.2) s13.2.2.2.2.1 s13.2.2.2.2.2.1 r58.2)
else
(g8_j22 p2 s13 s13.2.1 (s13.2.2.1.1, s13.2.2.1.2.1, s13.2.2.1.2.2) (s13.2.2.2.1.1, s13.2.2.2.1.2.1, s13.2.2.2.1.2.2) s13.2.2.2.2.1 s13.2.2.2.2.2.1 r56.2)))
else
(if ((n30 : Int) == 0) = true then
((callB Try.prog .append #[22, 22] 22 #[false, false] #[.slice s13.2.2.1.1 s13.2.2.1.2.1 s13.2.2.1.2.2, .slice (some (⟨r36.2.heap.size, 0, none⟩)) 1 1] (World.alloc r36.2 (.cells #[.slice q28.1 q28.2.1 q28.2.2] 31))).bind fun r60 =>
(asSl r60.1).bind fun q61 =>
g8_j22 p2 s13 s13.2.1 (q61.1, q61.2.1, q61.2.2) (s13.2.2.2.1.1, s13.2.2.2.1.2.1, s13.2.2.2.1.2.2) s13.2.2.2.2.1 s13.2.2.2.2.2.1 r60.2)
else
(g8_j22 p2 s13 s13.2.1 (s13.2.2.1.1, s13.2.2.1.2.1, s13.2.2.1.2.2) (s13.2.2.2.1.1, s13.2.2.2.1.2.1, s13.2.2.2.1.2.2) s13.2.2.2.2.1 s13.2.2.2.2.2.1 r36.2))))))
else
(if ((n24 : Int) == 1) = true then
((callF Try.prog 23 #[.pointer s13.2.1] w21).bind fun r62 =>
(asI .i64 r62.1).bind fun n63 =>
if ((n63 : Int) == 0) = true then
(g8_j22 p2 s13 s13.2.1 (s13.2.2.1.1, s13.2.2.1.2.1, s13.2.2.1.2.2) (s13.2.2.2.1.1, s13.2.2.2.1.2.1, s13.2.2.2.1.2.2) (s13.2.2.1.2.1 : Int) s13.2.2.2.2.2.1 r62.2)
else
((callF Try.prog 28 #[.pointer p2] r62.2).bind fun r65 =>
(asB r65.1).bind fun b66 =>
if (!b66) = true then
(some (.ret, (false, s13.2.1, (s13.2.2.1.1, s13.2.2.1.2.1, s13.2.2.1.2.2), (s13.2.2.2.1.1, s13.2.2.2.1.2.1, s13.2.2.2.1.2.2), s13.2.2.2.2.1, s13.2.2.2.2.2.1, s13.2.2.2.2.2.2), r65.2))
else
(g8_j22 p2 s13 s13.2.1 (s13.2.2.1.1, s13.2.2.1.2.1, s13.2.2.1.2.2) (s13.2.2.2.1.1, s13.2.2.2.1.2.1, s13.2.2.2.1.2.2) s13.2.2.2.2.1 s13.2.2.2.2.2.1 r65.2)))
else
(if ((n24 : Int) == 2) = true then
((callF Try.prog 28 #[.pointer p2] w21).bind fun r67 =>
(asB r67.1).bind fun b68 =>
(World.cell? r67.2 (Addr.add (⟨w14.heap.size, 0, none⟩) 2)).bind fun v69 =>
(asSl v69).bind fun q70 =>
(callF Try.prog 25 #[.slice q70.1 q70.2.1 q70.2.2] r67.2).bind fun r71 =>
(asSl r71.1).bind fun q72 =>
(callF Try.prog 24 #[.pointer s13.2.1, .slice q72.1 q72.2.1 q72.2.2] r71.2).bind fun r73 =>
(asI .i64 r73.1).bind fun n74 =>
if ((n74 : Int) == 0) = true then
((World.cell? (World.drew r73.2) (Addr.add (⟨w14.heap.size, 0, none⟩) 2)).bind fun v75 =>
(asSl v75).bind fun q76 =>
if (ahd (Region.schedule true (opsOf (cAt [1, 1, 1, 1, 1, 1, 0, 1, 0, 0, 1, 1, 0, 0, 1, 0, 1, 0, 1, 1, 1, 1, 1, 0, 1, 1, 1, 0] (bodyOf Try.f8))) (World.tape r73.2 (World.drawn r73.2) (.order 8 28))) 2 4 && true) = true then
((callF Try.prog 25 #[.slice q76.1 q76.2.1 q76.2.2] (World.drew r73.2)).bind fun r77 =>
(asSl r77.1).bind fun q78 =>
(World.cell? r77.2 (Addr.add (⟨w14.heap.size, 0, none⟩) 2)).bind fun v79 =>
(asSl v79).bind fun q80 =>
g8_j22 p2 s13 s13.2.1 (q78.1, q78.2.1, q78.2.2) (s13.2.2.2.1.1, s13.2.2.2.1.2.1, s13.2.2.2.1.2.2) (q80.2.1 : Int) s13.2.2.2.2.2.1 r77.2)
else
((World.cell? (World.drew r73.2) (Addr.add (⟨w14.heap.size, 0, none⟩) 2)).bind fun v82 =>
(asSl v82).bind fun q83 =>
(callF Try.prog 25 #[.slice q76.1 q76.2.1 q76.2.2] (World.drew r73.2)).bind fun r85 =>
(asSl r85.1).bind fun q86 =>
g8_j22 p2 s13 s13.2.1 (q86.1, q86.2.1, q86.2.2) (s13.2.2.2.1.1, s13.2.2.2.1.2.1, s13.2.2.2.1.2.2) (q83.2.1 : Int) s13.2.2.2.2.2.1 r85.2))
else
(if ((n74 : Int) == 9) = true then
(if (!b68) = true then
((World.cell? r73.2 (Addr.add (⟨w14.heap.size, 0, none⟩) 2)).bind fun v87 =>
(asSl v87).bind fun q88 =>
(callF Try.prog 25 #[.slice q88.1 q88.2.1 q88.2.2] r73.2).bind fun r89 =>
(asSl r89.1).bind fun q90 =>
g8_j22 p2 s13 s13.2.1 (s13.2.2.1.1, s13.2.2.1.2.1, s13.2.2.1.2.2) (q90.1, q90.2.1, q90.2.2) s13.2.2.2.2.1 true r89.2)
else
((World.cell? r73.2 (Addr.add (⟨w14.heap.size, 0, none⟩) 2)).bind fun v91 =>
(asSl v91).bind fun q92 =>
(callF Try.prog 12 #[.slice q92.1 q92.2.1 q92.2.2] r73.2).bind fun r93 =>
(asB r93.1).bind fun b94 =>
if (!(((n74 : Int) == 2) == b94)) = true then
((callF Try.prog 28 #[.pointer p2] r93.2).bind fun r95 =>
(asB r95.1).bind fun b96 =>
if (!b96) = true then
(some (.ret, (false, s13.2.1, (s13.2.2.1.1, s13.2.2.1.2.1, s13.2.2.1.2.2), (s13.2.2.2.1.1, s13.2.2.2.1.2.1, s13.2.2.2.1.2.2), s13.2.2.2.2.1, s13.2.2.2.2.2.1, s13.2.2.2.2.2.2), r95.2))
else
(g8_j22 p2 s13 s13.2.1 (s13.2.2.1.1, s13.2.2.1.2.1, s13.2.2.1.2.2) (s13.2.2.2.1.1, s13.2.2.2.1.2.1, s13.2.2.2.1.2.2) s13.2.2.2.2.1 s13.2.2.2.2.2.1 r95.2))
else
(g8_j22 p2 s13 s13.2.1 (s13.2.2.1.1, s13.2.2.1.2.1, s13.2.2.1.2.2) (s13.2.2.2.1.1, s13.2.2.2.1.2.1, s13.2.2.2.1.2.2) s13.2.2.2.2.1 s13.2.2.2.2.2.1 r93.2)))
else
((World.cell? r73.2 (Addr.add (⟨w14.heap.size, 0, none⟩) 2)).bind fun v97 =>
(asSl v97).bind fun q98 =>
(callF Try.prog 12 #[.slice q98.1 q98.2.1 q98.2.2] r73.2).bind fun r99 =>
(asB r99.1).bind fun b100 =>
if (!(((n74 : Int) == 2) == b100)) = true then
((callF Try.prog 28 #[.pointer p2] r99.2).bind fun r101 =>
(asB r101.1).bind fun b102 =>
if (!b102) = true then
(some (.ret, (false, s13.2.1, (s13.2.2.1.1, s13.2.2.1.2.1, s13.2.2.1.2.2), (s13.2.2.2.1.1, s13.2.2.2.1.2.1, s13.2.2.2.1.2.2), s13.2.2.2.2.1, s13.2.2.2.2.2.1, s13.2.2.2.2.2.2), r101.2))
else
(g8_j22 p2 s13 s13.2.1 (s13.2.2.1.1, s13.2.2.1.2.1, s13.2.2.1.2.2) (s13.2.2.2.1.1, s13.2.2.2.1.2.1, s13.2.2.2.1.2.2) s13.2.2.2.2.1 s13.2.2.2.2.2.1 r101.2))
else
(g8_j22 p2 s13 s13.2.1 (s13.2.2.1.1, s13.2.2.1.2.1, s13.2.2.1.2.2) (s13.2.2.2.1.1, s13.2.2.2.1.2.1, s13.2.2.2.1.2.2) s13.2.2.2.2.1 s13.2.2.2.2.2.1 r99.2))))
else
(if ((n24 : Int) == 3) = true then
((World.cell? w21 (Addr.add (⟨w14.heap.size, 0, none⟩) 3)).bind fun v103 =>
(asI .i64 v103).bind fun n104 =>
(callF Try.prog 27 #[.pointer p2, .int .i64 n104] w21).bind fun r105 =>
(asTup 0 r105.1).bind fun _ =>
(callF Try.prog 10 #[.pointer p2, .string (⟨#[119]⟩ : ByteArray)] r105.2).bind fun r106 =>
(asTup 3 r106.1).bind fun l107 =>
(asP (l107.getD 0 undef)).bind fun p108 =>
(asSl (l107.getD 1 undef)).bind fun q109 =>
(asI .i64 (l107.getD 2 undef)).bind fun n110 =>
if (p108.isNone) = true then
(some (.ret, (false, s13.2.1, (s13.2.2.1.1, s13.2.2.1.2.1, s13.2.2.1.2.2), (s13.2.2.2.1.1, s13.2.2.2.1.2.1, s13.2.2.2.1.2.2), s13.2.2.2.2.1, s13.2.2.2.2.2.1, s13.2.2.2.2.2.2), r106.2))
else
(if ((n110 : Int) != 0) = true then
(some (.ret, (false, s13.2.1, (s13.2.2.1.1, s13.2.2.1.2.1, s13.2.2.1.2.2), (s13.2.2.2.1.1, s13.2.2.2.1.2.1, s13.2.2.2.1.2.2), s13.2.2.2.2.1, s13.2.2.2.2.2.1, s13.2.2.2.2.2.2), r106.2))
else
((callF Try.prog 18 #[.pointer p108] r106.2).bind fun r111 =>
(asI .i64 r111.1).bind fun n112 =>
if ((n112 : Int) != (q109.2.1 : Int)) = true then
(some (.ret, (false, s13.2.1, (s13.2.2.1.1, s13.2.2.1.2.1, s13.2.2.1.2.2), (s13.2.2.2.1.1, s13.2.2.2.1.2.1, s13.2.2.2.1.2.2), s13.2.2.2.2.1, s13.2.2.2.2.2.1, s13.2.2.2.2.2.2), r111.2))
else
((callF Try.prog 29 #[.slice q109.1 q109.2.1 q109.2.2, .slice s13.2.2.1.1 s13.2.2.1.2.1 s13.2.2.1.2.2, .int .i64 s13.2.2.2.2.1] r111.2).bind fun r114 =>
(asB r114.1).bind fun b115 =>
if (!b115) = true then
(if s13.2.2.2.2.2.1 = true then
((callF Try.prog 17 #[.slice q109.1 q109.2.1 q109.2.2, .slice s13.2.2.2.1.1 s13.2.2.2.1.2.1 s13.2.2.2.1.2.2] r114.2).bind fun r116 =>
(asB r116.1).bind fun b117 =>
if (!b117) = true then
(some (.ret, (false, s13.2.1, (s13.2.2.1.1, s13.2.2.1.2.1, s13.2.2.1.2.2), (s13.2.2.2.1.1, s13.2.2.2.1.2.1, s13.2.2.2.1.2.2), s13.2.2.2.2.1, s13.2.2.2.2.2.1, s13.2.2.2.2.2.2), r116.2))
else
((callF Try.prog 25 #[.slice q109.1 q109.2.1 q109.2.2] r116.2).bind fun r118 =>
(asSl r118.1).bind fun q119 =>
g8_j22 p2 s13 p108 (q119.1, q119.2.1, q119.2.2) (s13.2.2.2.1.1, s13.2.2.2.1.2.1, s13.2.2.2.1.2.2) (q109.2.1 : Int) false r118.2))
else
(some (.ret, (false, s13.2.1, (s13.2.2.1.1, s13.2.2.1.2.1, s13.2.2.1.2.2), (s13.2.2.2.1.1, s13.2.2.2.1.2.1, s13.2.2.2.1.2.2), s13.2.2.2.2.1, s13.2.2.2.2.2.1, s13.2.2.2.2.2.2), r114.2)))
else
((callF Try.prog 25 #[.slice q109.1 q109.2.1 q109.2.2] r114.2).bind fun r121 =>
(asSl r121.1).bind fun q122 =>
g8_j22 p2 s13 p108 (q122.1, q122.2.1, q122.2.2) (s13.2.2.2.1.1, s13.2.2.2.1.2.1, s13.2.2.2.1.2.2) (q109.2.1 : Int) false r121.2)))))
else
((World.cell? w21 (Addr.add (⟨w14.heap.size, 0, none⟩) 3)).bind fun v124 =>
(asI .i64 v124).bind fun n125 =>
(callF Try.prog 26 #[.pointer p2, .int .i64 n125] w21).bind fun r126 =>
(asTup 0 r126.1).bind fun _ =>
g8_j22 p2 s13 s13.2.1 (s13.2.2.1.1, s13.2.2.1.2.1, s13.2.2.1.2.2) (s13.2.2.2.1.1, s13.2.2.2.1.2.1, s13.2.2.2.1.2.2) s13.2.2.2.2.1 s13.2.2.2.2.2.1 r126.2)))))
else
(some ((.exit 0), (s13.1, s13.2.1, (s13.2.2.1.1, s13.2.2.1.2.1, s13.2.2.1.2.2), (s13.2.2.2.1.1, s13.2.2.2.1.2.1, s13.2.2.2.1.2.2), s13.2.2.2.2.1, s13.2.2.2.2.2.1, s13.2.2.2.2.2.2), w14))

noncomputable def g8_K138  : Exit → Env → World → Option (Value × World) :=
  retK Try.prog Try.f8.results.toList

noncomputable def g8_K139  : Exit → Env → World → Option (Value × World) :=
  seqK (ev Try.prog 212 8 g8_ann (cAt [1, 1, 1, 1, 1, 1, 1] (bodyOf Try.f8)) [1, 1, 1, 1, 1, 1, 1] g8_K138) g8_K138

noncomputable def g8_K140  : Exit → Env → World → Option (Value × World) :=
  blkK 0 g8_K139

/-- the loop, from a state on -/
noncomputable def g8_l12 (p2 : Option Addr) (u0 : Option Addr × Nat × Nat) (s : Bool × Option Addr × (Option Addr × Nat × Nat) × (Option Addr × Nat × Nat) × Int × Bool × Int) (w : World) : Option (Value × World) :=
  loopM Try.prog 212 8 g8_ann (cAt [1, 1, 1, 1, 1, 1, 0, 1, 0, 0] (bodyOf Try.f8)) [0, 1, 0, 1, 1, 1, 1, 1, 1] g8_K140 ((g8_l12_cs p2 u0) ++ sputs [(2, .b), (4, .p), (7, .sl), (8, .sl), (9, .i .i64), (10, .b), (44, .i .i64)] s) w

/-- behind the loop, left by x0 -/
noncomputable def g8_l12_x0  (t141 : Bool × Option Addr × (Option Addr × Nat × Nat) × (Option Addr × Nat × Nat) × Int × Bool × Int) (w142 : World) : Option (Value × World) :=
some (.bool true, w142)

/-- behind the loop, left by ret -/
noncomputable def g8_l12_ret  (t143 : Bool × Option Addr × (Option Addr × Nat × Nat) × (Option Addr × Nat × Nat) × Int × Bool × Int) (w144 : World) : Option (Value × World) :=
some (.bool t143.1, w144)

noncomputable def g8 (u0 : Option Addr × Nat × Nat) (w0 : World) : Option (Value × World) :=
(callF Try.prog 9 #[] w0).bind fun r1 =>
(asP r1.1).bind fun p2 =>
(callF Try.prog 10 #[.pointer p2, .string (⟨#[119]⟩ : ByteArray)] r1.2).bind fun r3 =>
(asTup 3 r3.1).bind fun l4 =>
(asP (l4.getD 0 undef)).bind fun p5 =>
(asSl (l4.getD 1 undef)).bind fun q6 =>
(asI .i64 (l4.getD 2 undef)).bind fun n7 =>
(callF Try.prog 11 #[] r3.2).bind fun r8 =>
(asB r8.1).bind fun b9 =>
if (!b9) = true then
(some (.bool false, r8.2))
else
(if (p5.isNone) = true then
(some (.bool false, r8.2))
else
(if ((n7 : Int) != 0) = true then
(some (.bool false, r8.2))
else
(if (((q6.2.1 : Int) : Int) != 0) = true then
(some (.bool false, r8.2))
else
(g8_l12 p2 u0 (false, p5, (none, 0, 0), (none, 0, 0), 0, false, 0) r8.2))))

theorem g8_eq (u0 : Option Addr × Nat × Nat) (w0 : World) : evFn Try.prog 8 g8_ann #[.slice u0.1 u0.2.1 u0.2.2] w0 = g8 u0 w0 := by kernel_rfl

theorem g8_call {u0 : Option Addr × Nat × Nat} {w0 : World} {r : Value × World} (h : g8 u0 w0 = some r) : callF Try.prog 8 #[.slice u0.1 u0.2.1 u0.2.2] w0 = some r :=
  callF_of_evFn (ann := g8_ann) Try.call8 (by kernel_rfl) ((g8_eq u0 w0).trans h)

theorem g8_l12_x0_of {p2 : Option Addr} {u0 : Option Addr × Nat × Nat} {s t : Bool × Option Addr × (Option Addr × Nat × Nat) × (Option Addr × Nat × Nat) × Int × Bool × Int} {w w' : World} (h : loopS (g8_l12_b u0 p2) s w = some (.exit 0, t, w')) : g8_l12 p2 u0 s w = g8_l12_x0 t w' := by
  have h1 : g8_l12 p2 u0 s w = loopM Try.prog 212 8 g8_ann (cAt [1, 1, 1, 1, 1, 1, 0, 1, 0, 0] (bodyOf Try.f8)) [0, 1, 0, 1, 1, 1, 1, 1, 1] g8_K140 ((g8_l12_cs p2 u0) ++ sputs [(2, .b), (4, .p), (7, .sl), (8, .sl), (9, .i .i64), (10, .b), (44, .i .i64)] s) w := by kernel_rfl
  have h2 : loopM Try.prog 212 8 g8_ann (cAt [1, 1, 1, 1, 1, 1, 0, 1, 0, 0] (bodyOf Try.f8)) [0, 1, 0, 1, 1, 1, 1, 1, 1] g8_K140 ((g8_l12_cs p2 u0) ++ sputs [(2, .b), (4, .p), (7, .sl), (8, .sl), (9, .i .i64), (10, .b), (44, .i .i64)] s) w = g8_K140 (.exit 0) (puts 212 ((g8_l12_cs p2 u0) ++ sputs [(2, .b), (4, .p), (7, .sl), (8, .sl), (9, .i .i64), (10, .b), (44, .i .i64)] t)) w' :=
    loop_rule (P := Try.prog) (N := 212) (f := 8) (ann := g8_ann) (body := (cAt [1, 1, 1, 1, 1, 1, 0, 1, 0, 0] (bodyOf Try.f8))) (pt := [0, 1, 0, 1, 1, 1, 1, 1, 1]) (K := g8_K140) (g8_l12_cs p2 u0) [(2, .b), (4, .p), (7, .sl), (8, .sl), (9, .i .i64), (10, .b), (44, .i .i64)] (b := g8_l12_b u0 p2) (fun s w => by kernel_rfl) (by kernel_rfl) (by kernel_rfl) (by kernel_rfl) h
  have h3 : g8_K140 (.exit 0) (puts 212 ((g8_l12_cs p2 u0) ++ sputs [(2, .b), (4, .p), (7, .sl), (8, .sl), (9, .i .i64), (10, .b), (44, .i .i64)] t)) w' = g8_l12_x0 t w' := by kernel_rfl
  exact h1.trans (h2.trans h3)

theorem g8_l12_ret_of {p2 : Option Addr} {u0 : Option Addr × Nat × Nat} {s t : Bool × Option Addr × (Option Addr × Nat × Nat) × (Option Addr × Nat × Nat) × Int × Bool × Int} {w w' : World} (h : loopS (g8_l12_b u0 p2) s w = some (.ret, t, w')) : g8_l12 p2 u0 s w = g8_l12_ret t w' := by
  have h1 : g8_l12 p2 u0 s w = loopM Try.prog 212 8 g8_ann (cAt [1, 1, 1, 1, 1, 1, 0, 1, 0, 0] (bodyOf Try.f8)) [0, 1, 0, 1, 1, 1, 1, 1, 1] g8_K140 ((g8_l12_cs p2 u0) ++ sputs [(2, .b), (4, .p), (7, .sl), (8, .sl), (9, .i .i64), (10, .b), (44, .i .i64)] s) w := by kernel_rfl
  have h2 : loopM Try.prog 212 8 g8_ann (cAt [1, 1, 1, 1, 1, 1, 0, 1, 0, 0] (bodyOf Try.f8)) [0, 1, 0, 1, 1, 1, 1, 1, 1] g8_K140 ((g8_l12_cs p2 u0) ++ sputs [(2, .b), (4, .p), (7, .sl), (8, .sl), (9, .i .i64), (10, .b), (44, .i .i64)] s) w = g8_K140 (.ret) (puts 212 ((g8_l12_cs p2 u0) ++ sputs [(2, .b), (4, .p), (7, .sl), (8, .sl), (9, .i .i64), (10, .b), (44, .i .i64)] t)) w' :=
    loop_rule (P := Try.prog) (N := 212) (f := 8) (ann := g8_ann) (body := (cAt [1, 1, 1, 1, 1, 1, 0, 1, 0, 0] (bodyOf Try.f8))) (pt := [0, 1, 0, 1, 1, 1, 1, 1, 1]) (K := g8_K140) (g8_l12_cs p2 u0) [(2, .b), (4, .p), (7, .sl), (8, .sl), (9, .i .i64), (10, .b), (44, .i .i64)] (b := g8_l12_b u0 p2) (fun s w => by kernel_rfl) (by kernel_rfl) (by kernel_rfl) (by kernel_rfl) h
  have h3 : g8_K140 (.ret) (puts 212 ((g8_l12_cs p2 u0) ++ sputs [(2, .b), (4, .p), (7, .sl), (8, .sl), (9, .i .i64), (10, .b), (44, .i .i64)] t)) w' = g8_l12_ret t w' := by kernel_rfl
  exact h1.trans (h2.trans h3)

end Go.Proofs.Ytnflklkjjjlpaaa
