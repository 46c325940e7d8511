/-
  GroupL5: lemmas on what Go functions of this seat come to (for whatever arguments, as each says). No condition but those that stand in each lemma.
-/
import Derived.Test.YtcakijeoeankfaaGroupF2
import Derived.Test.YtcakijeoeankfaaGroupV
namespace Go.Proofs.Ytcakijeoeankfaa
open Go Go.Ev
set_option maxRecDepth 100000
set_option linter.unusedVariables false
/-! 5: penstock/penstocklaw16.GroupWaits (l: []uint16, commit: bool, part: uint8) -/
def g5_ann : List (List Nat × List Nat) := [([0, 1, 0, 1, 1, 1, 1], [1, 7, 8, 28, 29, 6, 9, 30])]

def g5_l6_cs (u1 : Bool) (p2 : Option Addr) (u2 : Int) (u0 : Option Addr × Nat × Nat) : List (Nat × Value) := ([(1, .bool u1), (7, .pointer p2), (8, .int .i64 (IntKind.i64.wrap (Int.tmod u2 4))), (28, .slice u0.1 u0.2.1 u0.2.2), (29, .int .i64 (u0.2.1 : Int))] : List (Nat × Value))

/-- the round of a loop (penstock/penstocklaw16.GroupWaits) -/
noncomputable def g5_l6_b (u0 : Option Addr × Nat × Nat) (u2 : Int) (p2 : Option Addr) (u1 : Bool) (s7 : Bool × Int × Int) (w8 : World) : Option (Exit × (Bool × Int × Int) × World) :=
if (decide ((s7.2.2 : Int) < (u0.2.1 : Int))) = true then
((idxA u0.1 u0.2.1 1 s7.2.2).bind fun a9 =>
(World.cell? w8 a9).bind fun v10 =>
(asI .u16 v10).bind fun n11 =>
(stL (World.alloc w8 (.cells #[.int .i64 0, .int .i64 0, .int .i64 0, .slice none 0 0, .int .i64 0, .int .i64 0] 27)) (⟨w8.heap.size, 0, none⟩) [.int .i64 2, .int .i64 1, .int .i64 0, .slice none 0 0, .int .i64 (IntKind.i64.wrap (Int.tmod u2 4)), .int .i64 (IntKind.i64.wrap n11)] 0).bind fun w12 =>
(ldN w12 (⟨w8.heap.size, 0, none⟩) 0 6).bind fun l13 =>
(asI .i64 (l13.getD 0 undef)).bind fun n14 =>
(asI .i64 (l13.getD 1 undef)).bind fun n15 =>
(asI .i64 (l13.getD 2 undef)).bind fun n16 =>
(asSl (l13.getD 3 undef)).bind fun q17 =>
(asI .i64 (l13.getD 4 undef)).bind fun n18 =>
(asI .i64 (l13.getD 5 undef)).bind fun n19 =>
(callF Try.prog 21 #[.int .u64 (IntKind.u64.wrap (IntKind.i64.wrap (1 + (Int.tmod s7.2.2 2)))), .slice (some (⟨w12.heap.size, 0, none⟩)) 1 1] (World.alloc w12 (.cells #[.int .i64 n14, .int .i64 n15, .int .i64 n16, .slice q17.1 q17.2.1 q17.2.2, .int .i64 n18, .int .i64 n19] 27))).bind fun r20 =>
(Ev.asAgg 9 r20.1).bind fun l21 =>
(asI .i64 (l21.getD 0 undef)).bind fun n22 =>
(asI .i64 (l21.getD 1 undef)).bind fun n23 =>
(asI .u64 (l21.getD 2 undef)).bind fun n24 =>
(asI .i64 (l21.getD 3 undef)).bind fun n25 =>
(asI .i64 (l21.getD 4 undef)).bind fun n26 =>
(asB (l21.getD 5 undef)).bind fun b27 =>
(asB (l21.getD 6 undef)).bind fun b28 =>
(asB (l21.getD 7 undef)).bind fun b29 =>
(asSl (l21.getD 8 undef)).bind fun q30 =>
(callF Try.prog 20 #[.pointer p2, .agg #[.int .i64 n22, .int .i64 n23, .int .u64 n24, .int .i64 n25, .int .i64 n26, .bool b27, .bool b28, .bool b29, .slice q30.1 q30.2.1 q30.2.2]] r20.2).bind fun r31 =>
(asTup 0 r31.1).bind fun _ =>
(callF Try.prog 22 #[.pointer p2, .int .i64 1, .int .i64 (IntKind.i64.wrap (Int.tmod u2 4))] r31.2).bind fun r32 =>
(asTup 2 r32.1).bind fun l33 =>
(asI .i64 (l33.getD 0 undef)).bind fun n34 =>
(asI .i64 (l33.getD 1 undef)).bind fun n35 =>
(callF Try.prog 22 #[.pointer p2, .int .i64 1, .int .i64 (IntKind.i64.wrap ((IntKind.i64.wrap (Int.tmod u2 4)) + 1))] r32.2).bind fun r36 =>
(asTup 2 r36.1).bind fun l37 =>
(asI .i64 (l37.getD 0 undef)).bind fun n38 =>
(asI .i64 (l37.getD 1 undef)).bind fun n39 =>
if ((n34 : Int) != 0) = true then
(some (.ret, (false, s7.2.1, s7.2.2), r36.2))
else
(if ((n35 : Int) != 16) = true then
(some (.ret, (false, s7.2.1, s7.2.2), r36.2))
else
(if ((n39 : Int) != 0) = true then
(some (.ret, (false, s7.2.1, s7.2.2), r36.2))
else
((callF Try.prog 20 #[.pointer p2, .agg #[.int .i64 0, .int .i64 0, .int .u64 (IntKind.u64.wrap (IntKind.i64.wrap (1 + (Int.tmod s7.2.2 2)))), .int .i64 0, .int .i64 0, .bool true, .bool true, .bool (u1 == (decide (((Int.tmod s7.2.2 3) : Int) > 0))), .slice none 0 0]] r36.2).bind fun r40 =>
(asTup 0 r40.1).bind fun _ =>
if (u1 == (decide (((Int.tmod s7.2.2 3) : Int) > 0))) = true then
((callF Try.prog 22 #[.pointer p2, .int .i64 1, .int .i64 (IntKind.i64.wrap (Int.tmod u2 4))] r40.2).bind fun r43 =>
(asTup 2 r43.1).bind fun l44 =>
(asI .i64 (l44.getD 0 undef)).bind fun n45 =>
(asI .i64 (l44.getD 1 undef)).bind fun n46 =>
if ((n45 : Int) != (if ((IntKind.i64.wrap n11) : Int) > s7.2.1 then (IntKind.i64.wrap n11) else s7.2.1)) = true then
(some (.ret, (false, (if ((IntKind.i64.wrap n11) : Int) > s7.2.1 then (IntKind.i64.wrap n11) else s7.2.1), s7.2.2), r43.2))
else
(if ((n46 : Int) != 0) = true then
(some (.ret, (false, (if ((IntKind.i64.wrap n11) : Int) > s7.2.1 then (IntKind.i64.wrap n11) else s7.2.1), s7.2.2), r43.2))
else
(some (.normal, (s7.1, (if ((IntKind.i64.wrap n11) : Int) > s7.2.1 then (IntKind.i64.wrap n11) else s7.2.1), (IntKind.i64.wrap (s7.2.2 + 1))), r43.2))))
else
((callF Try.prog 22 #[.pointer p2, .int .i64 1, .int .i64 (IntKind.i64.wrap (Int.tmod u2 4))] r40.2).bind fun r47 =>
(asTup 2 r47.1).bind fun l48 =>
(asI .i64 (l48.getD 0 undef)).bind fun n49 =>
(asI .i64 (l48.getD 1 undef)).bind fun n50 =>
if ((n49 : Int) != s7.2.1) = true then
(some (.ret, (false, s7.2.1, s7.2.2), r47.2))
else
(if ((n50 : Int) != 0) = true then
(some (.ret, (false, s7.2.1, s7.2.2), r47.2))
else
(some (.normal, (s7.1, s7.2.1, (IntKind.i64.wrap (s7.2.2 + 1))), r47.2))))))))
else
(some ((.exit 0), (s7.1, s7.2.1, s7.2.2), w8))

noncomputable def g5_K51  : Exit → Env → World → Option (Value × World) :=
  retK Try.prog Try.f5.results.toList

noncomputable def g5_K52  : Exit → Env → World → Option (Value × World) :=
  seqK (ev Try.prog 103 5 g5_ann (cAt [1, 1, 1, 1, 1] (bodyOf Try.f5)) [1, 1, 1, 1, 1] g5_K51) g5_K51

noncomputable def g5_K53  : Exit → Env → World → Option (Value × World) :=
  blkK 0 g5_K52

/-- the loop, from a state on -/
noncomputable def g5_l6 (u1 : Bool) (p2 : Option Addr) (u2 : Int) (u0 : Option Addr × Nat × Nat) (s : Bool × Int × Int) (w : World) : Option (Value × World) :=
  loopM Try.prog 103 5 g5_ann (cAt [1, 1, 1, 1, 0, 1, 0, 0] (bodyOf Try.f5)) [0, 1, 0, 1, 1, 1, 1] g5_K53 ((g5_l6_cs u1 p2 u2 u0) ++ sputs [(6, .b), (9, .i .i64), (30, .i .i64)] s) w

/-- behind the loop, left by x0 -/
noncomputable def g5_l6_x0  (t54 : Bool × Int × Int) (w55 : World) : Option (Value × World) :=
some (.bool true, w55)

/-- behind the loop, left by ret -/
noncomputable def g5_l6_ret  (t56 : Bool × Int × Int) (w57 : World) : Option (Value × World) :=
some (.bool t56.1, w57)

noncomputable def g5 (u0 : Option Addr × Nat × Nat) (u1 : Bool) (u2 : Int) (w0 : World) : Option (Value × World) :=
(callF Try.prog 19 #[] w0).bind fun r1 =>
(asP r1.1).bind fun p2 =>
(callF Try.prog 9 #[] r1.2).bind fun r3 =>
(asB r3.1).bind fun b4 =>
if (!b4) = true then
(some (.bool false, r3.2))
else
(if (p2.isNone) = true then
(some (.bool false, r3.2))
else
(g5_l6 u1 p2 u2 u0 (false, 0, 0) r3.2))

theorem g5_eq (u0 : Option Addr × Nat × Nat) (u1 : Bool) (u2 : Int) (w0 : World) : evFn Try.prog 5 g5_ann #[.slice u0.1 u0.2.1 u0.2.2, .bool u1, .int .u8 u2] w0 = g5 u0 u1 u2 w0 := by kernel_rfl

theorem g5_call {u0 : Option Addr × Nat × Nat} {u1 : Bool} {u2 : Int} {w0 : World} {r : Value × World} (h : g5 u0 u1 u2 w0 = some r) : callF Try.prog 5 #[.slice u0.1 u0.2.1 u0.2.2, .bool u1, .int .u8 u2] w0 = some r :=
  callF_of_evFn (ann := g5_ann) Try.call5 (by kernel_rfl) ((g5_eq u0 u1 u2 w0).trans h)

theorem g5_l6_x0_of {u1 : Bool} {p2 : Option Addr} {u2 : Int} {u0 : Option Addr × Nat × Nat} {s t : Bool × Int × Int} {w w' : World} (h : loopS (g5_l6_b u0 u2 p2 u1) s w = some (.exit 0, t, w')) : g5_l6 u1 p2 u2 u0 s w = g5_l6_x0 t w' := by
  have h1 : g5_l6 u1 p2 u2 u0 s w = loopM Try.prog 103 5 g5_ann (cAt [1, 1, 1, 1, 0, 1, 0, 0] (bodyOf Try.f5)) [0, 1, 0, 1, 1, 1, 1] g5_K53 ((g5_l6_cs u1 p2 u2 u0) ++ sputs [(6, .b), (9, .i .i64), (30, .i .i64)] s) w := by kernel_rfl
  have h2 : loopM Try.prog 103 5 g5_ann (cAt [1, 1, 1, 1, 0, 1, 0, 0] (bodyOf Try.f5)) [0, 1, 0, 1, 1, 1, 1] g5_K53 ((g5_l6_cs u1 p2 u2 u0) ++ sputs [(6, .b), (9, .i .i64), (30, .i .i64)] s) w = g5_K53 (.exit 0) (puts 103 ((g5_l6_cs u1 p2 u2 u0) ++ sputs [(6, .b), (9, .i .i64), (30, .i .i64)] t)) w' :=
    loop_rule (P := Try.prog) (N := 103) (f := 5) (ann := g5_ann) (body := (cAt [1, 1, 1, 1, 0, 1, 0, 0] (bodyOf Try.f5))) (pt := [0, 1, 0, 1, 1, 1, 1]) (K := g5_K53) (g5_l6_cs u1 p2 u2 u0) [(6, .b), (9, .i .i64), (30, .i .i64)] (b := g5_l6_b u0 u2 p2 u1) (fun s w => by kernel_rfl) (by kernel_rfl) (by kernel_rfl) (by kernel_rfl) h
  have h3 : g5_K53 (.exit 0) (puts 103 ((g5_l6_cs u1 p2 u2 u0) ++ sputs [(6, .b), (9, .i .i64), (30, .i .i64)] t)) w' = g5_l6_x0 t w' := by kernel_rfl
  exact h1.trans (h2.trans h3)

theorem g5_l6_ret_of {u1 : Bool} {p2 : Option Addr} {u2 : Int} {u0 : Option Addr × Nat × Nat} {s t : Bool × Int × Int} {w w' : World} (h : loopS (g5_l6_b u0 u2 p2 u1) s w = some (.ret, t, w')) : g5_l6 u1 p2 u2 u0 s w = g5_l6_ret t w' := by
  have h1 : g5_l6 u1 p2 u2 u0 s w = loopM Try.prog 103 5 g5_ann (cAt [1, 1, 1, 1, 0, 1, 0, 0] (bodyOf Try.f5)) [0, 1, 0, 1, 1, 1, 1] g5_K53 ((g5_l6_cs u1 p2 u2 u0) ++ sputs [(6, .b), (9, .i .i64), (30, .i .i64)] s) w := by kernel_rfl
  have h2 : loopM Try.prog 103 5 g5_ann (cAt [1, 1, 1, 1, 0, 1, 0, 0] (bodyOf Try.f5)) [0, 1, 0, 1, 1, 1, 1] g5_K53 ((g5_l6_cs u1 p2 u2 u0) ++ sputs [(6, .b), (9, .i .i64), (30, .i .i64)] s) w = g5_K53 (.ret) (puts 103 ((g5_l6_cs u1 p2 u2 u0) ++ sputs [(6, .b), (9, .i .i64), (30, .i .i64)] t)) w' :=
    loop_rule (P := Try.prog) (N := 103) (f := 5) (ann := g5_ann) (body := (cAt [1, 1, 1, 1, 0, 1, 0, 0] (bodyOf Try.f5))) (pt := [0, 1, 0, 1, 1, 1, 1]) (K := g5_K53) (g5_l6_cs u1 p2 u2 u0) [(6, .b), (9, .i .i64), (30, .i .i64)] (b := g5_l6_b u0 u2 p2 u1) (fun s w => by kernel_rfl) (by kernel_rfl) (by kernel_rfl) (by kernel_rfl) h
  have h3 : g5_K53 (.ret) (puts 103 ((g5_l6_cs u1 p2 u2 u0) ++ sputs [(6, .b), (9, .i .i64), (30, .i .i64)] t)) w' = g5_l6_ret t w' := by kernel_rfl
  exact h1.trans (h2.trans h3)

end Go.Proofs.Ytcakijeoeankfaa
