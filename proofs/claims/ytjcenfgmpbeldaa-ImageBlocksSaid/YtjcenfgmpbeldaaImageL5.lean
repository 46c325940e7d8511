/-
  ImageL5: lemmas on what Go functions of this seat come to (for whatever arguments, as each says). No condition but those that stand in each lemma.
-/
import Derived.Test.YtjcenfgmpbeldaaImageT
namespace Go.Proofs.Ytjcenfgmpbeldaa
open Go Go.Ev
set_option maxRecDepth 100000
set_option linter.unusedVariables false
/-! 5: penstock/penstocklaw13.ImageBlocks (l: []uint8) -/
def g5_ann : List (List Nat × List Nat) := [([0, 1, 0, 1, 1, 1, 1], [3, 29, 30, 2, 5, 31])]

def g5_l8_cs (p3 : Option Addr) (u0 : Option Addr × Nat × Nat) : List (Nat × Value) := ([(3, .pointer p3), (29, .slice u0.1 u0.2.1 u0.2.2), (30, .int .i64 (u0.2.1 : Int))] : List (Nat × Value))

/-- the round of a loop (penstock/penstocklaw13.ImageBlocks) -/
noncomputable def g5_l8_b (u0 : Option Addr × Nat × Nat) (p3 : Option Addr) (s9 : Bool × Int × Int) (w10 : World) : Option (Exit × (Bool × Int × Int) × World) :=
if (decide ((s9.2.2 : Int) < (u0.2.1 : Int))) = true then
((idxA u0.1 u0.2.1 1 s9.2.2).bind fun a11 =>
(World.cell? w10 a11).bind fun v12 =>
(asI .u8 v12).bind fun n13 =>
(callF Try.prog 13 #[.pointer p3, .agg #[.int .i64 5, .int .i64 (IntKind.i64.wrap (Int.tmod n13 3)), .int .i64 0, .int .i64 0, .int .i64 0, .slice none 0 0]] w10).bind fun r14 =>
(asI .i64 r14.1).bind fun n15 =>
if (!(((n15 : Int) == 0) == (decide ((s9.2.1 : Int) < 100)))) = true then
(some (.ret, (false, s9.2.1, s9.2.2), r14.2))
else
(if ((n15 : Int) != 0) = true then
(if ((n15 : Int) != 17) = true then
(some (.ret, (false, s9.2.1, s9.2.2), r14.2))
else
(if ((n15 : Int) == 0) = true then
((callF Try.prog 16 #[.pointer p3, .int .i64 (IntKind.i64.wrap (Int.tmod n13 3))] r14.2).bind fun r16 =>
(asTup 3 r16.1).bind fun l17 =>
(asB (l17.getD 0 undef)).bind fun b18 =>
(asI .i64 (l17.getD 1 undef)).bind fun n19 =>
(asI .u64 (l17.getD 2 undef)).bind fun n20 =>
if ((n20 : Int) != (IntKind.u64.wrap (IntKind.i64.wrap (1 + (IntKind.i64.wrap (10 * s9.2.1)))))) = true then
(some (.ret, (false, s9.2.1, s9.2.2), r16.2))
else
(some (.normal, (s9.1, (IntKind.i64.wrap (s9.2.1 + 1)), (IntKind.i64.wrap (s9.2.2 + 1))), r16.2)))
else
(some (.normal, (s9.1, s9.2.1, (IntKind.i64.wrap (s9.2.2 + 1))), r14.2))))
else
(if ((n15 : Int) == 0) = true then
((callF Try.prog 16 #[.pointer p3, .int .i64 (IntKind.i64.wrap (Int.tmod n13 3))] r14.2).bind fun r21 =>
(asTup 3 r21.1).bind fun l22 =>
(asB (l22.getD 0 undef)).bind fun b23 =>
(asI .i64 (l22.getD 1 undef)).bind fun n24 =>
(asI .u64 (l22.getD 2 undef)).bind fun n25 =>
if ((n25 : Int) != (IntKind.u64.wrap (IntKind.i64.wrap (1 + (IntKind.i64.wrap (10 * s9.2.1)))))) = true then
(some (.ret, (false, s9.2.1, s9.2.2), r21.2))
else
(some (.normal, (s9.1, (IntKind.i64.wrap (s9.2.1 + 1)), (IntKind.i64.wrap (s9.2.2 + 1))), r21.2)))
else
(some (.normal, (s9.1, s9.2.1, (IntKind.i64.wrap (s9.2.2 + 1))), r14.2)))))
else
(some ((.exit 0), (s9.1, s9.2.1, s9.2.2), w10))

noncomputable def g5_K26  : Exit → Env → World → Option (Value × World) :=
  retK Try.prog Try.f5.results.toList

noncomputable def g5_K27  : Exit → Env → World → Option (Value × World) :=
  seqK (ev Try.prog 92 5 g5_ann (cAt [1, 1, 1, 1, 1] (bodyOf Try.f5)) [1, 1, 1, 1, 1] g5_K26) g5_K26

noncomputable def g5_K28  : Exit → Env → World → Option (Value × World) :=
  blkK 0 g5_K27

/-- the loop, from a state on -/
noncomputable def g5_l8 (p3 : Option Addr) (u0 : Option Addr × Nat × Nat) (s : Bool × Int × Int) (w : World) : Option (Value × World) :=
  loopM Try.prog 92 5 g5_ann (cAt [1, 1, 1, 1, 0, 1, 0, 0] (bodyOf Try.f5)) [0, 1, 0, 1, 1, 1, 1] g5_K28 ((g5_l8_cs p3 u0) ++ sputs [(2, .b), (5, .i .i64), (31, .i .i64)] s) w

/-- behind the loop, left by x0 -/
noncomputable def g5_l8_x0 (p3 : Option Addr) (t29 : Bool × Int × Int) (w30 : World) : Option (Value × World) :=
(callF Try.prog 20 #[.pointer p3] w30).bind fun r31 =>
(asTup 2 r31.1).bind fun l32 =>
(asI .u64 (l32.getD 0 undef)).bind fun n33 =>
(asI .u64 (l32.getD 1 undef)).bind fun n34 =>
if ((n33 : Int) == (IntKind.u64.wrap (IntKind.i64.wrap (1 + (IntKind.i64.wrap (10 * t29.2.1)))))) = true then
(some (.bool ((n34 : Int) == (IntKind.u64.wrap (IntKind.i64.wrap (1000 - (IntKind.i64.wrap (10 * t29.2.1)))))), r31.2))
else
(some (.bool false, r31.2))

/-- behind the loop, left by ret -/
noncomputable def g5_l8_ret  (t35 : Bool × Int × Int) (w36 : World) : Option (Value × World) :=
some (.bool t35.1, w36)

noncomputable def g5 (u0 : Option Addr × Nat × Nat) (w0 : World) : Option (Value × World) :=
(callF Try.prog 11 #[.int .i64 3, .int .i64 1, .int .i64 1] w0).bind fun r1 =>
(asTup 2 r1.1).bind fun l2 =>
(asP (l2.getD 0 undef)).bind fun p3 =>
(asI .i64 (l2.getD 1 undef)).bind fun n4 =>
(callF Try.prog 12 #[] r1.2).bind fun r5 =>
(asB r5.1).bind fun b6 =>
if (!b6) = true then
(some (.bool false, r5.2))
else
(if (p3.isNone) = true then
(some (.bool false, r5.2))
else
(if ((n4 : Int) != 0) = true then
(some (.bool false, r5.2))
else
(g5_l8 p3 u0 (false, 0, 0) r5.2)))

theorem g5_eq (u0 : Option Addr × Nat × Nat) (w0 : World) : evFn Try.prog 5 g5_ann #[.slice u0.1 u0.2.1 u0.2.2] w0 = g5 u0 w0 := by kernel_rfl

theorem g5_call {u0 : Option Addr × Nat × Nat} {w0 : World} {r : Value × World} (h : g5 u0 w0 = some r) : callF Try.prog 5 #[.slice u0.1 u0.2.1 u0.2.2] w0 = some r :=
  callF_of_evFn (ann := g5_ann) Try.call5 (by kernel_rfl) ((g5_eq u0 w0).trans h)

theorem g5_l8_x0_of {p3 : Option Addr} {u0 : Option Addr × Nat × Nat} {s t : Bool × Int × Int} {w w' : World} (h : loopS (g5_l8_b u0 p3) s w = some (.exit 0, t, w')) : g5_l8 p3 u0 s w = g5_l8_x0 p3 t w' := by
  have h1 : g5_l8 p3 u0 s w = loopM Try.prog 92 5 g5_ann (cAt [1, 1, 1, 1, 0, 1, 0, 0] (bodyOf Try.f5)) [0, 1, 0, 1, 1, 1, 1] g5_K28 ((g5_l8_cs p3 u0) ++ sputs [(2, .b), (5, .i .i64), (31, .i .i64)] s) w := by kernel_rfl
  have h2 : loopM Try.prog 92 5 g5_ann (cAt [1, 1, 1, 1, 0, 1, 0, 0] (bodyOf Try.f5)) [0, 1, 0, 1, 1, 1, 1] g5_K28 ((g5_l8_cs p3 u0) ++ sputs [(2, .b), (5, .i .i64), (31, .i .i64)] s) w = g5_K28 (.exit 0) (puts 92 ((g5_l8_cs p3 u0) ++ sputs [(2, .b), (5, .i .i64), (31, .i .i64)] t)) w' :=
    loop_rule (P := Try.prog) (N := 92) (f := 5) (ann := g5_ann) (body := (cAt [1, 1, 1, 1, 0, 1, 0, 0] (bodyOf Try.f5))) (pt := [0, 1, 0, 1, 1, 1, 1]) (K := g5_K28) (g5_l8_cs p3 u0) [(2, .b), (5, .i .i64), (31, .i .i64)] (b := g5_l8_b u0 p3) (fun s w => by kernel_rfl) (by kernel_rfl) (by kernel_rfl) (by kernel_rfl) h
  have h3 : g5_K28 (.exit 0) (puts 92 ((g5_l8_cs p3 u0) ++ sputs [(2, .b), (5, .i .i64), (31, .i .i64)] t)) w' = g5_l8_x0 p3 t w' := by kernel_rfl
  exact h1.trans (h2.trans h3)

theorem g5_l8_ret_of {p3 : Option Addr} {u0 : Option Addr × Nat × Nat} {s t : Bool × Int × Int} {w w' : World} (h : loopS (g5_l8_b u0 p3) s w = some (.ret, t, w')) : g5_l8 p3 u0 s w = g5_l8_ret t w' := by
  have h1 : g5_l8 p3 u0 s w = loopM Try.prog 92 5 g5_ann (cAt [1, 1, 1, 1, 0, 1, 0, 0] (bodyOf Try.f5)) [0, 1, 0, 1, 1, 1, 1] g5_K28 ((g5_l8_cs p3 u0) ++ sputs [(2, .b), (5, .i .i64), (31, .i .i64)] s) w := by kernel_rfl
  have h2 : loopM Try.prog 92 5 g5_ann (cAt [1, 1, 1, 1, 0, 1, 0, 0] (bodyOf Try.f5)) [0, 1, 0, 1, 1, 1, 1] g5_K28 ((g5_l8_cs p3 u0) ++ sputs [(2, .b), (5, .i .i64), (31, .i .i64)] s) w = g5_K28 (.ret) (puts 92 ((g5_l8_cs p3 u0) ++ sputs [(2, .b), (5, .i .i64), (31, .i .i64)] t)) w' :=
    loop_rule (P := Try.prog) (N := 92) (f := 5) (ann := g5_ann) (body := (cAt [1, 1, 1, 1, 0, 1, 0, 0] (bodyOf Try.f5))) (pt := [0, 1, 0, 1, 1, 1, 1]) (K := g5_K28) (g5_l8_cs p3 u0) [(2, .b), (5, .i .i64), (31, .i .i64)] (b := g5_l8_b u0 p3) (fun s w => by kernel_rfl) (by kernel_rfl) (by kernel_rfl) (by kernel_rfl) h
  have h3 : g5_K28 (.ret) (puts 92 ((g5_l8_cs p3 u0) ++ sputs [(2, .b), (5, .i .i64), (31, .i .i64)] t)) w' = g5_l8_ret t w' := by kernel_rfl
  exact h1.trans (h2.trans h3)

end Go.Proofs.Ytjcenfgmpbeldaa
