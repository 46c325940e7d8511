/-
  ImageV1: lemmas on what Go functions of this seat come to (for whatever arguments, as each says). No condition but those that stand in each lemma.
-/
import Derived.Test.YtjcenfgmpbeldaaLb9
import Derived.Test.YtjcenfgmpbeldaaProg
namespace Go.Proofs.Ytjcenfgmpbeldaa
open Go Go.Ev
set_option maxRecDepth 100000
set_option linter.unusedVariables false
/-! 19: penstock/penstockref03.SameInts (a: []int, b: []int) -/
def g19_ann : List (List Nat × List Nat) := [([0, 1, 0, 1, 1], [0, 1, 4, 5])]

def g19_l3_cs (u0 : Option Addr × Nat × Nat) (u1 : Option Addr × Nat × Nat) : List (Nat × Value) := ([(0, .slice u0.1 u0.2.1 u0.2.2), (1, .slice u1.1 u1.2.1 u1.2.2)] : List (Nat × Value))

/-- the round of a loop (penstock/penstockref03.SameInts) -/
noncomputable def g19_l3_b (u0 : Option Addr × Nat × Nat) (u1 : Option Addr × Nat × Nat) (s4 : Bool × Int) (w5 : World) : Option (Exit × (Bool × Int) × World) :=
if (decide ((s4.2 : Int) < (u0.2.1 : Int))) = true then
((idxA u0.1 u0.2.1 1 s4.2).bind fun a7 =>
(World.cell? (World.drew w5) a7).bind fun v8 =>
(asI .i64 v8).bind fun n9 =>
(idxA u1.1 u1.2.1 1 s4.2).bind fun a10 =>
(World.cell? (World.drew w5) a10).bind fun v11 =>
(asI .i64 v11).bind fun n12 =>
if ((n9 : Int) != n12) = true then
(some (.ret, (false, s4.2), (World.drew w5)))
else
(some (.normal, (s4.1, (IntKind.i64.wrap (s4.2 + 1))), (World.drew w5))))
else
(some ((.exit 0), (s4.1, s4.2), w5))

noncomputable def g19_K13  : Exit → Env → World → Option (Value × World) :=
  retK Try.prog Try.f19.results.toList

noncomputable def g19_K14  : Exit → Env → World → Option (Value × World) :=
  seqK (ev Try.prog 26 19 g19_ann (cAt [1, 1, 1] (bodyOf Try.f19)) [1, 1, 1] g19_K13) g19_K13

noncomputable def g19_K15  : Exit → Env → World → Option (Value × World) :=
  blkK 0 g19_K14

/-- the loop, from a state on -/
noncomputable def g19_l3 (u0 : Option Addr × Nat × Nat) (u1 : Option Addr × Nat × Nat) (s : Bool × Int) (w : World) : Option (Value × World) :=
  loopM Try.prog 26 19 g19_ann (cAt [1, 1, 0, 1, 0, 0] (bodyOf Try.f19)) [0, 1, 0, 1, 1] g19_K15 ((g19_l3_cs u0 u1) ++ sputs [(4, .b), (5, .i .i64)] s) w

/-- behind the loop, left by x0 -/
noncomputable def g19_l3_x0  (t16 : Bool × Int) (w17 : World) : Option (Value × World) :=
some (.bool true, w17)

/-- behind the loop, left by ret -/
noncomputable def g19_l3_ret  (t18 : Bool × Int) (w19 : World) : Option (Value × World) :=
some (.bool t18.1, w19)

noncomputable def g19 (u0 : Option Addr × Nat × Nat) (u1 : Option Addr × Nat × Nat) (w0 : World) : Option (Value × World) :=
if (((u0.2.1 : Int) : Int) != (u1.2.1 : Int)) = true then
(some (.bool false, w0))
else
(g19_l3 u0 u1 (false, 0) w0)

theorem g19_eq (u0 : Option Addr × Nat × Nat) (u1 : Option Addr × Nat × Nat) (w0 : World) : evFn Try.prog 19 g19_ann #[.slice u0.1 u0.2.1 u0.2.2, .slice u1.1 u1.2.1 u1.2.2] w0 = g19 u0 u1 w0 := by kernel_rfl

theorem g19_call {u0 : Option Addr × Nat × Nat} {u1 : Option Addr × Nat × Nat} {w0 : World} {r : Value × World} (h : g19 u0 u1 w0 = some r) : callF Try.prog 19 #[.slice u0.1 u0.2.1 u0.2.2, .slice u1.1 u1.2.1 u1.2.2] w0 = some r :=
  callF_of_evFn (ann := g19_ann) Try.call19 (by kernel_rfl) ((g19_eq u0 u1 w0).trans h)

theorem g19_l3_x0_of {u0 : Option Addr × Nat × Nat} {u1 : Option Addr × Nat × Nat} {s t : Bool × Int} {w w' : World} (h : loopS (g19_l3_b u0 u1) s w = some (.exit 0, t, w')) : g19_l3 u0 u1 s w = g19_l3_x0 t w' := by
  have h1 : g19_l3 u0 u1 s w = loopM Try.prog 26 19 g19_ann (cAt [1, 1, 0, 1, 0, 0] (bodyOf Try.f19)) [0, 1, 0, 1, 1] g19_K15 ((g19_l3_cs u0 u1) ++ sputs [(4, .b), (5, .i .i64)] s) w := by kernel_rfl
  have h2 : loopM Try.prog 26 19 g19_ann (cAt [1, 1, 0, 1, 0, 0] (bodyOf Try.f19)) [0, 1, 0, 1, 1] g19_K15 ((g19_l3_cs u0 u1) ++ sputs [(4, .b), (5, .i .i64)] s) w = g19_K15 (.exit 0) (puts 26 ((g19_l3_cs u0 u1) ++ sputs [(4, .b), (5, .i .i64)] t)) w' :=
    loop_rule (P := Try.prog) (N := 26) (f := 19) (ann := g19_ann) (body := (cAt [1, 1, 0, 1, 0, 0] (bodyOf Try.f19))) (pt := [0, 1, 0, 1, 1]) (K := g19_K15) (g19_l3_cs u0 u1) [(4, .b), (5, .i .i64)] (b := g19_l3_b u0 u1) (fun s w => by kernel_rfl) (by kernel_rfl) (by kernel_rfl) (by kernel_rfl) h
  have h3 : g19_K15 (.exit 0) (puts 26 ((g19_l3_cs u0 u1) ++ sputs [(4, .b), (5, .i .i64)] t)) w' = g19_l3_x0 t w' := by kernel_rfl
  exact h1.trans (h2.trans h3)

theorem g19_l3_ret_of {u0 : Option Addr × Nat × Nat} {u1 : Option Addr × Nat × Nat} {s t : Bool × Int} {w w' : World} (h : loopS (g19_l3_b u0 u1) s w = some (.ret, t, w')) : g19_l3 u0 u1 s w = g19_l3_ret t w' := by
  have h1 : g19_l3 u0 u1 s w = loopM Try.prog 26 19 g19_ann (cAt [1, 1, 0, 1, 0, 0] (bodyOf Try.f19)) [0, 1, 0, 1, 1] g19_K15 ((g19_l3_cs u0 u1) ++ sputs [(4, .b), (5, .i .i64)] s) w := by kernel_rfl
  have h2 : loopM Try.prog 26 19 g19_ann (cAt [1, 1, 0, 1, 0, 0] (bodyOf Try.f19)) [0, 1, 0, 1, 1] g19_K15 ((g19_l3_cs u0 u1) ++ sputs [(4, .b), (5, .i .i64)] s) w = g19_K15 (.ret) (puts 26 ((g19_l3_cs u0 u1) ++ sputs [(4, .b), (5, .i .i64)] t)) w' :=
    loop_rule (P := Try.prog) (N := 26) (f := 19) (ann := g19_ann) (body := (cAt [1, 1, 0, 1, 0, 0] (bodyOf Try.f19))) (pt := [0, 1, 0, 1, 1]) (K := g19_K15) (g19_l3_cs u0 u1) [(4, .b), (5, .i .i64)] (b := g19_l3_b u0 u1) (fun s w => by kernel_rfl) (by kernel_rfl) (by kernel_rfl) (by kernel_rfl) h
  have h3 : g19_K15 (.ret) (puts 26 ((g19_l3_cs u0 u1) ++ sputs [(4, .b), (5, .i .i64)] t)) w' = g19_l3_ret t w' := by kernel_rfl
  exact h1.trans (h2.trans h3)

end Go.Proofs.Ytjcenfgmpbeldaa
