/-
  WalL7: lemmas on what Go functions of this seat come to (for whatever arguments, as each says). No condition but those that stand in each lemma.
-/
import Derived.Test.YtnflklkjjjlpaaaWalF0
namespace Go.Proofs.Ytnflklkjjjlpaaa
open Go Go.Ev
set_option maxRecDepth 100000
set_option linter.unusedVariables false
/-! 7: penstock/penstocklaw06.WalWhole (old: [][]uint8, now: [][]uint8, fuse: uint16, keep: int) -/
def g7_ann : List (List Nat × List Nat) := [([0, 1, 0, 1, 1, 1, 1, 1, 1], [0, 1, 2, 3, 9, 10, 68, 69, 13, 70])]

def g7_l38_cs (u0 : Option Addr × Nat × Nat) (u1 : Option Addr × Nat × Nat) (u2 : Int) (u3 : Int) (p2 : Option Addr) (p5 : Option Addr) : List (Nat × Value) := ([(0, .slice u0.1 u0.2.1 u0.2.2), (1, .slice u1.1 u1.2.1 u1.2.2), (2, .int .u16 u2), (3, .int .i64 u3), (9, .pointer p2), (10, .pointer p5), (68, .slice u1.1 u1.2.1 u1.2.2), (69, .int .i64 (u1.2.1 : Int))] : List (Nat × Value))

/-- the round of a loop (penstock/penstocklaw06.WalWhole) -/
noncomputable def g7_l38_b (u1 : Option Addr × Nat × Nat) (u0 : Option Addr × Nat × Nat) (u2 : Int) (u3 : Int) (p2 : Option Addr) (p5 : Option Addr) (s39 : Int × Int) (w40 : World) : Option (Exit × (Int × Int) × World) :=
if (decide ((s39.2 : Int) < (u1.2.1 : Int))) = true then
((idxA u1.1 u1.2.1 1 s39.2).bind fun a41 =>
(World.cell? w40 a41).bind fun v42 =>
(asSl v42).bind fun q43 =>
some (.normal, ((IntKind.i64.wrap (s39.1 + (IntKind.i64.wrap (8 + (q43.2.1 : Int))))), (IntKind.i64.wrap (s39.2 + 1))), w40))
else
(some ((.exit 0), (s39.1, s39.2), w40))

noncomputable def g7_K45  : Exit → Env → World → Option (Value × World) :=
  retK Try.prog Try.f7.results.toList

noncomputable def g7_K46  : Exit → Env → World → Option (Value × World) :=
  seqK (ev Try.prog 132 7 g7_ann (cAt [1, 1, 1, 1, 1, 1, 1] (bodyOf Try.f7)) [1, 1, 1, 1, 1, 1, 1] g7_K45) g7_K45

noncomputable def g7_K47  : Exit → Env → World → Option (Value × World) :=
  blkK 0 g7_K46

/-- the loop, from a state on -/
noncomputable def g7_l38 (u0 : Option Addr × Nat × Nat) (u1 : Option Addr × Nat × Nat) (u2 : Int) (u3 : Int) (p2 : Option Addr) (p5 : Option Addr) (s : Int × Int) (w : World) : Option (Value × World) :=
  loopM Try.prog 132 7 g7_ann (cAt [1, 1, 1, 1, 1, 1, 0, 1, 0, 0] (bodyOf Try.f7)) [0, 1, 0, 1, 1, 1, 1, 1, 1] g7_K47 ((g7_l38_cs u0 u1 u2 u3 p2 p5) ++ sputs [(13, .i .i64), (70, .i .i64)] s) w

/-- behind the loop, left by x0 -/
noncomputable def g7_l38_x0 (p2 : Option Addr) (u2 : Int) (u1 : Option Addr × Nat × Nat) (p5 : Option Addr) (u3 : Int) (u0 : Option Addr × Nat × Nat) (t48 : Int × Int) (w49 : World) : Option (Value × World) :=
if ((IntKind.i64.wrap (t48.1 + 2)) : Int) = 0 then
(none)
else
((callF Try.prog 26 #[.pointer p2, .int .i64 (Int.tmod (IntKind.i64.wrap u2) (IntKind.i64.wrap (t48.1 + 2)))] w49).bind fun r50 =>
(asTup 0 r50.1).bind fun _ =>
(callF Try.prog 25 #[.slice u1.1 u1.2.1 u1.2.2] r50.2).bind fun r51 =>
(asSl r51.1).bind fun q52 =>
(callF Try.prog 24 #[.pointer p5, .slice q52.1 q52.2.1 q52.2.2] r51.2).bind fun r53 =>
(asI .i64 r53.1).bind fun n54 =>
if ((IntKind.i64.wrap (t48.1 + 2)) : Int) = 0 then
(none)
else
(if (!(((n54 : Int) == 0) == (decide (((Int.tmod (IntKind.i64.wrap u2) (IntKind.i64.wrap (t48.1 + 2))) : Int) ≥ t48.1)))) = true then
(some (.bool false, r53.2))
else
(if ((n54 : Int) != 0) = true then
(if ((n54 : Int) != 9) = true then
(some (.bool false, r53.2))
else
((callF Try.prog 27 #[.pointer p2, .int .i64 u3] r53.2).bind fun r55 =>
(asTup 0 r55.1).bind fun _ =>
(callF Try.prog 10 #[.pointer p2, .string (⟨#[119]⟩ : ByteArray)] r55.2).bind fun r56 =>
(asTup 3 r56.1).bind fun l57 =>
(asP (l57.getD 0 undef)).bind fun p58 =>
(asSl (l57.getD 1 undef)).bind fun q59 =>
(asI .i64 (l57.getD 2 undef)).bind fun n60 =>
if (p58.isNone) = true then
(some (.bool false, r56.2))
else
(if ((n60 : Int) != 0) = true then
(some (.bool false, r56.2))
else
(if ((n54 : Int) == 0) = true then
((callF Try.prog 17 #[.slice q59.1 q59.2.1 q59.2.2, .slice u1.1 u1.2.1 u1.2.2] r56.2).bind fun r61 =>
(asB r61.1).bind fun b62 =>
some (.bool b62, r61.2))
else
((callF Try.prog 17 #[.slice q59.1 q59.2.1 q59.2.2, .slice u0.1 u0.2.1 u0.2.2] r56.2).bind fun r63 =>
(asB r63.1).bind fun b64 =>
some (.bool b64, r63.2))))))
else
((callF Try.prog 27 #[.pointer p2, .int .i64 u3] r53.2).bind fun r65 =>
(asTup 0 r65.1).bind fun _ =>
(callF Try.prog 10 #[.pointer p2, .string (⟨#[119]⟩ : ByteArray)] r65.2).bind fun r66 =>
(asTup 3 r66.1).bind fun l67 =>
(asP (l67.getD 0 undef)).bind fun p68 =>
(asSl (l67.getD 1 undef)).bind fun q69 =>
(asI .i64 (l67.getD 2 undef)).bind fun n70 =>
if (p68.isNone) = true then
(some (.bool false, r66.2))
else
(if ((n70 : Int) != 0) = true then
(some (.bool false, r66.2))
else
(if ((n54 : Int) == 0) = true then
((callF Try.prog 17 #[.slice q69.1 q69.2.1 q69.2.2, .slice u1.1 u1.2.1 u1.2.2] r66.2).bind fun r71 =>
(asB r71.1).bind fun b72 =>
some (.bool b72, r71.2))
else
((callF Try.prog 17 #[.slice q69.1 q69.2.1 q69.2.2, .slice u0.1 u0.2.1 u0.2.2] r66.2).bind fun r73 =>
(asB r73.1).bind fun b74 =>
some (.bool b74, r73.2))))))))

noncomputable def g7 (u0 : Option Addr × Nat × Nat) (u1 : Option Addr × Nat × Nat) (u2 : Int) (u3 : Int) (w0 : World) : Option (Value × World) :=
(callF Try.prog 9 #[] w0).bind fun r1 =>
(asP r1.1).bind fun p2 =>
(callF Try.prog 10 #[.pointer p2, .string (⟨#[119]⟩ : ByteArray)] r1.2).bind fun r3 =>
(asTup 3 r3.1).bind fun l4 =>
(asP (l4.getD 0 undef)).bind fun p5 =>
(asSl (l4.getD 1 undef)).bind fun q6 =>
(asI .i64 (l4.getD 2 undef)).bind fun n7 =>
(callF Try.prog 11 #[] r3.2).bind fun r8 =>
(asB r8.1).bind fun b9 =>
if (!b9) = true then
((callF Try.prog 11 #[] r8.2).bind fun r10 =>
(asB r10.1).bind fun b11 =>
some (.bool b11, r10.2))
else
(if (p5.isNone) = true then
((callF Try.prog 11 #[] r8.2).bind fun r12 =>
(asB r12.1).bind fun b13 =>
some (.bool b13, r12.2))
else
(if ((n7 : Int) != 0) = true then
((callF Try.prog 11 #[] r8.2).bind fun r14 =>
(asB r14.1).bind fun b15 =>
some (.bool b15, r14.2))
else
((callF Try.prog 12 #[.slice u0.1 u0.2.1 u0.2.2] r8.2).bind fun r16 =>
(asB r16.1).bind fun b17 =>
if b17 = true then
((callF Try.prog 11 #[] r16.2).bind fun r18 =>
(asB r18.1).bind fun b19 =>
some (.bool b19, r18.2))
else
((callF Try.prog 12 #[.slice u1.1 u1.2.1 u1.2.2] r16.2).bind fun r20 =>
(asB r20.1).bind fun b21 =>
if b21 = true then
((callF Try.prog 11 #[] r20.2).bind fun r22 =>
(asB r22.1).bind fun b23 =>
some (.bool b23, r22.2))
else
(if (decide (((u0.2.1 : Int) : Int) > 100)) = true then
((callF Try.prog 11 #[] r20.2).bind fun r25 =>
(asB r25.1).bind fun b26 =>
some (.bool b26, r25.2))
else
(if (decide (((u1.2.1 : Int) : Int) > 100)) = true then
((callF Try.prog 11 #[] r20.2).bind fun r28 =>
(asB r28.1).bind fun b29 =>
some (.bool b29, r28.2))
else
((callF Try.prog 25 #[.slice u0.1 u0.2.1 u0.2.2] r20.2).bind fun r30 =>
(asSl r30.1).bind fun q31 =>
(callF Try.prog 24 #[.pointer p5, .slice q31.1 q31.2.1 q31.2.2] r30.2).bind fun r32 =>
(asI .i64 r32.1).bind fun n33 =>
if ((n33 : Int) != 0) = true then
(some (.bool false, r32.2))
else
((callF Try.prog 18 #[.pointer p5] r32.2).bind fun r34 =>
(asI .i64 r34.1).bind fun n35 =>
if ((n35 : Int) != (u0.2.1 : Int)) = true then
(some (.bool false, r34.2))
else
(g7_l38 u0 u1 u2 u3 p2 p5 (0, 0) r34.2)))))))))

theorem g7_eq (u0 : Option Addr × Nat × Nat) (u1 : Option Addr × Nat × Nat) (u2 : Int) (u3 : Int) (w0 : World) : evFn Try.prog 7 g7_ann #[.slice u0.1 u0.2.1 u0.2.2, .slice u1.1 u1.2.1 u1.2.2, .int .u16 u2, .int .i64 u3] w0 = g7 u0 u1 u2 u3 w0 := by kernel_rfl

theorem g7_call {u0 : Option Addr × Nat × Nat} {u1 : Option Addr × Nat × Nat} {u2 : Int} {u3 : Int} {w0 : World} {r : Value × World} (h : g7 u0 u1 u2 u3 w0 = some r) : callF Try.prog 7 #[.slice u0.1 u0.2.1 u0.2.2, .slice u1.1 u1.2.1 u1.2.2, .int .u16 u2, .int .i64 u3] w0 = some r :=
  callF_of_evFn (ann := g7_ann) Try.call7 (by kernel_rfl) ((g7_eq u0 u1 u2 u3 w0).trans h)

theorem g7_l38_x0_of {u0 : Option Addr × Nat × Nat} {u1 : Option Addr × Nat × Nat} {u2 : Int} {u3 : Int} {p2 : Option Addr} {p5 : Option Addr} {s t : Int × Int} {w w' : World} (h : loopS (g7_l38_b u1 u0 u2 u3 p2 p5) s w = some (.exit 0, t, w')) : g7_l38 u0 u1 u2 u3 p2 p5 s w = g7_l38_x0 p2 u2 u1 p5 u3 u0 t w' := by
  have h1 : g7_l38 u0 u1 u2 u3 p2 p5 s w = loopM Try.prog 132 7 g7_ann (cAt [1, 1, 1, 1, 1, 1, 0, 1, 0, 0] (bodyOf Try.f7)) [0, 1, 0, 1, 1, 1, 1, 1, 1] g7_K47 ((g7_l38_cs u0 u1 u2 u3 p2 p5) ++ sputs [(13, .i .i64), (70, .i .i64)] s) w := by kernel_rfl
  have h2 : loopM Try.prog 132 7 g7_ann (cAt [1, 1, 1, 1, 1, 1, 0, 1, 0, 0] (bodyOf Try.f7)) [0, 1, 0, 1, 1, 1, 1, 1, 1] g7_K47 ((g7_l38_cs u0 u1 u2 u3 p2 p5) ++ sputs [(13, .i .i64), (70, .i .i64)] s) w = g7_K47 (.exit 0) (puts 132 ((g7_l38_cs u0 u1 u2 u3 p2 p5) ++ sputs [(13, .i .i64), (70, .i .i64)] t)) w' :=
    loop_rule (P := Try.prog) (N := 132) (f := 7) (ann := g7_ann) (body := (cAt [1, 1, 1, 1, 1, 1, 0, 1, 0, 0] (bodyOf Try.f7))) (pt := [0, 1, 0, 1, 1, 1, 1, 1, 1]) (K := g7_K47) (g7_l38_cs u0 u1 u2 u3 p2 p5) [(13, .i .i64), (70, .i .i64)] (b := g7_l38_b u1 u0 u2 u3 p2 p5) (fun s w => by kernel_rfl) (by kernel_rfl) (by kernel_rfl) (by kernel_rfl) h
  have h3 : g7_K47 (.exit 0) (puts 132 ((g7_l38_cs u0 u1 u2 u3 p2 p5) ++ sputs [(13, .i .i64), (70, .i .i64)] t)) w' = g7_l38_x0 p2 u2 u1 p5 u3 u0 t w' := by kernel_rfl
  exact h1.trans (h2.trans h3)

end Go.Proofs.Ytnflklkjjjlpaaa
