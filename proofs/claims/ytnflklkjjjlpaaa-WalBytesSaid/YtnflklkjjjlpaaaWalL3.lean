/-
  WalL3: lemmas on what Go functions of this seat come to (for whatever arguments, as each says). No condition but those that stand in each lemma.
-/
import Derived.Test.YtnflklkjjjlpaaaWalF0
namespace Go.Proofs.Ytnflklkjjjlpaaa
open Go Go.Ev
set_option maxRecDepth 100000
set_option linter.unusedVariables false
/-! 3: penstock/penstocklaw06.WalBytes (l: [][]uint8) -/
def g3_ann : List (List Nat × List Nat) := [([0, 1, 0, 1, 1, 1, 1, 1], [0, 3, 4, 39, 40, 2, 7, 41])]

def g3_l21_cs (u0 : Option Addr × Nat × Nat) (p2 : Option Addr) (p5 : Option Addr) : List (Nat × Value) := ([(0, .slice u0.1 u0.2.1 u0.2.2), (3, .pointer p2), (4, .pointer p5), (39, .slice u0.1 u0.2.1 u0.2.2), (40, .int .i64 (u0.2.1 : Int))] : List (Nat × Value))

/-- the round of a loop (penstock/penstocklaw06.WalBytes) -/
noncomputable def g3_l21_b (u0 : Option Addr × Nat × Nat) (p5 : Option Addr) (p2 : Option Addr) (s22 : Bool × (Option Addr × Nat × Nat) × Int) (w23 : World) : Option (Exit × (Bool × (Option Addr × Nat × Nat) × Int) × World) :=
if (decide ((s22.2.2 : Int) < (u0.2.1 : Int))) = true then
((idxA u0.1 u0.2.1 1 s22.2.2).bind fun a24 =>
(World.cell? w23 a24).bind fun v25 =>
(asSl v25).bind fun q26 =>
if (decide (((s22.2.1.2.1 : Int) : Int) > 524288)) = true then
(some (.ret, (true, (s22.2.1.1, s22.2.1.2.1, s22.2.1.2.2), s22.2.2), w23))
else
((callF Try.prog 13 #[.slice q26.1 q26.2.1 q26.2.2] w23).bind fun r28 =>
(asTup 2 r28.1).bind fun l29 =>
(asSl (l29.getD 0 undef)).bind fun q30 =>
(asI .i64 (l29.getD 1 undef)).bind fun n31 =>
(callB Try.prog .append #[31, 31] 31 #[false, false] #[.slice s22.2.1.1 s22.2.1.2.1 s22.2.1.2.2, .slice q30.1 q30.2.1 q30.2.2] r28.2).bind fun r32 =>
(asSl r32.1).bind fun q33 =>
(callF Try.prog 14 #[.pointer p5, .slice q26.1 q26.2.1 q26.2.2] r32.2).bind fun r34 =>
(asI .i64 r34.1).bind fun n35 =>
if ((n35 : Int) != 0) = true then
(some (.ret, (false, (q33.1, q33.2.1, q33.2.2), s22.2.2), r34.2))
else
(some (.normal, (s22.1, (q33.1, q33.2.1, q33.2.2), (IntKind.i64.wrap (s22.2.2 + 1))), r34.2))))
else
(some ((.exit 0), (s22.1, (s22.2.1.1, s22.2.1.2.1, s22.2.1.2.2), s22.2.2), w23))

noncomputable def g3_K36  : Exit → Env → World → Option (Value × World) :=
  retK Try.prog Try.f3.results.toList

noncomputable def g3_K37  : Exit → Env → World → Option (Value × World) :=
  seqK (ev Try.prog 99 3 g3_ann (cAt [1, 1, 1, 1, 1, 1] (bodyOf Try.f3)) [1, 1, 1, 1, 1, 1] g3_K36) g3_K36

noncomputable def g3_K38  : Exit → Env → World → Option (Value × World) :=
  blkK 0 g3_K37

/-- the loop, from a state on -/
noncomputable def g3_l21 (u0 : Option Addr × Nat × Nat) (p2 : Option Addr) (p5 : Option Addr) (s : Bool × (Option Addr × Nat × Nat) × Int) (w : World) : Option (Value × World) :=
  loopM Try.prog 99 3 g3_ann (cAt [1, 1, 1, 1, 1, 0, 1, 0, 0] (bodyOf Try.f3)) [0, 1, 0, 1, 1, 1, 1, 1] g3_K38 ((g3_l21_cs u0 p2 p5) ++ sputs [(2, .b), (7, .sl), (41, .i .i64)] s) w

/-- behind the loop, left by x0 -/
noncomputable def g3_l21_x0 (p2 : Option Addr) (u0 : Option Addr × Nat × Nat) (p5 : Option Addr) (t39 : Bool × (Option Addr × Nat × Nat) × Int) (w40 : World) : Option (Value × World) :=
(callF Try.prog 15 #[.pointer p2, .string (⟨#[119]⟩ : ByteArray)] w40).bind fun r41 =>
(asTup 2 r41.1).bind fun l42 =>
(asSl (l42.getD 0 undef)).bind fun q43 =>
(asI .i64 (l42.getD 1 undef)).bind fun n44 =>
(callF Try.prog 10 #[.pointer p2, .string (⟨#[119]⟩ : ByteArray)] r41.2).bind fun r45 =>
(asTup 3 r45.1).bind fun l46 =>
(asP (l46.getD 0 undef)).bind fun p47 =>
(asSl (l46.getD 1 undef)).bind fun q48 =>
(asI .i64 (l46.getD 2 undef)).bind fun n49 =>
if ((n44 : Int) == 0) = true then
(if ((n49 : Int) == 0) = true then
(if (!(p47.isNone)) = true then
((callF Try.prog 16 #[.slice q43.1 q43.2.1 q43.2.2, .slice t39.2.1.1 t39.2.1.2.1 t39.2.1.2.2] r45.2).bind fun r50 =>
(asB r50.1).bind fun b51 =>
if b51 = true then
((callF Try.prog 17 #[.slice q48.1 q48.2.1 q48.2.2, .slice u0.1 u0.2.1 u0.2.2] r50.2).bind fun r52 =>
(asB r52.1).bind fun b53 =>
if b53 = true then
((callF Try.prog 18 #[.pointer p5] r52.2).bind fun r54 =>
(asI .i64 r54.1).bind fun n55 =>
some (.bool ((n55 : Int) == (u0.2.1 : Int)), r54.2))
else
(some (.bool false, r52.2)))
else
(some (.bool false, r50.2)))
else
(some (.bool false, r45.2)))
else
(some (.bool false, r45.2)))
else
(some (.bool false, r45.2))

/-- behind the loop, left by ret -/
noncomputable def g3_l21_ret  (t57 : Bool × (Option Addr × Nat × Nat) × Int) (w58 : World) : Option (Value × World) :=
some (.bool t57.1, w58)

noncomputable def g3 (u0 : Option Addr × Nat × Nat) (w0 : World) : Option (Value × World) :=
(callF Try.prog 9 #[] w0).bind fun r1 =>
(asP r1.1).bind fun p2 =>
(callF Try.prog 10 #[.pointer p2, .string (⟨#[119]⟩ : ByteArray)] r1.2).bind fun r3 =>
(asTup 3 r3.1).bind fun l4 =>
(asP (l4.getD 0 undef)).bind fun p5 =>
(asSl (l4.getD 1 undef)).bind fun q6 =>
(asI .i64 (l4.getD 2 undef)).bind fun n7 =>
(callF Try.prog 11 #[] r3.2).bind fun r8 =>
(asB r8.1).bind fun b9 =>
if (!b9) = true then
((callF Try.prog 11 #[] r8.2).bind fun r10 =>
(asB r10.1).bind fun b11 =>
some (.bool b11, r10.2))
else
(if (p5.isNone) = true then
((callF Try.prog 11 #[] r8.2).bind fun r12 =>
(asB r12.1).bind fun b13 =>
some (.bool b13, r12.2))
else
(if ((n7 : Int) != 0) = true then
((callF Try.prog 11 #[] r8.2).bind fun r14 =>
(asB r14.1).bind fun b15 =>
some (.bool b15, r14.2))
else
((callF Try.prog 12 #[.slice u0.1 u0.2.1 u0.2.2] r8.2).bind fun r16 =>
(asB r16.1).bind fun b17 =>
if b17 = true then
((callF Try.prog 11 #[] r16.2).bind fun r18 =>
(asB r18.1).bind fun b19 =>
some (.bool b19, r18.2))
else
(g3_l21 u0 p2 p5 (false, (none, 0, 0), 0) r16.2))))

theorem g3_eq (u0 : Option Addr × Nat × Nat) (w0 : World) : evFn Try.prog 3 g3_ann #[.slice u0.1 u0.2.1 u0.2.2] w0 = g3 u0 w0 := by kernel_rfl

theorem g3_call {u0 : Option Addr × Nat × Nat} {w0 : World} {r : Value × World} (h : g3 u0 w0 = some r) : callF Try.prog 3 #[.slice u0.1 u0.2.1 u0.2.2] w0 = some r :=
  callF_of_evFn (ann := g3_ann) Try.call3 (by kernel_rfl) ((g3_eq u0 w0).trans h)

theorem g3_l21_x0_of {u0 : Option Addr × Nat × Nat} {p2 : Option Addr} {p5 : Option Addr} {s t : Bool × (Option Addr × Nat × Nat) × Int} {w w' : World} (h : loopS (g3_l21_b u0 p5 p2) s w = some (.exit 0, t, w')) : g3_l21 u0 p2 p5 s w = g3_l21_x0 p2 u0 p5 t w' := by
  have h1 : g3_l21 u0 p2 p5 s w = loopM Try.prog 99 3 g3_ann (cAt [1, 1, 1, 1, 1, 0, 1, 0, 0] (bodyOf Try.f3)) [0, 1, 0, 1, 1, 1, 1, 1] g3_K38 ((g3_l21_cs u0 p2 p5) ++ sputs [(2, .b), (7, .sl), (41, .i .i64)] s) w := by kernel_rfl
  have h2 : loopM Try.prog 99 3 g3_ann (cAt [1, 1, 1, 1, 1, 0, 1, 0, 0] (bodyOf Try.f3)) [0, 1, 0, 1, 1, 1, 1, 1] g3_K38 ((g3_l21_cs u0 p2 p5) ++ sputs [(2, .b), (7, .sl), (41, .i .i64)] s) w = g3_K38 (.exit 0) (puts 99 ((g3_l21_cs u0 p2 p5) ++ sputs [(2, .b), (7, .sl), (41, .i .i64)] t)) w' :=
    loop_rule (P := Try.prog) (N := 99) (f := 3) (ann := g3_ann) (body := (cAt [1, 1, 1, 1, 1, 0, 1, 0, 0] (bodyOf Try.f3))) (pt := [0, 1, 0, 1, 1, 1, 1, 1]) (K := g3_K38) (g3_l21_cs u0 p2 p5) [(2, .b), (7, .sl), (41, .i .i64)] (b := g3_l21_b u0 p5 p2) (fun s w => by kernel_rfl) (by kernel_rfl) (by kernel_rfl) (by kernel_rfl) h
  have h3 : g3_K38 (.exit 0) (puts 99 ((g3_l21_cs u0 p2 p5) ++ sputs [(2, .b), (7, .sl), (41, .i .i64)] t)) w' = g3_l21_x0 p2 u0 p5 t w' := by kernel_rfl
  exact h1.trans (h2.trans h3)

theorem g3_l21_ret_of {u0 : Option Addr × Nat × Nat} {p2 : Option Addr} {p5 : Option Addr} {s t : Bool × (Option Addr × Nat × Nat) × Int} {w w' : World} (h : loopS (g3_l21_b u0 p5 p2) s w = some (.ret, t, w')) : g3_l21 u0 p2 p5 s w = g3_l21_ret t w' := by
  have h1 : g3_l21 u0 p2 p5 s w = loopM Try.prog 99 3 g3_ann (cAt [1, 1, 1, 1, 1, 0, 1, 0, 0] (bodyOf Try.f3)) [0, 1, 0, 1, 1, 1, 1, 1] g3_K38 ((g3_l21_cs u0 p2 p5) ++ sputs [(2, .b), (7, .sl), (41, .i .i64)] s) w := by kernel_rfl
  have h2 : loopM Try.prog 99 3 g3_ann (cAt [1, 1, 1, 1, 1, 0, 1, 0, 0] (bodyOf Try.f3)) [0, 1, 0, 1, 1, 1, 1, 1] g3_K38 ((g3_l21_cs u0 p2 p5) ++ sputs [(2, .b), (7, .sl), (41, .i .i64)] s) w = g3_K38 (.ret) (puts 99 ((g3_l21_cs u0 p2 p5) ++ sputs [(2, .b), (7, .sl), (41, .i .i64)] t)) w' :=
    loop_rule (P := Try.prog) (N := 99) (f := 3) (ann := g3_ann) (body := (cAt [1, 1, 1, 1, 1, 0, 1, 0, 0] (bodyOf Try.f3))) (pt := [0, 1, 0, 1, 1, 1, 1, 1]) (K := g3_K38) (g3_l21_cs u0 p2 p5) [(2, .b), (7, .sl), (41, .i .i64)] (b := g3_l21_b u0 p5 p2) (fun s w => by kernel_rfl) (by kernel_rfl) (by kernel_rfl) (by kernel_rfl) h
  have h3 : g3_K38 (.ret) (puts 99 ((g3_l21_cs u0 p2 p5) ++ sputs [(2, .b), (7, .sl), (41, .i .i64)] t)) w' = g3_l21_ret t w' := by kernel_rfl
  exact h1.trans (h2.trans h3)

end Go.Proofs.Ytnflklkjjjlpaaa
