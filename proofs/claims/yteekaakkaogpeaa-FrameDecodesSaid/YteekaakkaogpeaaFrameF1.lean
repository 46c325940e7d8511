/-
  FrameF1: lemmas on what Go functions of this seat come to (for whatever arguments, as each says). No condition but those that stand in each lemma.
-/
import Derived.Test.YteekaakkaogpeaaLb5
import Derived.Test.YteekaakkaogpeaaProg
namespace Go.Proofs.Yteekaakkaogpeaa
open Go Go.Ev
set_option maxRecDepth 100000
set_option linter.unusedVariables false
/-! 3: penstock/penstocklaw04.FrameEncodes (p: []uint8) -/
def g3_ann : List (List Nat × List Nat) := [([0, 1, 0, 1, 1, 1, 1, 1], [0, 3, 4, 5, 6, 2, 7]), ([0, 1, 1, 1, 0, 0, 1, 0, 0, 1, 0, 1, 1, 1, 1, 1], [0, 2, 3, 4, 5, 6, 7, 8, 48, 49])]

def g3_l11_cs (u0 : Option Addr × Nat × Nat) (p2 : Option Addr) (q5 : Option Addr × Nat × Nat) (n6 : Int) (q10 : Option Addr × Nat × Nat) : List (Nat × Value) := ([(0, .slice u0.1 u0.2.1 u0.2.2), (3, .pointer p2), (4, .slice q5.1 q5.2.1 q5.2.2), (5, .int .i64 n6), (6, .slice q10.1 q10.2.1 q10.2.2)] : List (Nat × Value))

def g3_l23_cs (u0 : Option Addr × Nat × Nat) (s12 : Bool × Int) (p2 : Option Addr) (q5 : Option Addr × Nat × Nat) (n6 : Int) (q10 : Option Addr × Nat × Nat) (q16 : Option Addr × Nat × Nat) : List (Nat × Value) := ([(0, .slice u0.1 u0.2.1 u0.2.2), (2, .bool s12.1), (3, .pointer p2), (4, .slice q5.1 q5.2.1 q5.2.2), (5, .int .i64 n6), (6, .slice q10.1 q10.2.1 q10.2.2), (7, .int .i64 s12.2), (8, .slice q16.1 q16.2.1 q16.2.2), (48, .int .i64 (q16.2.1 : Int))] : List (Nat × Value))

/-- the round of a loop (penstock/penstocklaw04.FrameEncodes) -/
noncomputable def g3_l23_b (q16 : Option Addr × Nat × Nat) (u0 : Option Addr × Nat × Nat) (s12 : Bool × Int) (p2 : Option Addr) (q5 : Option Addr × Nat × Nat) (n6 : Int) (q10 : Option Addr × Nat × Nat) (s24 : Int) (w25 : World) : Option (Exit × (Int) × World) :=
if (decide ((s24 : Int) < (q16.2.1 : Int))) = true then
((idxA q16.1 q16.2.1 1 s24).bind fun a26 =>
(st1 w25 a26 (.int .u8 5)).bind fun w27 =>
some (.normal, (IntKind.i64.wrap (s24 + 1)), w27))
else
(some ((.exit 2), s24, w25))

noncomputable def g3_K28 (u0 : Option Addr × Nat × Nat) (p2 : Option Addr) (q5 : Option Addr × Nat × Nat) (n6 : Int) (q10 : Option Addr × Nat × Nat) : Exit → Env → World → Option (Exit × (Bool × Int) × World) :=
  fun e ρ w => ((List.map (·.1) (g3_l11_cs u0 p2 q5 n6 q10)).mapM ρ).bind fun _ => loopK [(2, .b), (7, .i .i64)] e ρ w

noncomputable def g3_K29 (u0 : Option Addr × Nat × Nat) (p2 : Option Addr) (q5 : Option Addr × Nat × Nat) (n6 : Int) (q10 : Option Addr × Nat × Nat) : Exit → Env → World → Option (Exit × (Bool × Int) × World) :=
  seqK (ev Try.prog 56 3 g3_ann (cAt [1, 1, 1, 1, 1, 0, 1, 0, 0, 1, 1] (bodyOf Try.f3)) [1, 1, 0, 0, 1, 0, 1, 1, 1, 1, 1] (g3_K28 u0 p2 q5 n6 q10)) (g3_K28 u0 p2 q5 n6 q10)

noncomputable def g3_K30 (u0 : Option Addr × Nat × Nat) (p2 : Option Addr) (q5 : Option Addr × Nat × Nat) (n6 : Int) (q10 : Option Addr × Nat × Nat) : Exit → Env → World → Option (Exit × (Bool × Int) × World) :=
  blkK 1 (g3_K29 u0 p2 q5 n6 q10)

noncomputable def g3_K31 (u0 : Option Addr × Nat × Nat) (p2 : Option Addr) (q5 : Option Addr × Nat × Nat) (n6 : Int) (q10 : Option Addr × Nat × Nat) : Exit → Env → World → Option (Exit × (Bool × Int) × World) :=
  blkK 2 (g3_K30 u0 p2 q5 n6 q10)

/-- the loop, from a state on -/
noncomputable def g3_l23 (u0 : Option Addr × Nat × Nat) (s12 : Bool × Int) (p2 : Option Addr) (q5 : Option Addr × Nat × Nat) (n6 : Int) (q10 : Option Addr × Nat × Nat) (q16 : Option Addr × Nat × Nat) (s : Int) (w : World) : Option (Exit × (Bool × Int) × World) :=
  loopM Try.prog 56 3 g3_ann (cAt [1, 1, 1, 1, 1, 0, 1, 0, 0, 1, 0, 0, 1, 1, 1, 0, 0] (bodyOf Try.f3)) [0, 1, 1, 1, 0, 0, 1, 0, 0, 1, 0, 1, 1, 1, 1, 1] (g3_K31 u0 p2 q5 n6 q10) ((g3_l23_cs u0 s12 p2 q5 n6 q10 q16) ++ sputs [(49, .i .i64)] s) w

/-- behind the loop, left by x2 -/
noncomputable def g3_l23_x2 (s12 : Bool × Int) (t32 : Int) (w33 : World) : Option (Exit × (Bool × Int) × World) :=
some (.normal, (s12.1, (IntKind.i64.wrap (s12.2 + 1))), w33)

/-- the round of a loop (penstock/penstocklaw04.FrameEncodes) -/
noncomputable def g3_l11_b (p2 : Option Addr) (q10 : Option Addr × Nat × Nat) (n6 : Int) (q5 : Option Addr × Nat × Nat) (u0 : Option Addr × Nat × Nat) (s12 : Bool × Int) (w13 : World) : Option (Exit × (Bool × Int) × World) :=
if (decide ((s12.2 : Int) < 2)) = true then
((callF Try.prog 13 #[.pointer p2, .slice q10.1 q10.2.1 q10.2.2] w13).bind fun r14 =>
(asTup 2 r14.1).bind fun l15 =>
(asSl (l15.getD 0 undef)).bind fun q16 =>
(asI .i64 (l15.getD 1 undef)).bind fun n17 =>
if ((n17 : Int) != n6) = true then
(some (.ret, (false, s12.2), r14.2))
else
((callF Try.prog 14 #[.slice q16.1 q16.2.1 q16.2.2, .slice q5.1 q5.2.1 q5.2.2] r14.2).bind fun r18 =>
(asB r18.1).bind fun b19 =>
if (!b19) = true then
(some (.ret, (false, s12.2), r18.2))
else
((callF Try.prog 14 #[.slice q10.1 q10.2.1 q10.2.2, .slice u0.1 u0.2.1 u0.2.2] r18.2).bind fun r20 =>
(asB r20.1).bind fun b21 =>
if (!b21) = true then
(some (.ret, (false, s12.2), r20.2))
else
(g3_l23 u0 s12 p2 q5 n6 q10 q16 0 r20.2))))
else
(some ((.exit 0), (s12.1, s12.2), w13))

noncomputable def g3_K34  : Exit → Env → World → Option (Value × World) :=
  retK Try.prog Try.f3.results.toList

noncomputable def g3_K35  : Exit → Env → World → Option (Value × World) :=
  seqK (ev Try.prog 56 3 g3_ann (cAt [1, 1, 1, 1, 1, 1] (bodyOf Try.f3)) [1, 1, 1, 1, 1, 1] g3_K34) g3_K34

noncomputable def g3_K36  : Exit → Env → World → Option (Value × World) :=
  blkK 0 g3_K35

/-- the loop, from a state on -/
noncomputable def g3_l11 (u0 : Option Addr × Nat × Nat) (p2 : Option Addr) (q5 : Option Addr × Nat × Nat) (n6 : Int) (q10 : Option Addr × Nat × Nat) (s : Bool × Int) (w : World) : Option (Value × World) :=
  loopM Try.prog 56 3 g3_ann (cAt [1, 1, 1, 1, 1, 0, 1, 0, 0] (bodyOf Try.f3)) [0, 1, 0, 1, 1, 1, 1, 1] g3_K36 ((g3_l11_cs u0 p2 q5 n6 q10) ++ sputs [(2, .b), (7, .i .i64)] s) w

/-- behind the loop, left by x0 -/
noncomputable def g3_l11_x0  (t37 : Bool × Int) (w38 : World) : Option (Value × World) :=
some (.bool true, w38)

/-- behind the loop, left by ret -/
noncomputable def g3_l11_ret  (t39 : Bool × Int) (w40 : World) : Option (Value × World) :=
some (.bool t39.1, w40)

noncomputable def g3 (u0 : Option Addr × Nat × Nat) (w0 : World) : Option (Value × World) :=
(callF Try.prog 10 #[] w0).bind fun r1 =>
(asP r1.1).bind fun p2 =>
(callF Try.prog 11 #[.slice u0.1 u0.2.1 u0.2.2] r1.2).bind fun r3 =>
(asTup 2 r3.1).bind fun l4 =>
(asSl (l4.getD 0 undef)).bind fun q5 =>
(asI .i64 (l4.getD 1 undef)).bind fun n6 =>
(callF Try.prog 12 #[] r3.2).bind fun r7 =>
(asB r7.1).bind fun b8 =>
if (!b8) = true then
(some (.bool false, r7.2))
else
((callB Try.prog .append #[22, 22] 22 #[false, false] #[.slice (some (⟨r7.2.heap.size, 0, none⟩)) 0 0, .slice u0.1 u0.2.1 u0.2.2] (World.alloc r7.2 (.cells #[] 5))).bind fun r9 =>
(asSl r9.1).bind fun q10 =>
g3_l11 u0 p2 q5 n6 q10 (false, 0) r9.2)

theorem g3_eq (u0 : Option Addr × Nat × Nat) (w0 : World) : evFn Try.prog 3 g3_ann #[.slice u0.1 u0.2.1 u0.2.2] w0 = g3 u0 w0 := by kernel_rfl

theorem g3_call {u0 : Option Addr × Nat × Nat} {w0 : World} {r : Value × World} (h : g3 u0 w0 = some r) : callF Try.prog 3 #[.slice u0.1 u0.2.1 u0.2.2] w0 = some r :=
  callF_of_evFn (ann := g3_ann) Try.call3 (by kernel_rfl) ((g3_eq u0 w0).trans h)

theorem g3_l23_x2_of {u0 : Option Addr × Nat × Nat} {s12 : Bool × Int} {p2 : Option Addr} {q5 : Option Addr × Nat × Nat} {n6 : Int} {q10 : Option Addr × Nat × Nat} {q16 : Option Addr × Nat × Nat} {s t : Int} {w w' : World} (h : loopS (g3_l23_b q16 u0 s12 p2 q5 n6 q10) s w = some (.exit 2, t, w')) : g3_l23 u0 s12 p2 q5 n6 q10 q16 s w = g3_l23_x2 s12 t w' := by
  have h1 : g3_l23 u0 s12 p2 q5 n6 q10 q16 s w = loopM Try.prog 56 3 g3_ann (cAt [1, 1, 1, 1, 1, 0, 1, 0, 0, 1, 0, 0, 1, 1, 1, 0, 0] (bodyOf Try.f3)) [0, 1, 1, 1, 0, 0, 1, 0, 0, 1, 0, 1, 1, 1, 1, 1] (g3_K31 u0 p2 q5 n6 q10) ((g3_l23_cs u0 s12 p2 q5 n6 q10 q16) ++ sputs [(49, .i .i64)] s) w := by kernel_rfl
  have h2 : loopM Try.prog 56 3 g3_ann (cAt [1, 1, 1, 1, 1, 0, 1, 0, 0, 1, 0, 0, 1, 1, 1, 0, 0] (bodyOf Try.f3)) [0, 1, 1, 1, 0, 0, 1, 0, 0, 1, 0, 1, 1, 1, 1, 1] (g3_K31 u0 p2 q5 n6 q10) ((g3_l23_cs u0 s12 p2 q5 n6 q10 q16) ++ sputs [(49, .i .i64)] s) w = (g3_K31 u0 p2 q5 n6 q10) (.exit 2) (puts 56 ((g3_l23_cs u0 s12 p2 q5 n6 q10 q16) ++ sputs [(49, .i .i64)] t)) w' :=
    loop_rule (P := Try.prog) (N := 56) (f := 3) (ann := g3_ann) (body := (cAt [1, 1, 1, 1, 1, 0, 1, 0, 0, 1, 0, 0, 1, 1, 1, 0, 0] (bodyOf Try.f3))) (pt := [0, 1, 1, 1, 0, 0, 1, 0, 0, 1, 0, 1, 1, 1, 1, 1]) (K := (g3_K31 u0 p2 q5 n6 q10)) (g3_l23_cs u0 s12 p2 q5 n6 q10 q16) [(49, .i .i64)] (b := g3_l23_b q16 u0 s12 p2 q5 n6 q10) (fun s w => by kernel_rfl) (by kernel_rfl) (by kernel_rfl) (by kernel_rfl) h
  have h3 : (g3_K31 u0 p2 q5 n6 q10) (.exit 2) (puts 56 ((g3_l23_cs u0 s12 p2 q5 n6 q10 q16) ++ sputs [(49, .i .i64)] t)) w' = g3_l23_x2 s12 t w' := by kernel_rfl
  exact h1.trans (h2.trans h3)

theorem g3_l11_x0_of {u0 : Option Addr × Nat × Nat} {p2 : Option Addr} {q5 : Option Addr × Nat × Nat} {n6 : Int} {q10 : Option Addr × Nat × Nat} {s t : Bool × Int} {w w' : World} (h : loopS (g3_l11_b p2 q10 n6 q5 u0) s w = some (.exit 0, t, w')) : g3_l11 u0 p2 q5 n6 q10 s w = g3_l11_x0 t w' := by
  have h1 : g3_l11 u0 p2 q5 n6 q10 s w = loopM Try.prog 56 3 g3_ann (cAt [1, 1, 1, 1, 1, 0, 1, 0, 0] (bodyOf Try.f3)) [0, 1, 0, 1, 1, 1, 1, 1] g3_K36 ((g3_l11_cs u0 p2 q5 n6 q10) ++ sputs [(2, .b), (7, .i .i64)] s) w := by kernel_rfl
  have h2 : loopM Try.prog 56 3 g3_ann (cAt [1, 1, 1, 1, 1, 0, 1, 0, 0] (bodyOf Try.f3)) [0, 1, 0, 1, 1, 1, 1, 1] g3_K36 ((g3_l11_cs u0 p2 q5 n6 q10) ++ sputs [(2, .b), (7, .i .i64)] s) w = g3_K36 (.exit 0) (puts 56 ((g3_l11_cs u0 p2 q5 n6 q10) ++ sputs [(2, .b), (7, .i .i64)] t)) w' :=
    loop_rule (P := Try.prog) (N := 56) (f := 3) (ann := g3_ann) (body := (cAt [1, 1, 1, 1, 1, 0, 1, 0, 0] (bodyOf Try.f3))) (pt := [0, 1, 0, 1, 1, 1, 1, 1]) (K := g3_K36) (g3_l11_cs u0 p2 q5 n6 q10) [(2, .b), (7, .i .i64)] (b := g3_l11_b p2 q10 n6 q5 u0) (fun s w => by kernel_rfl) (by kernel_rfl) (by kernel_rfl) (by kernel_rfl) h
  have h3 : g3_K36 (.exit 0) (puts 56 ((g3_l11_cs u0 p2 q5 n6 q10) ++ sputs [(2, .b), (7, .i .i64)] t)) w' = g3_l11_x0 t w' := by kernel_rfl
  exact h1.trans (h2.trans h3)

theorem g3_l11_ret_of {u0 : Option Addr × Nat × Nat} {p2 : Option Addr} {q5 : Option Addr × Nat × Nat} {n6 : Int} {q10 : Option Addr × Nat × Nat} {s t : Bool × Int} {w w' : World} (h : loopS (g3_l11_b p2 q10 n6 q5 u0) s w = some (.ret, t, w')) : g3_l11 u0 p2 q5 n6 q10 s w = g3_l11_ret t w' := by
  have h1 : g3_l11 u0 p2 q5 n6 q10 s w = loopM Try.prog 56 3 g3_ann (cAt [1, 1, 1, 1, 1, 0, 1, 0, 0] (bodyOf Try.f3)) [0, 1, 0, 1, 1, 1, 1, 1] g3_K36 ((g3_l11_cs u0 p2 q5 n6 q10) ++ sputs [(2, .b), (7, .i .i64)] s) w := by kernel_rfl
  have h2 : loopM Try.prog 56 3 g3_ann (cAt [1, 1, 1, 1, 1, 0, 1, 0, 0] (bodyOf Try.f3)) [0, 1, 0, 1, 1, 1, 1, 1] g3_K36 ((g3_l11_cs u0 p2 q5 n6 q10) ++ sputs [(2, .b), (7, .i .i64)] s) w = g3_K36 (.ret) (puts 56 ((g3_l11_cs u0 p2 q5 n6 q10) ++ sputs [(2, .b), (7, .i .i64)] t)) w' :=
    loop_rule (P := Try.prog) (N := 56) (f := 3) (ann := g3_ann) (body := (cAt [1, 1, 1, 1, 1, 0, 1, 0, 0] (bodyOf Try.f3))) (pt := [0, 1, 0, 1, 1, 1, 1, 1]) (K := g3_K36) (g3_l11_cs u0 p2 q5 n6 q10) [(2, .b), (7, .i .i64)] (b := g3_l11_b p2 q10 n6 q5 u0) (fun s w => by kernel_rfl) (by kernel_rfl) (by kernel_rfl) (by kernel_rfl) h
  have h3 : g3_K36 (.ret) (puts 56 ((g3_l11_cs u0 p2 q5 n6 q10) ++ sputs [(2, .b), (7, .i .i64)] t)) w' = g3_l11_ret t w' := by kernel_rfl
  exact h1.trans (h2.trans h3)

/-! 4: penstock/penstocklaw04.FrameDecodes (b: []uint8) -/
def g4_ann : List (List Nat × List Nat) := [([0, 1, 0, 1, 1, 1, 1, 1, 1, 1], [0, 7, 8, 46, 47])]

def g4_l20_cs (u0 : Option Addr × Nat × Nat) (q11 : Option Addr × Nat × Nat) (q14 : Option Addr × Nat × Nat) : List (Nat × Value) := ([(0, .slice u0.1 u0.2.1 u0.2.2), (7, .slice q11.1 q11.2.1 q11.2.2), (8, .slice q14.1 q14.2.1 q14.2.2), (46, .int .i64 (q14.2.1 : Int))] : List (Nat × Value))

/-- the round of a loop (penstock/penstocklaw04.FrameDecodes) -/
noncomputable def g4_l20_b (q14 : Option Addr × Nat × Nat) (u0 : Option Addr × Nat × Nat) (q11 : Option Addr × Nat × Nat) (s21 : Int) (w22 : World) : Option (Exit × (Int) × World) :=
if (decide ((s21 : Int) < (q14.2.1 : Int))) = true then
((idxA q14.1 q14.2.1 1 s21).bind fun a23 =>
(st1 w22 a23 (.int .u8 5)).bind fun w24 =>
some (.normal, (IntKind.i64.wrap (s21 + 1)), w24))
else
(some ((.exit 0), s21, w22))

noncomputable def g4_K25  : Exit → Env → World → Option (Value × World) :=
  retK Try.prog Try.f4.results.toList

noncomputable def g4_K26  : Exit → Env → World → Option (Value × World) :=
  seqK (ev Try.prog 57 4 g4_ann (cAt [1, 1, 1, 1, 1, 1, 1, 1] (bodyOf Try.f4)) [1, 1, 1, 1, 1, 1, 1, 1] g4_K25) g4_K25

noncomputable def g4_K27  : Exit → Env → World → Option (Value × World) :=
  blkK 0 g4_K26

/-- the loop, from a state on -/
noncomputable def g4_l20 (u0 : Option Addr × Nat × Nat) (q11 : Option Addr × Nat × Nat) (q14 : Option Addr × Nat × Nat) (s : Int) (w : World) : Option (Value × World) :=
  loopM Try.prog 57 4 g4_ann (cAt [1, 1, 1, 1, 1, 1, 1, 0, 1, 0, 0] (bodyOf Try.f4)) [0, 1, 0, 1, 1, 1, 1, 1, 1, 1] g4_K27 ((g4_l20_cs u0 q11 q14) ++ sputs [(47, .i .i64)] s) w

/-- behind the loop, left by x0 -/
noncomputable def g4_l20_x0 (q11 : Option Addr × Nat × Nat) (u0 : Option Addr × Nat × Nat) (t28 : Int) (w29 : World) : Option (Value × World) :=
(callF Try.prog 14 #[.slice q11.1 q11.2.1 q11.2.2, .slice u0.1 u0.2.1 u0.2.2] w29).bind fun r30 =>
(asB r30.1).bind fun b31 =>
some (.bool b31, r30.2)

noncomputable def g4 (u0 : Option Addr × Nat × Nat) (w0 : World) : Option (Value × World) :=
(callF Try.prog 10 #[] w0).bind fun r1 =>
(asP r1.1).bind fun p2 =>
(callF Try.prog 15 #[.slice u0.1 u0.2.1 u0.2.2, .int .i64 0] r1.2).bind fun r3 =>
(asTup 3 r3.1).bind fun l4 =>
(asSl (l4.getD 0 undef)).bind fun q5 =>
(asI .i64 (l4.getD 1 undef)).bind fun n6 =>
(asI .i64 (l4.getD 2 undef)).bind fun n7 =>
(callF Try.prog 12 #[] r3.2).bind fun r8 =>
(asB r8.1).bind fun b9 =>
if (!b9) = true then
(some (.bool false, r8.2))
else
((callB Try.prog .append #[22, 22] 22 #[false, false] #[.slice (some (⟨r8.2.heap.size, 0, none⟩)) 0 0, .slice u0.1 u0.2.1 u0.2.2] (World.alloc r8.2 (.cells #[] 5))).bind fun r10 =>
(asSl r10.1).bind fun q11 =>
(callF Try.prog 16 #[.pointer p2, .slice q11.1 q11.2.1 q11.2.2] r10.2).bind fun r12 =>
(asTup 3 r12.1).bind fun l13 =>
(asSl (l13.getD 0 undef)).bind fun q14 =>
(asI .i64 (l13.getD 1 undef)).bind fun n15 =>
(asI .i64 (l13.getD 2 undef)).bind fun n16 =>
if ((n16 : Int) != n7) = true then
(some (.bool false, r12.2))
else
(if ((n15 : Int) != n6) = true then
(some (.bool false, r12.2))
else
((callF Try.prog 14 #[.slice q14.1 q14.2.1 q14.2.2, .slice q5.1 q5.2.1 q5.2.2] r12.2).bind fun r17 =>
(asB r17.1).bind fun b18 =>
if (!b18) = true then
(some (.bool false, r17.2))
else
(g4_l20 u0 q11 q14 0 r17.2))))

theorem g4_eq (u0 : Option Addr × Nat × Nat) (w0 : World) : evFn Try.prog 4 g4_ann #[.slice u0.1 u0.2.1 u0.2.2] w0 = g4 u0 w0 := by kernel_rfl

theorem g4_call {u0 : Option Addr × Nat × Nat} {w0 : World} {r : Value × World} (h : g4 u0 w0 = some r) : callF Try.prog 4 #[.slice u0.1 u0.2.1 u0.2.2] w0 = some r :=
  callF_of_evFn (ann := g4_ann) Try.call4 (by kernel_rfl) ((g4_eq u0 w0).trans h)

theorem g4_l20_x0_of {u0 : Option Addr × Nat × Nat} {q11 : Option Addr × Nat × Nat} {q14 : Option Addr × Nat × Nat} {s t : Int} {w w' : World} (h : loopS (g4_l20_b q14 u0 q11) s w = some (.exit 0, t, w')) : g4_l20 u0 q11 q14 s w = g4_l20_x0 q11 u0 t w' := by
  have h1 : g4_l20 u0 q11 q14 s w = loopM Try.prog 57 4 g4_ann (cAt [1, 1, 1, 1, 1, 1, 1, 0, 1, 0, 0] (bodyOf Try.f4)) [0, 1, 0, 1, 1, 1, 1, 1, 1, 1] g4_K27 ((g4_l20_cs u0 q11 q14) ++ sputs [(47, .i .i64)] s) w := by kernel_rfl
  have h2 : loopM Try.prog 57 4 g4_ann (cAt [1, 1, 1, 1, 1, 1, 1, 0, 1, 0, 0] (bodyOf Try.f4)) [0, 1, 0, 1, 1, 1, 1, 1, 1, 1] g4_K27 ((g4_l20_cs u0 q11 q14) ++ sputs [(47, .i .i64)] s) w = g4_K27 (.exit 0) (puts 57 ((g4_l20_cs u0 q11 q14) ++ sputs [(47, .i .i64)] t)) w' :=
    loop_rule (P := Try.prog) (N := 57) (f := 4) (ann := g4_ann) (body := (cAt [1, 1, 1, 1, 1, 1, 1, 0, 1, 0, 0] (bodyOf Try.f4))) (pt := [0, 1, 0, 1, 1, 1, 1, 1, 1, 1]) (K := g4_K27) (g4_l20_cs u0 q11 q14) [(47, .i .i64)] (b := g4_l20_b q14 u0 q11) (fun s w => by kernel_rfl) (by kernel_rfl) (by kernel_rfl) (by kernel_rfl) h
  have h3 : g4_K27 (.exit 0) (puts 57 ((g4_l20_cs u0 q11 q14) ++ sputs [(47, .i .i64)] t)) w' = g4_l20_x0 q11 u0 t w' := by kernel_rfl
  exact h1.trans (h2.trans h3)

/-! 5: penstock/penstocklaw04.FrameScans (b: []uint8) -/
def g5_ann : List (List Nat × List Nat) := [([0, 1, 0, 1, 1, 1, 1, 1, 1, 1], [0, 7, 47, 48, 49]), ([0, 1, 1, 0, 0, 1, 1, 0, 0, 1, 0, 1, 1, 1, 1, 1, 1, 1], [0, 7, 12, 47, 48, 49, 54, 55])]

def g5_l20_cs (u0 : Option Addr × Nat × Nat) (q11 : Option Addr × Nat × Nat) (q14 : Option Addr × Nat × Nat) : List (Nat × Value) := ([(0, .slice u0.1 u0.2.1 u0.2.2), (7, .slice q11.1 q11.2.1 q11.2.2), (47, .slice q14.1 q14.2.1 q14.2.2), (48, .int .i64 (q14.2.1 : Int))] : List (Nat × Value))

def g5_l27_cs (u0 : Option Addr × Nat × Nat) (q11 : Option Addr × Nat × Nat) (q25 : Option Addr × Nat × Nat) (q14 : Option Addr × Nat × Nat) (s21 : Int) : List (Nat × Value) := ([(0, .slice u0.1 u0.2.1 u0.2.2), (7, .slice q11.1 q11.2.1 q11.2.2), (12, .slice q25.1 q25.2.1 q25.2.2), (47, .slice q14.1 q14.2.1 q14.2.2), (48, .int .i64 (q14.2.1 : Int)), (49, .int .i64 s21), (54, .int .i64 (q25.2.1 : Int))] : List (Nat × Value))

/-- the round of a loop (penstock/penstocklaw04.FrameScans) -/
noncomputable def g5_l27_b (q25 : Option Addr × Nat × Nat) (u0 : Option Addr × Nat × Nat) (q11 : Option Addr × Nat × Nat) (q14 : Option Addr × Nat × Nat) (s21 : Int) (s28 : Int) (w29 : World) : Option (Exit × (Int) × World) :=
if (decide ((s28 : Int) < (q25.2.1 : Int))) = true then
((idxA q25.1 q25.2.1 1 s28).bind fun a30 =>
(st1 w29 a30 (.int .u8 5)).bind fun w31 =>
some (.normal, (IntKind.i64.wrap (s28 + 1)), w31))
else
(some ((.exit 2), s28, w29))

noncomputable def g5_K32 (u0 : Option Addr × Nat × Nat) (q11 : Option Addr × Nat × Nat) (q14 : Option Addr × Nat × Nat) : Exit → Env → World → Option (Exit × (Int) × World) :=
  fun e ρ w => ((List.map (·.1) (g5_l20_cs u0 q11 q14)).mapM ρ).bind fun _ => loopK [(49, .i .i64)] e ρ w

noncomputable def g5_K33 (u0 : Option Addr × Nat × Nat) (q11 : Option Addr × Nat × Nat) (q14 : Option Addr × Nat × Nat) : Exit → Env → World → Option (Exit × (Int) × World) :=
  seqK (ev Try.prog 66 5 g5_ann (cAt [1, 1, 1, 1, 1, 1, 1, 0, 1, 0, 0, 1, 1, 1] (bodyOf Try.f5)) [1, 1, 1, 0, 0, 1, 0, 1, 1, 1, 1, 1, 1, 1] (g5_K32 u0 q11 q14)) (g5_K32 u0 q11 q14)

noncomputable def g5_K34 (u0 : Option Addr × Nat × Nat) (q11 : Option Addr × Nat × Nat) (q14 : Option Addr × Nat × Nat) : Exit → Env → World → Option (Exit × (Int) × World) :=
  blkK 1 (g5_K33 u0 q11 q14)

noncomputable def g5_K35 (u0 : Option Addr × Nat × Nat) (q11 : Option Addr × Nat × Nat) (q14 : Option Addr × Nat × Nat) : Exit → Env → World → Option (Exit × (Int) × World) :=
  blkK 2 (g5_K34 u0 q11 q14)

/-- the loop, from a state on -/
noncomputable def g5_l27 (u0 : Option Addr × Nat × Nat) (q11 : Option Addr × Nat × Nat) (q25 : Option Addr × Nat × Nat) (q14 : Option Addr × Nat × Nat) (s21 : Int) (s : Int) (w : World) : Option (Exit × (Int) × World) :=
  loopM Try.prog 66 5 g5_ann (cAt [1, 1, 1, 1, 1, 1, 1, 0, 1, 0, 0, 1, 1, 0, 0, 1, 1, 0, 0] (bodyOf Try.f5)) [0, 1, 1, 0, 0, 1, 1, 0, 0, 1, 0, 1, 1, 1, 1, 1, 1, 1] (g5_K35 u0 q11 q14) ((g5_l27_cs u0 q11 q25 q14 s21) ++ sputs [(55, .i .i64)] s) w

/-- behind the loop, left by x2 -/
noncomputable def g5_l27_x2 (s21 : Int) (t36 : Int) (w37 : World) : Option (Exit × (Int) × World) :=
some (.normal, (IntKind.i64.wrap (s21 + 1)), w37)

/-- the round of a loop (penstock/penstocklaw04.FrameScans) -/
noncomputable def g5_l20_b (q14 : Option Addr × Nat × Nat) (u0 : Option Addr × Nat × Nat) (q11 : Option Addr × Nat × Nat) (s21 : Int) (w22 : World) : Option (Exit × (Int) × World) :=
if (decide ((s21 : Int) < (q14.2.1 : Int))) = true then
((idxA q14.1 q14.2.1 1 s21).bind fun a23 =>
(World.cell? w22 a23).bind fun v24 =>
(asSl v24).bind fun q25 =>
g5_l27 u0 q11 q25 q14 s21 0 w22)
else
(some ((.exit 0), s21, w22))

noncomputable def g5_K38  : Exit → Env → World → Option (Value × World) :=
  retK Try.prog Try.f5.results.toList

noncomputable def g5_K39  : Exit → Env → World → Option (Value × World) :=
  seqK (ev Try.prog 66 5 g5_ann (cAt [1, 1, 1, 1, 1, 1, 1, 1] (bodyOf Try.f5)) [1, 1, 1, 1, 1, 1, 1, 1] g5_K38) g5_K38

noncomputable def g5_K40  : Exit → Env → World → Option (Value × World) :=
  blkK 0 g5_K39

/-- the loop, from a state on -/
noncomputable def g5_l20 (u0 : Option Addr × Nat × Nat) (q11 : Option Addr × Nat × Nat) (q14 : Option Addr × Nat × Nat) (s : Int) (w : World) : Option (Value × World) :=
  loopM Try.prog 66 5 g5_ann (cAt [1, 1, 1, 1, 1, 1, 1, 0, 1, 0, 0] (bodyOf Try.f5)) [0, 1, 0, 1, 1, 1, 1, 1, 1, 1] g5_K40 ((g5_l20_cs u0 q11 q14) ++ sputs [(49, .i .i64)] s) w

/-- behind the loop, left by x0 -/
noncomputable def g5_l20_x0 (q11 : Option Addr × Nat × Nat) (u0 : Option Addr × Nat × Nat) (t41 : Int) (w42 : World) : Option (Value × World) :=
(callF Try.prog 14 #[.slice q11.1 q11.2.1 q11.2.2, .slice u0.1 u0.2.1 u0.2.2] w42).bind fun r43 =>
(asB r43.1).bind fun b44 =>
some (.bool b44, r43.2)

noncomputable def g5 (u0 : Option Addr × Nat × Nat) (w0 : World) : Option (Value × World) :=
(callF Try.prog 10 #[] w0).bind fun r1 =>
(asP r1.1).bind fun p2 =>
(callF Try.prog 17 #[.slice u0.1 u0.2.1 u0.2.2] r1.2).bind fun r3 =>
(asTup 3 r3.1).bind fun l4 =>
(asSl (l4.getD 0 undef)).bind fun q5 =>
(asI .i64 (l4.getD 1 undef)).bind fun n6 =>
(asI .i64 (l4.getD 2 undef)).bind fun n7 =>
(callF Try.prog 12 #[] r3.2).bind fun r8 =>
(asB r8.1).bind fun b9 =>
if (!b9) = true then
(some (.bool false, r8.2))
else
((callB Try.prog .append #[22, 22] 22 #[false, false] #[.slice (some (⟨r8.2.heap.size, 0, none⟩)) 0 0, .slice u0.1 u0.2.1 u0.2.2] (World.alloc r8.2 (.cells #[] 5))).bind fun r10 =>
(asSl r10.1).bind fun q11 =>
(callF Try.prog 18 #[.pointer p2, .slice q11.1 q11.2.1 q11.2.2] r10.2).bind fun r12 =>
(asTup 3 r12.1).bind fun l13 =>
(asSl (l13.getD 0 undef)).bind fun q14 =>
(asI .i64 (l13.getD 1 undef)).bind fun n15 =>
(asI .i64 (l13.getD 2 undef)).bind fun n16 =>
if ((n16 : Int) != n7) = true then
(some (.bool false, r12.2))
else
(if ((n15 : Int) != n6) = true then
(some (.bool false, r12.2))
else
((callF Try.prog 19 #[.slice q14.1 q14.2.1 q14.2.2, .slice q5.1 q5.2.1 q5.2.2] r12.2).bind fun r17 =>
(asB r17.1).bind fun b18 =>
if (!b18) = true then
(some (.bool false, r17.2))
else
(g5_l20 u0 q11 q14 0 r17.2))))

theorem g5_eq (u0 : Option Addr × Nat × Nat) (w0 : World) : evFn Try.prog 5 g5_ann #[.slice u0.1 u0.2.1 u0.2.2] w0 = g5 u0 w0 := by kernel_rfl

theorem g5_call {u0 : Option Addr × Nat × Nat} {w0 : World} {r : Value × World} (h : g5 u0 w0 = some r) : callF Try.prog 5 #[.slice u0.1 u0.2.1 u0.2.2] w0 = some r :=
  callF_of_evFn (ann := g5_ann) Try.call5 (by kernel_rfl) ((g5_eq u0 w0).trans h)

theorem g5_l27_x2_of {u0 : Option Addr × Nat × Nat} {q11 : Option Addr × Nat × Nat} {q25 : Option Addr × Nat × Nat} {q14 : Option Addr × Nat × Nat} {s21 : Int} {s t : Int} {w w' : World} (h : loopS (g5_l27_b q25 u0 q11 q14 s21) s w = some (.exit 2, t, w')) : g5_l27 u0 q11 q25 q14 s21 s w = g5_l27_x2 s21 t w' := by
  have h1 : g5_l27 u0 q11 q25 q14 s21 s w = loopM Try.prog 66 5 g5_ann (cAt [1, 1, 1, 1, 1, 1, 1, 0, 1, 0, 0, 1, 1, 0, 0, 1, 1, 0, 0] (bodyOf Try.f5)) [0, 1, 1, 0, 0, 1, 1, 0, 0, 1, 0, 1, 1, 1, 1, 1, 1, 1] (g5_K35 u0 q11 q14) ((g5_l27_cs u0 q11 q25 q14 s21) ++ sputs [(55, .i .i64)] s) w := by kernel_rfl
  have h2 : loopM Try.prog 66 5 g5_ann (cAt [1, 1, 1, 1, 1, 1, 1, 0, 1, 0, 0, 1, 1, 0, 0, 1, 1, 0, 0] (bodyOf Try.f5)) [0, 1, 1, 0, 0, 1, 1, 0, 0, 1, 0, 1, 1, 1, 1, 1, 1, 1] (g5_K35 u0 q11 q14) ((g5_l27_cs u0 q11 q25 q14 s21) ++ sputs [(55, .i .i64)] s) w = (g5_K35 u0 q11 q14) (.exit 2) (puts 66 ((g5_l27_cs u0 q11 q25 q14 s21) ++ sputs [(55, .i .i64)] t)) w' :=
    loop_rule (P := Try.prog) (N := 66) (f := 5) (ann := g5_ann) (body := (cAt [1, 1, 1, 1, 1, 1, 1, 0, 1, 0, 0, 1, 1, 0, 0, 1, 1, 0, 0] (bodyOf Try.f5))) (pt := [0, 1, 1, 0, 0, 1, 1, 0, 0, 1, 0, 1, 1, 1, 1, 1, 1, 1]) (K := (g5_K35 u0 q11 q14)) (g5_l27_cs u0 q11 q25 q14 s21) [(55, .i .i64)] (b := g5_l27_b q25 u0 q11 q14 s21) (fun s w => by kernel_rfl) (by kernel_rfl) (by kernel_rfl) (by kernel_rfl) h
  have h3 : (g5_K35 u0 q11 q14) (.exit 2) (puts 66 ((g5_l27_cs u0 q11 q25 q14 s21) ++ sputs [(55, .i .i64)] t)) w' = g5_l27_x2 s21 t w' := by kernel_rfl
  exact h1.trans (h2.trans h3)

theorem g5_l20_x0_of {u0 : Option Addr × Nat × Nat} {q11 : Option Addr × Nat × Nat} {q14 : Option Addr × Nat × Nat} {s t : Int} {w w' : World} (h : loopS (g5_l20_b q14 u0 q11) s w = some (.exit 0, t, w')) : g5_l20 u0 q11 q14 s w = g5_l20_x0 q11 u0 t w' := by
  have h1 : g5_l20 u0 q11 q14 s w = loopM Try.prog 66 5 g5_ann (cAt [1, 1, 1, 1, 1, 1, 1, 0, 1, 0, 0] (bodyOf Try.f5)) [0, 1, 0, 1, 1, 1, 1, 1, 1, 1] g5_K40 ((g5_l20_cs u0 q11 q14) ++ sputs [(49, .i .i64)] s) w := by kernel_rfl
  have h2 : loopM Try.prog 66 5 g5_ann (cAt [1, 1, 1, 1, 1, 1, 1, 0, 1, 0, 0] (bodyOf Try.f5)) [0, 1, 0, 1, 1, 1, 1, 1, 1, 1] g5_K40 ((g5_l20_cs u0 q11 q14) ++ sputs [(49, .i .i64)] s) w = g5_K40 (.exit 0) (puts 66 ((g5_l20_cs u0 q11 q14) ++ sputs [(49, .i .i64)] t)) w' :=
    loop_rule (P := Try.prog) (N := 66) (f := 5) (ann := g5_ann) (body := (cAt [1, 1, 1, 1, 1, 1, 1, 0, 1, 0, 0] (bodyOf Try.f5))) (pt := [0, 1, 0, 1, 1, 1, 1, 1, 1, 1]) (K := g5_K40) (g5_l20_cs u0 q11 q14) [(49, .i .i64)] (b := g5_l20_b q14 u0 q11) (fun s w => by kernel_rfl) (by kernel_rfl) (by kernel_rfl) (by kernel_rfl) h
  have h3 : g5_K40 (.exit 0) (puts 66 ((g5_l20_cs u0 q11 q14) ++ sputs [(49, .i .i64)] t)) w' = g5_l20_x0 q11 u0 t w' := by kernel_rfl
  exact h1.trans (h2.trans h3)

/-! 6: penstock/penstocklaw04.FrameBack (l: [][]uint8, more: []uint8) -/
def g6_ann : List (List Nat × List Nat) := [([0, 1, 0, 1, 1, 1, 1, 1], [0, 1, 5, 6, 32, 33, 4, 8, 34])]

def g6_l14_cs (u0 : Option Addr × Nat × Nat) (u1 : Option Addr × Nat × Nat) (p2 : Option Addr) (q5 : Option Addr × Nat × Nat) : List (Nat × Value) := ([(0, .slice u0.1 u0.2.1 u0.2.2), (1, .slice u1.1 u1.2.1 u1.2.2), (5, .pointer p2), (6, .slice q5.1 q5.2.1 q5.2.2), (32, .slice u0.1 u0.2.1 u0.2.2), (33, .int .i64 (u0.2.1 : Int))] : List (Nat × Value))

/-- the round of a loop (penstock/penstocklaw04.FrameBack) -/
noncomputable def g6_l14_b (u0 : Option Addr × Nat × Nat) (p2 : Option Addr) (u1 : Option Addr × Nat × Nat) (q5 : Option Addr × Nat × Nat) (s15 : Bool × (Option Addr × Nat × Nat) × Int) (w16 : World) : Option (Exit × (Bool × (Option Addr × Nat × Nat) × Int) × World) :=
if (decide ((s15.2.2 : Int) < (u0.2.1 : Int))) = true then
((idxA u0.1 u0.2.1 1 s15.2.2).bind fun a17 =>
(World.cell? w16 a17).bind fun v18 =>
(asSl v18).bind fun q19 =>
(callF Try.prog 13 #[.pointer p2, .slice q19.1 q19.2.1 q19.2.2] w16).bind fun r20 =>
(asTup 2 r20.1).bind fun l21 =>
(asSl (l21.getD 0 undef)).bind fun q22 =>
(asI .i64 (l21.getD 1 undef)).bind fun n23 =>
if ((n23 : Int) != 0) = true then
(some (.ret, (false, (s15.2.1.1, s15.2.1.2.1, s15.2.1.2.2), s15.2.2), r20.2))
else
((callB Try.prog .append #[22, 22] 22 #[false, false] #[.slice s15.2.1.1 s15.2.1.2.1 s15.2.1.2.2, .slice q22.1 q22.2.1 q22.2.2] r20.2).bind fun r24 =>
(asSl r24.1).bind fun q25 =>
some (.normal, (s15.1, (q25.1, q25.2.1, q25.2.2), (IntKind.i64.wrap (s15.2.2 + 1))), r24.2)))
else
(some ((.exit 0), (s15.1, (s15.2.1.1, s15.2.1.2.1, s15.2.1.2.2), s15.2.2), w16))

noncomputable def g6_K26  : Exit → Env → World → Option (Value × World) :=
  retK Try.prog Try.f6.results.toList

noncomputable def g6_K27  : Exit → Env → World → Option (Value × World) :=
  seqK (ev Try.prog 106 6 g6_ann (cAt [1, 1, 1, 1, 1, 1] (bodyOf Try.f6)) [1, 1, 1, 1, 1, 1] g6_K26) g6_K26

noncomputable def g6_K28  : Exit → Env → World → Option (Value × World) :=
  blkK 0 g6_K27

/-- the loop, from a state on -/
noncomputable def g6_l14 (u0 : Option Addr × Nat × Nat) (u1 : Option Addr × Nat × Nat) (p2 : Option Addr) (q5 : Option Addr × Nat × Nat) (s : Bool × (Option Addr × Nat × Nat) × Int) (w : World) : Option (Value × World) :=
  loopM Try.prog 106 6 g6_ann (cAt [1, 1, 1, 1, 1, 0, 1, 0, 0] (bodyOf Try.f6)) [0, 1, 0, 1, 1, 1, 1, 1] g6_K28 ((g6_l14_cs u0 u1 p2 q5) ++ sputs [(4, .b), (8, .sl), (34, .i .i64)] s) w

/-- behind the loop, left by x0 -/
noncomputable def g6_l14_x0 (p2 : Option Addr) (u1 : Option Addr × Nat × Nat) (q5 : Option Addr × Nat × Nat) (u0 : Option Addr × Nat × Nat) (t29 : Bool × (Option Addr × Nat × Nat) × Int) (w30 : World) : Option (Value × World) :=
(callF Try.prog 18 #[.pointer p2, .slice t29.2.1.1 t29.2.1.2.1 t29.2.1.2.2] w30).bind fun r31 =>
(asTup 3 r31.1).bind fun l32 =>
(asSl (l32.getD 0 undef)).bind fun q33 =>
(asI .i64 (l32.getD 1 undef)).bind fun n34 =>
(asI .i64 (l32.getD 2 undef)).bind fun n35 =>
(callB Try.prog .append #[22, 22] 22 #[false, false] #[.slice (some (⟨r31.2.heap.size, 0, none⟩)) 0 0, .slice t29.2.1.1 t29.2.1.2.1 t29.2.1.2.2] (World.alloc r31.2 (.cells #[] 5))).bind fun r36 =>
(asSl r36.1).bind fun q37 =>
(callB Try.prog .append #[22, 22] 22 #[false, false] #[.slice q37.1 q37.2.1 q37.2.2, .slice u1.1 u1.2.1 u1.2.2] r36.2).bind fun r38 =>
(asSl r38.1).bind fun q39 =>
(callF Try.prog 18 #[.pointer p2, .slice q39.1 q39.2.1 q39.2.2] r38.2).bind fun r40 =>
(asTup 3 r40.1).bind fun l41 =>
(asSl (l41.getD 0 undef)).bind fun q42 =>
(asI .i64 (l41.getD 1 undef)).bind fun n43 =>
(asI .i64 (l41.getD 2 undef)).bind fun n44 =>
(callF Try.prog 14 #[.slice t29.2.1.1 t29.2.1.2.1 t29.2.1.2.2, .slice q5.1 q5.2.1 q5.2.2] r40.2).bind fun r45 =>
(asB r45.1).bind fun b46 =>
if b46 = true then
(if ((n35 : Int) == 0) = true then
(if ((n34 : Int) == (q5.2.1 : Int)) = true then
((callF Try.prog 19 #[.slice q33.1 q33.2.1 q33.2.2, .slice u0.1 u0.2.1 u0.2.2] r45.2).bind fun r48 =>
(asB r48.1).bind fun b49 =>
if b49 = true then
(if (decide ((n43 : Int) ≥ n34)) = true then
(if (decide (((q42.2.1 : Int) : Int) ≥ (u0.2.1 : Int))) = true then
((slc q42.1 q42.2.1 q42.2.2 1 none (some (u0.2.1 : Int)) none).bind fun q53 =>
(callF Try.prog 19 #[.slice q53.1 q53.2.1 q53.2.2, .slice u0.1 u0.2.1 u0.2.2] r48.2).bind fun r54 =>
(asB r54.1).bind fun b55 =>
some (.bool b55, r54.2))
else
(some (.bool false, r48.2)))
else
(some (.bool false, r48.2)))
else
(some (.bool false, r48.2)))
else
(some (.bool false, r45.2)))
else
(some (.bool false, r45.2)))
else
(some (.bool false, r45.2))

/-- behind the loop, left by ret -/
noncomputable def g6_l14_ret  (t56 : Bool × (Option Addr × Nat × Nat) × Int) (w57 : World) : Option (Value × World) :=
some (.bool t56.1, w57)

noncomputable def g6 (u0 : Option Addr × Nat × Nat) (u1 : Option Addr × Nat × Nat) (w0 : World) : Option (Value × World) :=
(callF Try.prog 10 #[] w0).bind fun r1 =>
(asP r1.1).bind fun p2 =>
(callF Try.prog 20 #[.slice u0.1 u0.2.1 u0.2.2] r1.2).bind fun r3 =>
(asTup 2 r3.1).bind fun l4 =>
(asSl (l4.getD 0 undef)).bind fun q5 =>
(asB (l4.getD 1 undef)).bind fun b6 =>
(callF Try.prog 12 #[] r3.2).bind fun r7 =>
(asB r7.1).bind fun b8 =>
if (!b8) = true then
((callF Try.prog 12 #[] r7.2).bind fun r9 =>
(asB r9.1).bind fun b10 =>
some (.bool b10, r9.2))
else
(if (!b6) = true then
((callF Try.prog 12 #[] r7.2).bind fun r11 =>
(asB r11.1).bind fun b12 =>
some (.bool b12, r11.2))
else
(g6_l14 u0 u1 p2 q5 (false, (none, 0, 0), 0) r7.2))

theorem g6_eq (u0 : Option Addr × Nat × Nat) (u1 : Option Addr × Nat × Nat) (w0 : World) : evFn Try.prog 6 g6_ann #[.slice u0.1 u0.2.1 u0.2.2, .slice u1.1 u1.2.1 u1.2.2] w0 = g6 u0 u1 w0 := by kernel_rfl

theorem g6_call {u0 : Option Addr × Nat × Nat} {u1 : Option Addr × Nat × Nat} {w0 : World} {r : Value × World} (h : g6 u0 u1 w0 = some r) : callF Try.prog 6 #[.slice u0.1 u0.2.1 u0.2.2, .slice u1.1 u1.2.1 u1.2.2] w0 = some r :=
  callF_of_evFn (ann := g6_ann) Try.call6 (by kernel_rfl) ((g6_eq u0 u1 w0).trans h)

theorem g6_l14_x0_of {u0 : Option Addr × Nat × Nat} {u1 : Option Addr × Nat × Nat} {p2 : Option Addr} {q5 : Option Addr × Nat × Nat} {s t : Bool × (Option Addr × Nat × Nat) × Int} {w w' : World} (h : loopS (g6_l14_b u0 p2 u1 q5) s w = some (.exit 0, t, w')) : g6_l14 u0 u1 p2 q5 s w = g6_l14_x0 p2 u1 q5 u0 t w' := by
  have h1 : g6_l14 u0 u1 p2 q5 s w = loopM Try.prog 106 6 g6_ann (cAt [1, 1, 1, 1, 1, 0, 1, 0, 0] (bodyOf Try.f6)) [0, 1, 0, 1, 1, 1, 1, 1] g6_K28 ((g6_l14_cs u0 u1 p2 q5) ++ sputs [(4, .b), (8, .sl), (34, .i .i64)] s) w := by kernel_rfl
  have h2 : loopM Try.prog 106 6 g6_ann (cAt [1, 1, 1, 1, 1, 0, 1, 0, 0] (bodyOf Try.f6)) [0, 1, 0, 1, 1, 1, 1, 1] g6_K28 ((g6_l14_cs u0 u1 p2 q5) ++ sputs [(4, .b), (8, .sl), (34, .i .i64)] s) w = g6_K28 (.exit 0) (puts 106 ((g6_l14_cs u0 u1 p2 q5) ++ sputs [(4, .b), (8, .sl), (34, .i .i64)] t)) w' :=
    loop_rule (P := Try.prog) (N := 106) (f := 6) (ann := g6_ann) (body := (cAt [1, 1, 1, 1, 1, 0, 1, 0, 0] (bodyOf Try.f6))) (pt := [0, 1, 0, 1, 1, 1, 1, 1]) (K := g6_K28) (g6_l14_cs u0 u1 p2 q5) [(4, .b), (8, .sl), (34, .i .i64)] (b := g6_l14_b u0 p2 u1 q5) (fun s w => by kernel_rfl) (by kernel_rfl) (by kernel_rfl) (by kernel_rfl) h
  have h3 : g6_K28 (.exit 0) (puts 106 ((g6_l14_cs u0 u1 p2 q5) ++ sputs [(4, .b), (8, .sl), (34, .i .i64)] t)) w' = g6_l14_x0 p2 u1 q5 u0 t w' := by kernel_rfl
  exact h1.trans (h2.trans h3)

theorem g6_l14_ret_of {u0 : Option Addr × Nat × Nat} {u1 : Option Addr × Nat × Nat} {p2 : Option Addr} {q5 : Option Addr × Nat × Nat} {s t : Bool × (Option Addr × Nat × Nat) × Int} {w w' : World} (h : loopS (g6_l14_b u0 p2 u1 q5) s w = some (.ret, t, w')) : g6_l14 u0 u1 p2 q5 s w = g6_l14_ret t w' := by
  have h1 : g6_l14 u0 u1 p2 q5 s w = loopM Try.prog 106 6 g6_ann (cAt [1, 1, 1, 1, 1, 0, 1, 0, 0] (bodyOf Try.f6)) [0, 1, 0, 1, 1, 1, 1, 1] g6_K28 ((g6_l14_cs u0 u1 p2 q5) ++ sputs [(4, .b), (8, .sl), (34, .i .i64)] s) w := by kernel_rfl
  have h2 : loopM Try.prog 106 6 g6_ann (cAt [1, 1, 1, 1, 1, 0, 1, 0, 0] (bodyOf Try.f6)) [0, 1, 0, 1, 1, 1, 1, 1] g6_K28 ((g6_l14_cs u0 u1 p2 q5) ++ sputs [(4, .b), (8, .sl), (34, .i .i64)] s) w = g6_K28 (.ret) (puts 106 ((g6_l14_cs u0 u1 p2 q5) ++ sputs [(4, .b), (8, .sl), (34, .i .i64)] t)) w' :=
    loop_rule (P := Try.prog) (N := 106) (f := 6) (ann := g6_ann) (body := (cAt [1, 1, 1, 1, 1, 0, 1, 0, 0] (bodyOf Try.f6))) (pt := [0, 1, 0, 1, 1, 1, 1, 1]) (K := g6_K28) (g6_l14_cs u0 u1 p2 q5) [(4, .b), (8, .sl), (34, .i .i64)] (b := g6_l14_b u0 p2 u1 q5) (fun s w => by kernel_rfl) (by kernel_rfl) (by kernel_rfl) (by kernel_rfl) h
  have h3 : g6_K28 (.ret) (puts 106 ((g6_l14_cs u0 u1 p2 q5) ++ sputs [(4, .b), (8, .sl), (34, .i .i64)] t)) w' = g6_l14_ret t w' := by kernel_rfl
  exact h1.trans (h2.trans h3)

/-! 7: penstock/penstocklaw04.FrameTorn (l: [][]uint8, at: uint16) -/
def g7_ann : List (List Nat × List Nat) := [([0, 1, 0, 1, 1, 1, 1, 1, 1, 1], [0, 8, 9, 10, 11, 50, 51, 12, 13, 52])]

def g7_l26_cs (u0 : Option Addr × Nat × Nat) (u1 : Int) (q5 : Option Addr × Nat × Nat) (q22 : Option Addr × Nat × Nat) (n23 : Int) (n24 : Int) : List (Nat × Value) := ([(0, .slice u0.1 u0.2.1 u0.2.2), (8, .int .i64 (Int.tmod (IntKind.i64.wrap u1) (q5.2.1 : Int))), (9, .slice q22.1 q22.2.1 q22.2.2), (10, .int .i64 n23), (11, .int .i64 n24), (50, .slice u0.1 u0.2.1 u0.2.2), (51, .int .i64 (u0.2.1 : Int))] : List (Nat × Value))

/-- the round of a loop (penstock/penstocklaw04.FrameTorn) -/
noncomputable def g7_l26_b (u0 : Option Addr × Nat × Nat) (u1 : Int) (q5 : Option Addr × Nat × Nat) (q22 : Option Addr × Nat × Nat) (n23 : Int) (n24 : Int) (s27 : Int × Int × Int) (w28 : World) : Option (Exit × (Int × Int × Int) × World) :=
if (decide ((s27.2.2 : Int) < (u0.2.1 : Int))) = true then
((idxA u0.1 u0.2.1 1 s27.2.2).bind fun a29 =>
(World.cell? w28 a29).bind fun v30 =>
(asSl v30).bind fun q31 =>
if (decide (((IntKind.i64.wrap ((IntKind.i64.wrap (s27.2.1 + 8)) + (q31.2.1 : Int))) : Int) > (Int.tmod (IntKind.i64.wrap u1) (q5.2.1 : Int)))) = true then
(some ((.exit 0), (s27.1, s27.2.1, s27.2.2), w28))
else
(some (.normal, ((IntKind.i64.wrap (s27.1 + 1)), (IntKind.i64.wrap (s27.2.1 + (IntKind.i64.wrap (8 + (q31.2.1 : Int))))), (IntKind.i64.wrap (s27.2.2 + 1))), w28)))
else
(some ((.exit 0), (s27.1, s27.2.1, s27.2.2), w28))

noncomputable def g7_K34  : Exit → Env → World → Option (Value × World) :=
  retK Try.prog Try.f7.results.toList

noncomputable def g7_K35  : Exit → Env → World → Option (Value × World) :=
  seqK (ev Try.prog 97 7 g7_ann (cAt [1, 1, 1, 1, 1, 1, 1, 1] (bodyOf Try.f7)) [1, 1, 1, 1, 1, 1, 1, 1] g7_K34) g7_K34

noncomputable def g7_K36  : Exit → Env → World → Option (Value × World) :=
  blkK 0 g7_K35

/-- the loop, from a state on -/
noncomputable def g7_l26 (u0 : Option Addr × Nat × Nat) (u1 : Int) (q5 : Option Addr × Nat × Nat) (q22 : Option Addr × Nat × Nat) (n23 : Int) (n24 : Int) (s : Int × Int × Int) (w : World) : Option (Value × World) :=
  loopM Try.prog 97 7 g7_ann (cAt [1, 1, 1, 1, 1, 1, 1, 0, 1, 0, 0] (bodyOf Try.f7)) [0, 1, 0, 1, 1, 1, 1, 1, 1, 1] g7_K36 ((g7_l26_cs u0 u1 q5 q22 n23 n24) ++ sputs [(12, .i .i64), (13, .i .i64), (52, .i .i64)] s) w

/-- behind the loop, left by x0 -/
noncomputable def g7_l26_x0 (u0 : Option Addr × Nat × Nat) (q22 : Option Addr × Nat × Nat) (n23 : Int) (n24 : Int) (u1 : Int) (q5 : Option Addr × Nat × Nat) (t37 : Int × Int × Int) (w38 : World) : Option (Value × World) :=
(slc u0.1 u0.2.1 u0.2.2 1 none (some t37.1) none).bind fun q39 =>
(callF Try.prog 19 #[.slice q22.1 q22.2.1 q22.2.2, .slice q39.1 q39.2.1 q39.2.2] w38).bind fun r40 =>
(asB r40.1).bind fun b41 =>
if b41 = true then
(if ((n23 : Int) == t37.2.1) = true then
(if (((n24 : Int) == 0) == ((t37.2.1 : Int) == (Int.tmod (IntKind.i64.wrap u1) (q5.2.1 : Int)))) = true then
(if ((n24 : Int) == 0) = true then
(some (.bool true, r40.2))
else
(some (.bool ((n24 : Int) == 6), r40.2)))
else
(some (.bool false, r40.2)))
else
(some (.bool false, r40.2)))
else
(some (.bool false, r40.2))

noncomputable def g7 (u0 : Option Addr × Nat × Nat) (u1 : Int) (w0 : World) : Option (Value × World) :=
(callF Try.prog 10 #[] w0).bind fun r1 =>
(asP r1.1).bind fun p2 =>
(callF Try.prog 20 #[.slice u0.1 u0.2.1 u0.2.2] r1.2).bind fun r3 =>
(asTup 2 r3.1).bind fun l4 =>
(asSl (l4.getD 0 undef)).bind fun q5 =>
(asB (l4.getD 1 undef)).bind fun b6 =>
(callF Try.prog 12 #[] r3.2).bind fun r7 =>
(asB r7.1).bind fun b8 =>
if (!b8) = true then
((callF Try.prog 12 #[] r7.2).bind fun r9 =>
(asB r9.1).bind fun b10 =>
some (.bool b10, r9.2))
else
(if (!b6) = true then
((callF Try.prog 12 #[] r7.2).bind fun r11 =>
(asB r11.1).bind fun b12 =>
some (.bool b12, r11.2))
else
(if (((q5.2.1 : Int) : Int) == 0) = true then
((callF Try.prog 12 #[] r7.2).bind fun r14 =>
(asB r14.1).bind fun b15 =>
some (.bool b15, r14.2))
else
(if ((q5.2.1 : Int) : Int) = 0 then
(none)
else
((slc q5.1 q5.2.1 q5.2.2 1 none (some (Int.tmod (IntKind.i64.wrap u1) (q5.2.1 : Int))) none).bind fun q17 =>
(callB Try.prog .append #[22, 22] 22 #[false, false] #[.slice (some (⟨r7.2.heap.size, 0, none⟩)) 0 0, .slice q17.1 q17.2.1 q17.2.2] (World.alloc r7.2 (.cells #[] 5))).bind fun r18 =>
(asSl r18.1).bind fun q19 =>
(callF Try.prog 18 #[.pointer p2, .slice q19.1 q19.2.1 q19.2.2] r18.2).bind fun r20 =>
(asTup 3 r20.1).bind fun l21 =>
(asSl (l21.getD 0 undef)).bind fun q22 =>
(asI .i64 (l21.getD 1 undef)).bind fun n23 =>
(asI .i64 (l21.getD 2 undef)).bind fun n24 =>
g7_l26 u0 u1 q5 q22 n23 n24 (0, 0, 0) r20.2))))

theorem g7_eq (u0 : Option Addr × Nat × Nat) (u1 : Int) (w0 : World) : evFn Try.prog 7 g7_ann #[.slice u0.1 u0.2.1 u0.2.2, .int .u16 u1] w0 = g7 u0 u1 w0 := by kernel_rfl

theorem g7_call {u0 : Option Addr × Nat × Nat} {u1 : Int} {w0 : World} {r : Value × World} (h : g7 u0 u1 w0 = some r) : callF Try.prog 7 #[.slice u0.1 u0.2.1 u0.2.2, .int .u16 u1] w0 = some r :=
  callF_of_evFn (ann := g7_ann) Try.call7 (by kernel_rfl) ((g7_eq u0 u1 w0).trans h)

theorem g7_l26_x0_of {u0 : Option Addr × Nat × Nat} {u1 : Int} {q5 : Option Addr × Nat × Nat} {q22 : Option Addr × Nat × Nat} {n23 : Int} {n24 : Int} {s t : Int × Int × Int} {w w' : World} (h : loopS (g7_l26_b u0 u1 q5 q22 n23 n24) s w = some (.exit 0, t, w')) : g7_l26 u0 u1 q5 q22 n23 n24 s w = g7_l26_x0 u0 q22 n23 n24 u1 q5 t w' := by
  have h1 : g7_l26 u0 u1 q5 q22 n23 n24 s w = loopM Try.prog 97 7 g7_ann (cAt [1, 1, 1, 1, 1, 1, 1, 0, 1, 0, 0] (bodyOf Try.f7)) [0, 1, 0, 1, 1, 1, 1, 1, 1, 1] g7_K36 ((g7_l26_cs u0 u1 q5 q22 n23 n24) ++ sputs [(12, .i .i64), (13, .i .i64), (52, .i .i64)] s) w := by kernel_rfl
  have h2 : loopM Try.prog 97 7 g7_ann (cAt [1, 1, 1, 1, 1, 1, 1, 0, 1, 0, 0] (bodyOf Try.f7)) [0, 1, 0, 1, 1, 1, 1, 1, 1, 1] g7_K36 ((g7_l26_cs u0 u1 q5 q22 n23 n24) ++ sputs [(12, .i .i64), (13, .i .i64), (52, .i .i64)] s) w = g7_K36 (.exit 0) (puts 97 ((g7_l26_cs u0 u1 q5 q22 n23 n24) ++ sputs [(12, .i .i64), (13, .i .i64), (52, .i .i64)] t)) w' :=
    loop_rule (P := Try.prog) (N := 97) (f := 7) (ann := g7_ann) (body := (cAt [1, 1, 1, 1, 1, 1, 1, 0, 1, 0, 0] (bodyOf Try.f7))) (pt := [0, 1, 0, 1, 1, 1, 1, 1, 1, 1]) (K := g7_K36) (g7_l26_cs u0 u1 q5 q22 n23 n24) [(12, .i .i64), (13, .i .i64), (52, .i .i64)] (b := g7_l26_b u0 u1 q5 q22 n23 n24) (fun s w => by kernel_rfl) (by kernel_rfl) (by kernel_rfl) (by kernel_rfl) h
  have h3 : g7_K36 (.exit 0) (puts 97 ((g7_l26_cs u0 u1 q5 q22 n23 n24) ++ sputs [(12, .i .i64), (13, .i .i64), (52, .i .i64)] t)) w' = g7_l26_x0 u0 q22 n23 n24 u1 q5 t w' := by kernel_rfl
  exact h1.trans (h2.trans h3)

/-! 8: penstock/penstocklaw04.FrameTurned (l: [][]uint8, which: uint8, at: uint16, by: uint32) -/
def g8_ann : List (List Nat × List Nat) := [([0, 1, 0, 1, 1, 1, 1, 1], [0, 2, 3, 9, 10, 12, 13, 14]), ([0, 1, 0, 1, 1, 1, 1, 1, 1, 1, 1, 1, 1, 1], [0, 3, 9, 12, 13, 16, 18, 19, 20]), ([0, 1, 0, 1, 1, 1, 1, 1, 1, 1, 1, 1, 1, 1], [0, 3, 9, 12, 13, 16, 18, 19, 20]), ([0, 1, 0, 1, 1, 1, 1, 1, 1, 1, 1, 1, 1, 1], [0, 3, 9, 12, 13, 16, 18, 19, 20])]

def g8_l19_cs (u0 : Option Addr × Nat × Nat) (u2 : Int) (u3 : Int) (p2 : Option Addr) (q5 : Option Addr × Nat × Nat) (u1 : Int) : List (Nat × Value) := ([(0, .slice u0.1 u0.2.1 u0.2.2), (2, .int .u16 u2), (3, .int .u32 u3), (9, .pointer p2), (10, .slice q5.1 q5.2.1 q5.2.2), (12, .int .i64 (Int.tmod (IntKind.i64.wrap u1) (u0.2.1 : Int)))] : List (Nat × Value))

/-- the round of a loop (penstock/penstocklaw04.FrameTurned) -/
noncomputable def g8_l19_b (u1 : Int) (u0 : Option Addr × Nat × Nat) (u2 : Int) (u3 : Int) (p2 : Option Addr) (q5 : Option Addr × Nat × Nat) (s20 : Int × Int) (w21 : World) : Option (Exit × (Int × Int) × World) :=
if (decide ((s20.2 : Int) < (Int.tmod (IntKind.i64.wrap u1) (u0.2.1 : Int)))) = true then
((idxA u0.1 u0.2.1 1 s20.2).bind fun a22 =>
(World.cell? w21 a22).bind fun v23 =>
(asSl v23).bind fun q24 =>
some (.normal, ((IntKind.i64.wrap (s20.1 + (IntKind.i64.wrap (8 + (q24.2.1 : Int))))), (IntKind.i64.wrap (s20.2 + 1))), w21))
else
(some ((.exit 0), (s20.1, s20.2), w21))

noncomputable def g8_K26  : Exit → Env → World → Option (Value × World) :=
  retK Try.prog Try.f8.results.toList

noncomputable def g8_K27  : Exit → Env → World → Option (Value × World) :=
  seqK (ev Try.prog 146 8 g8_ann (cAt [1, 1, 1, 1, 1, 1] (bodyOf Try.f8)) [1, 1, 1, 1, 1, 1] g8_K26) g8_K26

noncomputable def g8_K28  : Exit → Env → World → Option (Value × World) :=
  blkK 0 g8_K27

/-- the loop, from a state on -/
noncomputable def g8_l19 (u0 : Option Addr × Nat × Nat) (u2 : Int) (u3 : Int) (p2 : Option Addr) (q5 : Option Addr × Nat × Nat) (u1 : Int) (s : Int × Int) (w : World) : Option (Value × World) :=
  loopM Try.prog 146 8 g8_ann (cAt [1, 1, 1, 1, 1, 0, 1, 0, 0] (bodyOf Try.f8)) [0, 1, 0, 1, 1, 1, 1, 1] g8_K28 ((g8_l19_cs u0 u2 u3 p2 q5 u1) ++ sputs [(13, .i .i64), (14, .i .i64)] s) w

def g8_l38_cs (u0 : Option Addr × Nat × Nat) (u3 : Int) (p2 : Option Addr) (u1 : Int) (t29 : Int × Int) (u2 : Int) (q33 : Option Addr × Nat × Nat) (q37 : Option Addr × Nat × Nat) : List (Nat × Value) := ([(0, .slice u0.1 u0.2.1 u0.2.2), (3, .int .u32 u3), (9, .pointer p2), (12, .int .i64 (Int.tmod (IntKind.i64.wrap u1) (u0.2.1 : Int))), (13, .int .i64 t29.1), (16, .int .i64 (IntKind.i64.wrap (t29.1 + 8))), (18, .int .i64 (Int.tmod (IntKind.i64.wrap u2) (IntKind.i64.wrap ((IntKind.i64.wrap (8 * (q33.2.1 : Int))) - 31)))), (19, .slice q37.1 q37.2.1 q37.2.2)] : List (Nat × Value))

/-- the round of a loop (penstock/penstocklaw04.FrameTurned) -/
noncomputable def g8_l38_b (u3 : Int) (q37 : Option Addr × Nat × Nat) (t29 : Int × Int) (u2 : Int) (q33 : Option Addr × Nat × Nat) (u0 : Option Addr × Nat × Nat) (p2 : Option Addr) (u1 : Int) (s39 : Int) (w40 : World) : Option (Exit × (Int) × World) :=
if (decide ((s39 : Int) < 32)) = true then
(if ((IntKind.u64.wrap s39) : Int) < 0 then
(none)
else
(if (((IntKind.u32.wrap ((BitVec.ofInt 32 (Int.fdiv u3 (2 ^ (min (Int.toNat (IntKind.u64.wrap s39)) 32))) &&& BitVec.ofInt 32 1).toNat : Nat)) : Int) == 1) = true then
((idxA q37.1 q37.2.1 1 (IntKind.i64.wrap ((IntKind.i64.wrap (t29.1 + 8)) + (IntKind.i64.wrap (Int.tdiv (IntKind.i64.wrap ((Int.tmod (IntKind.i64.wrap u2) (IntKind.i64.wrap ((IntKind.i64.wrap (8 * (q33.2.1 : Int))) - 31))) + s39)) 8))))).bind fun a41 =>
(World.cell? w40 a41).bind fun v42 =>
(asI .u8 v42).bind fun n43 =>
if ((IntKind.u64.wrap (Int.tmod (IntKind.i64.wrap ((Int.tmod (IntKind.i64.wrap u2) (IntKind.i64.wrap ((IntKind.i64.wrap (8 * (q33.2.1 : Int))) - 31))) + s39)) 8)) : Int) < 0 then
(none)
else
((idxA q37.1 q37.2.1 1 (IntKind.i64.wrap ((IntKind.i64.wrap (t29.1 + 8)) + (IntKind.i64.wrap (Int.tdiv (IntKind.i64.wrap ((Int.tmod (IntKind.i64.wrap u2) (IntKind.i64.wrap ((IntKind.i64.wrap (8 * (q33.2.1 : Int))) - 31))) + s39)) 8))))).bind fun a44 =>
(st1 w40 a44 (.int .u8 (IntKind.u8.wrap ((BitVec.ofInt 8 n43 ^^^ BitVec.ofInt 8 (IntKind.u8.wrap (1 * 2 ^ (min (Int.toNat (IntKind.u64.wrap (Int.tmod (IntKind.i64.wrap ((Int.tmod (IntKind.i64.wrap u2) (IntKind.i64.wrap ((IntKind.i64.wrap (8 * (q33.2.1 : Int))) - 31))) + s39)) 8))) 8)))).toNat : Nat)))).bind fun w45 =>
some (.normal, (IntKind.i64.wrap (s39 + 1)), w45)))
else
(some (.normal, (IntKind.i64.wrap (s39 + 1)), w40))))
else
(some ((.exit 2), s39, w40))

noncomputable def g8_K46  : Exit → Env → World → Option (Value × World) :=
  seqK (ev Try.prog 146 8 g8_ann (cAt [1, 1, 1, 1, 1, 1, 1, 1, 1, 1, 1, 1] (bodyOf Try.f8)) [1, 1, 1, 1, 1, 1, 1, 1, 1, 1, 1, 1] g8_K26) g8_K26

noncomputable def g8_K47  : Exit → Env → World → Option (Value × World) :=
  blkK 2 g8_K46

/-- the loop, from a state on -/
noncomputable def g8_l38 (u0 : Option Addr × Nat × Nat) (u3 : Int) (p2 : Option Addr) (u1 : Int) (t29 : Int × Int) (u2 : Int) (q33 : Option Addr × Nat × Nat) (q37 : Option Addr × Nat × Nat) (s : Int) (w : World) : Option (Value × World) :=
  loopM Try.prog 146 8 g8_ann (cAt [1, 1, 1, 1, 1, 1, 1, 1, 1, 1, 1, 0, 1, 0, 0] (bodyOf Try.f8)) [0, 1, 0, 1, 1, 1, 1, 1, 1, 1, 1, 1, 1, 1] g8_K47 ((g8_l38_cs u0 u3 p2 u1 t29 u2 q33 q37) ++ sputs [(20, .i .i64)] s) w

/-- behind the loop, left by x2 -/
noncomputable def g8_l38_x2 (p2 : Option Addr) (q37 : Option Addr × Nat × Nat) (t29 : Int × Int) (u0 : Option Addr × Nat × Nat) (u1 : Int) (t48 : Int) (w49 : World) : Option (Value × World) :=
(callF Try.prog 18 #[.pointer p2, .slice q37.1 q37.2.1 q37.2.2] w49).bind fun r50 =>
(asTup 3 r50.1).bind fun l51 =>
(asSl (l51.getD 0 undef)).bind fun q52 =>
(asI .i64 (l51.getD 1 undef)).bind fun n53 =>
(asI .i64 (l51.getD 2 undef)).bind fun n54 =>
if ((n54 : Int) == 8) = true then
(if ((n53 : Int) == t29.1) = true then
((slc u0.1 u0.2.1 u0.2.2 1 none (some (Int.tmod (IntKind.i64.wrap u1) (u0.2.1 : Int))) none).bind fun q55 =>
(callF Try.prog 19 #[.slice q52.1 q52.2.1 q52.2.2, .slice q55.1 q55.2.1 q55.2.2] r50.2).bind fun r56 =>
(asB r56.1).bind fun b57 =>
some (.bool b57, r56.2))
else
(some (.bool false, r50.2)))
else
(some (.bool false, r50.2))

def g8_l60_cs (u0 : Option Addr × Nat × Nat) (u3 : Int) (p2 : Option Addr) (u1 : Int) (t29 : Int × Int) (u2 : Int) (q59 : Option Addr × Nat × Nat) : List (Nat × Value) := ([(0, .slice u0.1 u0.2.1 u0.2.2), (3, .int .u32 u3), (9, .pointer p2), (12, .int .i64 (Int.tmod (IntKind.i64.wrap u1) (u0.2.1 : Int))), (13, .int .i64 t29.1), (16, .int .i64 (IntKind.i64.wrap (t29.1 + 4))), (18, .int .i64 (Int.tmod (IntKind.i64.wrap u2) (IntKind.i64.wrap ((IntKind.i64.wrap (8 * 4)) - 31)))), (19, .slice q59.1 q59.2.1 q59.2.2)] : List (Nat × Value))

/-- the round of a loop (penstock/penstocklaw04.FrameTurned) -/
noncomputable def g8_l60_b (u3 : Int) (q59 : Option Addr × Nat × Nat) (t29 : Int × Int) (u2 : Int) (u0 : Option Addr × Nat × Nat) (p2 : Option Addr) (u1 : Int) (s61 : Int) (w62 : World) : Option (Exit × (Int) × World) :=
if (decide ((s61 : Int) < 32)) = true then
(if ((IntKind.u64.wrap s61) : Int) < 0 then
(none)
else
(if (((IntKind.u32.wrap ((BitVec.ofInt 32 (Int.fdiv u3 (2 ^ (min (Int.toNat (IntKind.u64.wrap s61)) 32))) &&& BitVec.ofInt 32 1).toNat : Nat)) : Int) == 1) = true then
((idxA q59.1 q59.2.1 1 (IntKind.i64.wrap ((IntKind.i64.wrap (t29.1 + 4)) + (IntKind.i64.wrap (Int.tdiv (IntKind.i64.wrap ((Int.tmod (IntKind.i64.wrap u2) (IntKind.i64.wrap ((IntKind.i64.wrap (8 * 4)) - 31))) + s61)) 8))))).bind fun a63 =>
(World.cell? w62 a63).bind fun v64 =>
(asI .u8 v64).bind fun n65 =>
if ((IntKind.u64.wrap (Int.tmod (IntKind.i64.wrap ((Int.tmod (IntKind.i64.wrap u2) (IntKind.i64.wrap ((IntKind.i64.wrap (8 * 4)) - 31))) + s61)) 8)) : Int) < 0 then
(none)
else
((idxA q59.1 q59.2.1 1 (IntKind.i64.wrap ((IntKind.i64.wrap (t29.1 + 4)) + (IntKind.i64.wrap (Int.tdiv (IntKind.i64.wrap ((Int.tmod (IntKind.i64.wrap u2) (IntKind.i64.wrap ((IntKind.i64.wrap (8 * 4)) - 31))) + s61)) 8))))).bind fun a66 =>
(st1 w62 a66 (.int .u8 (IntKind.u8.wrap ((BitVec.ofInt 8 n65 ^^^ BitVec.ofInt 8 (IntKind.u8.wrap (1 * 2 ^ (min (Int.toNat (IntKind.u64.wrap (Int.tmod (IntKind.i64.wrap ((Int.tmod (IntKind.i64.wrap u2) (IntKind.i64.wrap ((IntKind.i64.wrap (8 * 4)) - 31))) + s61)) 8))) 8)))).toNat : Nat)))).bind fun w67 =>
some (.normal, (IntKind.i64.wrap (s61 + 1)), w67)))
else
(some (.normal, (IntKind.i64.wrap (s61 + 1)), w62))))
else
(some ((.exit 2), s61, w62))

noncomputable def g8_K68  : Exit → Env → World → Option (Value × World) :=
  seqK (ev Try.prog 146 8 g8_ann (cAt [1, 1, 1, 1, 1, 1, 1, 1, 1, 1, 1, 1] (bodyOf Try.f8)) [1, 1, 1, 1, 1, 1, 1, 1, 1, 1, 1, 1] g8_K26) g8_K26

noncomputable def g8_K69  : Exit → Env → World → Option (Value × World) :=
  blkK 2 g8_K68

/-- the loop, from a state on -/
noncomputable def g8_l60 (u0 : Option Addr × Nat × Nat) (u3 : Int) (p2 : Option Addr) (u1 : Int) (t29 : Int × Int) (u2 : Int) (q59 : Option Addr × Nat × Nat) (s : Int) (w : World) : Option (Value × World) :=
  loopM Try.prog 146 8 g8_ann (cAt [1, 1, 1, 1, 1, 1, 1, 1, 1, 1, 1, 0, 1, 0, 0] (bodyOf Try.f8)) [0, 1, 0, 1, 1, 1, 1, 1, 1, 1, 1, 1, 1, 1] g8_K69 ((g8_l60_cs u0 u3 p2 u1 t29 u2 q59) ++ sputs [(20, .i .i64)] s) w

/-- behind the loop, left by x2 -/
noncomputable def g8_l60_x2 (p2 : Option Addr) (q59 : Option Addr × Nat × Nat) (t29 : Int × Int) (u0 : Option Addr × Nat × Nat) (u1 : Int) (t70 : Int) (w71 : World) : Option (Value × World) :=
(callF Try.prog 18 #[.pointer p2, .slice q59.1 q59.2.1 q59.2.2] w71).bind fun r72 =>
(asTup 3 r72.1).bind fun l73 =>
(asSl (l73.getD 0 undef)).bind fun q74 =>
(asI .i64 (l73.getD 1 undef)).bind fun n75 =>
(asI .i64 (l73.getD 2 undef)).bind fun n76 =>
if ((n76 : Int) == 8) = true then
(if ((n75 : Int) == t29.1) = true then
((slc u0.1 u0.2.1 u0.2.2 1 none (some (Int.tmod (IntKind.i64.wrap u1) (u0.2.1 : Int))) none).bind fun q77 =>
(callF Try.prog 19 #[.slice q74.1 q74.2.1 q74.2.2, .slice q77.1 q77.2.1 q77.2.2] r72.2).bind fun r78 =>
(asB r78.1).bind fun b79 =>
some (.bool b79, r78.2))
else
(some (.bool false, r72.2)))
else
(some (.bool false, r72.2))

def g8_l82_cs (u0 : Option Addr × Nat × Nat) (u3 : Int) (p2 : Option Addr) (u1 : Int) (t29 : Int × Int) (u2 : Int) (q81 : Option Addr × Nat × Nat) : List (Nat × Value) := ([(0, .slice u0.1 u0.2.1 u0.2.2), (3, .int .u32 u3), (9, .pointer p2), (12, .int .i64 (Int.tmod (IntKind.i64.wrap u1) (u0.2.1 : Int))), (13, .int .i64 t29.1), (16, .int .i64 (IntKind.i64.wrap (t29.1 + 4))), (18, .int .i64 (Int.tmod (IntKind.i64.wrap u2) (IntKind.i64.wrap ((IntKind.i64.wrap (8 * 4)) - 31)))), (19, .slice q81.1 q81.2.1 q81.2.2)] : List (Nat × Value))

/-- the round of a loop (penstock/penstocklaw04.FrameTurned) -/
noncomputable def g8_l82_b (u3 : Int) (q81 : Option Addr × Nat × Nat) (t29 : Int × Int) (u2 : Int) (u0 : Option Addr × Nat × Nat) (p2 : Option Addr) (u1 : Int) (s83 : Int) (w84 : World) : Option (Exit × (Int) × World) :=
if (decide ((s83 : Int) < 32)) = true then
(if ((IntKind.u64.wrap s83) : Int) < 0 then
(none)
else
(if (((IntKind.u32.wrap ((BitVec.ofInt 32 (Int.fdiv u3 (2 ^ (min (Int.toNat (IntKind.u64.wrap s83)) 32))) &&& BitVec.ofInt 32 1).toNat : Nat)) : Int) == 1) = true then
((idxA q81.1 q81.2.1 1 (IntKind.i64.wrap ((IntKind.i64.wrap (t29.1 + 4)) + (IntKind.i64.wrap (Int.tdiv (IntKind.i64.wrap ((Int.tmod (IntKind.i64.wrap u2) (IntKind.i64.wrap ((IntKind.i64.wrap (8 * 4)) - 31))) + s83)) 8))))).bind fun a85 =>
(World.cell? w84 a85).bind fun v86 =>
(asI .u8 v86).bind fun n87 =>
if ((IntKind.u64.wrap (Int.tmod (IntKind.i64.wrap ((Int.tmod (IntKind.i64.wrap u2) (IntKind.i64.wrap ((IntKind.i64.wrap (8 * 4)) - 31))) + s83)) 8)) : Int) < 0 then
(none)
else
((idxA q81.1 q81.2.1 1 (IntKind.i64.wrap ((IntKind.i64.wrap (t29.1 + 4)) + (IntKind.i64.wrap (Int.tdiv (IntKind.i64.wrap ((Int.tmod (IntKind.i64.wrap u2) (IntKind.i64.wrap ((IntKind.i64.wrap (8 * 4)) - 31))) + s83)) 8))))).bind fun a88 =>
(st1 w84 a88 (.int .u8 (IntKind.u8.wrap ((BitVec.ofInt 8 n87 ^^^ BitVec.ofInt 8 (IntKind.u8.wrap (1 * 2 ^ (min (Int.toNat (IntKind.u64.wrap (Int.tmod (IntKind.i64.wrap ((Int.tmod (IntKind.i64.wrap u2) (IntKind.i64.wrap ((IntKind.i64.wrap (8 * 4)) - 31))) + s83)) 8))) 8)))).toNat : Nat)))).bind fun w89 =>
some (.normal, (IntKind.i64.wrap (s83 + 1)), w89)))
else
(some (.normal, (IntKind.i64.wrap (s83 + 1)), w84))))
else
(some ((.exit 2), s83, w84))

noncomputable def g8_K90  : Exit → Env → World → Option (Value × World) :=
  seqK (ev Try.prog 146 8 g8_ann (cAt [1, 1, 1, 1, 1, 1, 1, 1, 1, 1, 1, 1] (bodyOf Try.f8)) [1, 1, 1, 1, 1, 1, 1, 1, 1, 1, 1, 1] g8_K26) g8_K26

noncomputable def g8_K91  : Exit → Env → World → Option (Value × World) :=
  blkK 2 g8_K90

/-- the loop, from a state on -/
noncomputable def g8_l82 (u0 : Option Addr × Nat × Nat) (u3 : Int) (p2 : Option Addr) (u1 : Int) (t29 : Int × Int) (u2 : Int) (q81 : Option Addr × Nat × Nat) (s : Int) (w : World) : Option (Value × World) :=
  loopM Try.prog 146 8 g8_ann (cAt [1, 1, 1, 1, 1, 1, 1, 1, 1, 1, 1, 0, 1, 0, 0] (bodyOf Try.f8)) [0, 1, 0, 1, 1, 1, 1, 1, 1, 1, 1, 1, 1, 1] g8_K91 ((g8_l82_cs u0 u3 p2 u1 t29 u2 q81) ++ sputs [(20, .i .i64)] s) w

/-- behind the loop, left by x2 -/
noncomputable def g8_l82_x2 (p2 : Option Addr) (q81 : Option Addr × Nat × Nat) (t29 : Int × Int) (u0 : Option Addr × Nat × Nat) (u1 : Int) (t92 : Int) (w93 : World) : Option (Value × World) :=
(callF Try.prog 18 #[.pointer p2, .slice q81.1 q81.2.1 q81.2.2] w93).bind fun r94 =>
(asTup 3 r94.1).bind fun l95 =>
(asSl (l95.getD 0 undef)).bind fun q96 =>
(asI .i64 (l95.getD 1 undef)).bind fun n97 =>
(asI .i64 (l95.getD 2 undef)).bind fun n98 =>
if ((n98 : Int) == 8) = true then
(if ((n97 : Int) == t29.1) = true then
((slc u0.1 u0.2.1 u0.2.2 1 none (some (Int.tmod (IntKind.i64.wrap u1) (u0.2.1 : Int))) none).bind fun q99 =>
(callF Try.prog 19 #[.slice q96.1 q96.2.1 q96.2.2, .slice q99.1 q99.2.1 q99.2.2] r94.2).bind fun r100 =>
(asB r100.1).bind fun b101 =>
some (.bool b101, r100.2))
else
(some (.bool false, r94.2)))
else
(some (.bool false, r94.2))

/-- behind the loop, left by x0 -/
noncomputable def g8_l19_x0 (u0 : Option Addr × Nat × Nat) (u1 : Int) (u2 : Int) (q5 : Option Addr × Nat × Nat) (u3 : Int) (p2 : Option Addr) (t29 : Int × Int) (w30 : World) : Option (Value × World) :=
(idxA u0.1 u0.2.1 1 (Int.tmod (IntKind.i64.wrap u1) (u0.2.1 : Int))).bind fun a31 =>
(World.cell? w30 a31).bind fun v32 =>
(asSl v32).bind fun q33 =>
if (decide (((q33.2.1 : Int) : Int) ≥ 5)) = true then
(if (decide (((Int.tmod u2 3) : Int) > 0)) = true then
(if ((IntKind.i64.wrap ((IntKind.i64.wrap (8 * (q33.2.1 : Int))) - 31)) : Int) = 0 then
(none)
else
((callB Try.prog .append #[22, 22] 22 #[false, false] #[.slice (some (⟨w30.heap.size, 0, none⟩)) 0 0, .slice q5.1 q5.2.1 q5.2.2] (World.alloc w30 (.cells #[] 5))).bind fun r36 =>
(asSl r36.1).bind fun q37 =>
g8_l38 u0 u3 p2 u1 t29 u2 q33 q37 0 r36.2))
else
(if ((IntKind.i64.wrap ((IntKind.i64.wrap (8 * 4)) - 31)) : Int) = 0 then
(none)
else
((callB Try.prog .append #[22, 22] 22 #[false, false] #[.slice (some (⟨w30.heap.size, 0, none⟩)) 0 0, .slice q5.1 q5.2.1 q5.2.2] (World.alloc w30 (.cells #[] 5))).bind fun r58 =>
(asSl r58.1).bind fun q59 =>
g8_l60 u0 u3 p2 u1 t29 u2 q59 0 r58.2)))
else
(if ((IntKind.i64.wrap ((IntKind.i64.wrap (8 * 4)) - 31)) : Int) = 0 then
(none)
else
((callB Try.prog .append #[22, 22] 22 #[false, false] #[.slice (some (⟨w30.heap.size, 0, none⟩)) 0 0, .slice q5.1 q5.2.1 q5.2.2] (World.alloc w30 (.cells #[] 5))).bind fun r80 =>
(asSl r80.1).bind fun q81 =>
g8_l82 u0 u3 p2 u1 t29 u2 q81 0 r80.2))

noncomputable def g8 (u0 : Option Addr × Nat × Nat) (u1 : Int) (u2 : Int) (u3 : Int) (w0 : World) : Option (Value × World) :=
(callF Try.prog 10 #[] w0).bind fun r1 =>
(asP r1.1).bind fun p2 =>
(callF Try.prog 20 #[.slice u0.1 u0.2.1 u0.2.2] r1.2).bind fun r3 =>
(asTup 2 r3.1).bind fun l4 =>
(asSl (l4.getD 0 undef)).bind fun q5 =>
(asB (l4.getD 1 undef)).bind fun b6 =>
(callF Try.prog 12 #[] r3.2).bind fun r7 =>
(asB r7.1).bind fun b8 =>
if (!b8) = true then
((callF Try.prog 12 #[] r7.2).bind fun r9 =>
(asB r9.1).bind fun b10 =>
some (.bool b10, r9.2))
else
(if (!b6) = true then
((callF Try.prog 12 #[] r7.2).bind fun r11 =>
(asB r11.1).bind fun b12 =>
some (.bool b12, r11.2))
else
(if (((u0.2.1 : Int) : Int) == 0) = true then
((callF Try.prog 12 #[] r7.2).bind fun r14 =>
(asB r14.1).bind fun b15 =>
some (.bool b15, r14.2))
else
(if ((u3 : Int) == 0) = true then
((callF Try.prog 12 #[] r7.2).bind fun r16 =>
(asB r16.1).bind fun b17 =>
some (.bool b17, r16.2))
else
(if ((u0.2.1 : Int) : Int) = 0 then
(none)
else
(g8_l19 u0 u2 u3 p2 q5 u1 (0, 0) r7.2)))))

theorem g8_eq (u0 : Option Addr × Nat × Nat) (u1 : Int) (u2 : Int) (u3 : Int) (w0 : World) : evFn Try.prog 8 g8_ann #[.slice u0.1 u0.2.1 u0.2.2, .int .u8 u1, .int .u16 u2, .int .u32 u3] w0 = g8 u0 u1 u2 u3 w0 := by kernel_rfl

theorem g8_call {u0 : Option Addr × Nat × Nat} {u1 : Int} {u2 : Int} {u3 : Int} {w0 : World} {r : Value × World} (h : g8 u0 u1 u2 u3 w0 = some r) : callF Try.prog 8 #[.slice u0.1 u0.2.1 u0.2.2, .int .u8 u1, .int .u16 u2, .int .u32 u3] w0 = some r :=
  callF_of_evFn (ann := g8_ann) Try.call8 (by kernel_rfl) ((g8_eq u0 u1 u2 u3 w0).trans h)

theorem g8_l38_x2_of {u0 : Option Addr × Nat × Nat} {u3 : Int} {p2 : Option Addr} {u1 : Int} {t29 : Int × Int} {u2 : Int} {q33 : Option Addr × Nat × Nat} {q37 : Option Addr × Nat × Nat} {s t : Int} {w w' : World} (h : loopS (g8_l38_b u3 q37 t29 u2 q33 u0 p2 u1) s w = some (.exit 2, t, w')) : g8_l38 u0 u3 p2 u1 t29 u2 q33 q37 s w = g8_l38_x2 p2 q37 t29 u0 u1 t w' := by
  have h1 : g8_l38 u0 u3 p2 u1 t29 u2 q33 q37 s w = loopM Try.prog 146 8 g8_ann (cAt [1, 1, 1, 1, 1, 1, 1, 1, 1, 1, 1, 0, 1, 0, 0] (bodyOf Try.f8)) [0, 1, 0, 1, 1, 1, 1, 1, 1, 1, 1, 1, 1, 1] g8_K47 ((g8_l38_cs u0 u3 p2 u1 t29 u2 q33 q37) ++ sputs [(20, .i .i64)] s) w := by kernel_rfl
  have h2 : loopM Try.prog 146 8 g8_ann (cAt [1, 1, 1, 1, 1, 1, 1, 1, 1, 1, 1, 0, 1, 0, 0] (bodyOf Try.f8)) [0, 1, 0, 1, 1, 1, 1, 1, 1, 1, 1, 1, 1, 1] g8_K47 ((g8_l38_cs u0 u3 p2 u1 t29 u2 q33 q37) ++ sputs [(20, .i .i64)] s) w = g8_K47 (.exit 2) (puts 146 ((g8_l38_cs u0 u3 p2 u1 t29 u2 q33 q37) ++ sputs [(20, .i .i64)] t)) w' :=
    loop_rule (P := Try.prog) (N := 146) (f := 8) (ann := g8_ann) (body := (cAt [1, 1, 1, 1, 1, 1, 1, 1, 1, 1, 1, 0, 1, 0, 0] (bodyOf Try.f8))) (pt := [0, 1, 0, 1, 1, 1, 1, 1, 1, 1, 1, 1, 1, 1]) (K := g8_K47) (g8_l38_cs u0 u3 p2 u1 t29 u2 q33 q37) [(20, .i .i64)] (b := g8_l38_b u3 q37 t29 u2 q33 u0 p2 u1) (fun s w => by kernel_rfl) (by kernel_rfl) (by kernel_rfl) (by kernel_rfl) h
  have h3 : g8_K47 (.exit 2) (puts 146 ((g8_l38_cs u0 u3 p2 u1 t29 u2 q33 q37) ++ sputs [(20, .i .i64)] t)) w' = g8_l38_x2 p2 q37 t29 u0 u1 t w' := by kernel_rfl
  exact h1.trans (h2.trans h3)

theorem g8_l60_x2_of {u0 : Option Addr × Nat × Nat} {u3 : Int} {p2 : Option Addr} {u1 : Int} {t29 : Int × Int} {u2 : Int} {q59 : Option Addr × Nat × Nat} {s t : Int} {w w' : World} (h : loopS (g8_l60_b u3 q59 t29 u2 u0 p2 u1) s w = some (.exit 2, t, w')) : g8_l60 u0 u3 p2 u1 t29 u2 q59 s w = g8_l60_x2 p2 q59 t29 u0 u1 t w' := by
  have h1 : g8_l60 u0 u3 p2 u1 t29 u2 q59 s w = loopM Try.prog 146 8 g8_ann (cAt [1, 1, 1, 1, 1, 1, 1, 1, 1, 1, 1, 0, 1, 0, 0] (bodyOf Try.f8)) [0, 1, 0, 1, 1, 1, 1, 1, 1, 1, 1, 1, 1, 1] g8_K69 ((g8_l60_cs u0 u3 p2 u1 t29 u2 q59) ++ sputs [(20, .i .i64)] s) w := by kernel_rfl
  have h2 : loopM Try.prog 146 8 g8_ann (cAt [1, 1, 1, 1, 1, 1, 1, 1, 1, 1, 1, 0, 1, 0, 0] (bodyOf Try.f8)) [0, 1, 0, 1, 1, 1, 1, 1, 1, 1, 1, 1, 1, 1] g8_K69 ((g8_l60_cs u0 u3 p2 u1 t29 u2 q59) ++ sputs [(20, .i .i64)] s) w = g8_K69 (.exit 2) (puts 146 ((g8_l60_cs u0 u3 p2 u1 t29 u2 q59) ++ sputs [(20, .i .i64)] t)) w' :=
    loop_rule (P := Try.prog) (N := 146) (f := 8) (ann := g8_ann) (body := (cAt [1, 1, 1, 1, 1, 1, 1, 1, 1, 1, 1, 0, 1, 0, 0] (bodyOf Try.f8))) (pt := [0, 1, 0, 1, 1, 1, 1, 1, 1, 1, 1, 1, 1, 1]) (K := g8_K69) (g8_l60_cs u0 u3 p2 u1 t29 u2 q59) [(20, .i .i64)] (b := g8_l60_b u3 q59 t29 u2 u0 p2 u1) (fun s w => by kernel_rfl) (by kernel_rfl) (by kernel_rfl) (by kernel_rfl) h
  have h3 : g8_K69 (.exit 2) (puts 146 ((g8_l60_cs u0 u3 p2 u1 t29 u2 q59) ++ sputs [(20, .i .i64)] t)) w' = g8_l60_x2 p2 q59 t29 u0 u1 t w' := by kernel_rfl
  exact h1.trans (h2.trans h3)

theorem g8_l82_x2_of {u0 : Option Addr × Nat × Nat} {u3 : Int} {p2 : Option Addr} {u1 : Int} {t29 : Int × Int} {u2 : Int} {q81 : Option Addr × Nat × Nat} {s t : Int} {w w' : World} (h : loopS (g8_l82_b u3 q81 t29 u2 u0 p2 u1) s w = some (.exit 2, t, w')) : g8_l82 u0 u3 p2 u1 t29 u2 q81 s w = g8_l82_x2 p2 q81 t29 u0 u1 t w' := by
  have h1 : g8_l82 u0 u3 p2 u1 t29 u2 q81 s w = loopM Try.prog 146 8 g8_ann (cAt [1, 1, 1, 1, 1, 1, 1, 1, 1, 1, 1, 0, 1, 0, 0] (bodyOf Try.f8)) [0, 1, 0, 1, 1, 1, 1, 1, 1, 1, 1, 1, 1, 1] g8_K91 ((g8_l82_cs u0 u3 p2 u1 t29 u2 q81) ++ sputs [(20, .i .i64)] s) w := by kernel_rfl
  have h2 : loopM Try.prog 146 8 g8_ann (cAt [1, 1, 1, 1, 1, 1, 1, 1, 1, 1, 1, 0, 1, 0, 0] (bodyOf Try.f8)) [0, 1, 0, 1, 1, 1, 1, 1, 1, 1, 1, 1, 1, 1] g8_K91 ((g8_l82_cs u0 u3 p2 u1 t29 u2 q81) ++ sputs [(20, .i .i64)] s) w = g8_K91 (.exit 2) (puts 146 ((g8_l82_cs u0 u3 p2 u1 t29 u2 q81) ++ sputs [(20, .i .i64)] t)) w' :=
    loop_rule (P := Try.prog) (N := 146) (f := 8) (ann := g8_ann) (body := (cAt [1, 1, 1, 1, 1, 1, 1, 1, 1, 1, 1, 0, 1, 0, 0] (bodyOf Try.f8))) (pt := [0, 1, 0, 1, 1, 1, 1, 1, 1, 1, 1, 1, 1, 1]) (K := g8_K91) (g8_l82_cs u0 u3 p2 u1 t29 u2 q81) [(20, .i .i64)] (b := g8_l82_b u3 q81 t29 u2 u0 p2 u1) (fun s w => by kernel_rfl) (by kernel_rfl) (by kernel_rfl) (by kernel_rfl) h
  have h3 : g8_K91 (.exit 2) (puts 146 ((g8_l82_cs u0 u3 p2 u1 t29 u2 q81) ++ sputs [(20, .i .i64)] t)) w' = g8_l82_x2 p2 q81 t29 u0 u1 t w' := by kernel_rfl
  exact h1.trans (h2.trans h3)

theorem g8_l19_x0_of {u0 : Option Addr × Nat × Nat} {u2 : Int} {u3 : Int} {p2 : Option Addr} {q5 : Option Addr × Nat × Nat} {u1 : Int} {s t : Int × Int} {w w' : World} (h : loopS (g8_l19_b u1 u0 u2 u3 p2 q5) s w = some (.exit 0, t, w')) : g8_l19 u0 u2 u3 p2 q5 u1 s w = g8_l19_x0 u0 u1 u2 q5 u3 p2 t w' := by
  have h1 : g8_l19 u0 u2 u3 p2 q5 u1 s w = loopM Try.prog 146 8 g8_ann (cAt [1, 1, 1, 1, 1, 0, 1, 0, 0] (bodyOf Try.f8)) [0, 1, 0, 1, 1, 1, 1, 1] g8_K28 ((g8_l19_cs u0 u2 u3 p2 q5 u1) ++ sputs [(13, .i .i64), (14, .i .i64)] s) w := by kernel_rfl
  have h2 : loopM Try.prog 146 8 g8_ann (cAt [1, 1, 1, 1, 1, 0, 1, 0, 0] (bodyOf Try.f8)) [0, 1, 0, 1, 1, 1, 1, 1] g8_K28 ((g8_l19_cs u0 u2 u3 p2 q5 u1) ++ sputs [(13, .i .i64), (14, .i .i64)] s) w = g8_K28 (.exit 0) (puts 146 ((g8_l19_cs u0 u2 u3 p2 q5 u1) ++ sputs [(13, .i .i64), (14, .i .i64)] t)) w' :=
    loop_rule (P := Try.prog) (N := 146) (f := 8) (ann := g8_ann) (body := (cAt [1, 1, 1, 1, 1, 0, 1, 0, 0] (bodyOf Try.f8))) (pt := [0, 1, 0, 1, 1, 1, 1, 1]) (K := g8_K28) (g8_l19_cs u0 u2 u3 p2 q5 u1) [(13, .i .i64), (14, .i .i64)] (b := g8_l19_b u1 u0 u2 u3 p2 q5) (fun s w => by kernel_rfl) (by kernel_rfl) (by kernel_rfl) (by kernel_rfl) h
  have h3 : g8_K28 (.exit 0) (puts 146 ((g8_l19_cs u0 u2 u3 p2 q5 u1) ++ sputs [(13, .i .i64), (14, .i .i64)] t)) w' = g8_l19_x0 u0 u1 u2 q5 u3 p2 t w' := by kernel_rfl
  exact h1.trans (h2.trans h3)

/-! 9: penstock/penstocklaw04.FrameNone (p: []uint8) -/
def g9_ann : List (List Nat × List Nat) := []

noncomputable def g9 (u0 : Option Addr × Nat × Nat) (w0 : World) : Option (Value × World) :=
(callF Try.prog 13 #[.pointer none, .slice u0.1 u0.2.1 u0.2.2] w0).bind fun r1 =>
(asTup 2 r1.1).bind fun l2 =>
(asSl (l2.getD 0 undef)).bind fun q3 =>
(asI .i64 (l2.getD 1 undef)).bind fun n4 =>
(callF Try.prog 16 #[.pointer none, .slice u0.1 u0.2.1 u0.2.2] r1.2).bind fun r5 =>
(asTup 3 r5.1).bind fun l6 =>
(asSl (l6.getD 0 undef)).bind fun q7 =>
(asI .i64 (l6.getD 1 undef)).bind fun n8 =>
(asI .i64 (l6.getD 2 undef)).bind fun n9 =>
(callF Try.prog 18 #[.pointer none, .slice u0.1 u0.2.1 u0.2.2] r5.2).bind fun r10 =>
(asTup 3 r10.1).bind fun l11 =>
(asSl (l11.getD 0 undef)).bind fun q12 =>
(asI .i64 (l11.getD 1 undef)).bind fun n13 =>
(asI .i64 (l11.getD 2 undef)).bind fun n14 =>
(callF Try.prog 12 #[] r10.2).bind fun r15 =>
(asB r15.1).bind fun b16 =>
if b16 = true then
(if (((q3.2.1 : Int) : Int) == 0) = true then
(if ((n4 : Int) == 5) = true then
(if (((q7.2.1 : Int) : Int) == 0) = true then
(if ((n8 : Int) == 0) = true then
(if ((n9 : Int) == 5) = true then
(if (((q12.2.1 : Int) : Int) == 0) = true then
(if ((n13 : Int) == 0) = true then
(some (.bool ((n14 : Int) == 5), r15.2))
else
(some (.bool false, r15.2)))
else
(some (.bool false, r15.2)))
else
(some (.bool false, r15.2)))
else
(some (.bool false, r15.2)))
else
(some (.bool false, r15.2)))
else
(some (.bool false, r15.2)))
else
(some (.bool false, r15.2)))
else
(some (.bool false, r15.2))

theorem g9_eq (u0 : Option Addr × Nat × Nat) (w0 : World) : evFn Try.prog 9 g9_ann #[.slice u0.1 u0.2.1 u0.2.2] w0 = g9 u0 w0 := by kernel_rfl

theorem g9_call {u0 : Option Addr × Nat × Nat} {w0 : World} {r : Value × World} (h : g9 u0 w0 = some r) : callF Try.prog 9 #[.slice u0.1 u0.2.1 u0.2.2] w0 = some r :=
  callF_of_evFn (ann := g9_ann) Try.call9 (by kernel_rfl) ((g9_eq u0 w0).trans h)

/-! 10: penstock/frame.New () -/
def g10_ann : List (List Nat × List Nat) := []

noncomputable def g10  (w0 : World) : Option (Value × World) :=
(callF Try.prog 21 #[] w0).bind fun r1 =>
(asP r1.1).bind fun p2 =>
some (.pointer (some (⟨r1.2.heap.size, 0, none⟩)), (World.alloc r1.2 (.cells #[.pointer p2] 54)))

theorem g10_eq  (w0 : World) : evFn Try.prog 10 g10_ann #[] w0 = g10 w0 := by kernel_rfl

theorem g10_call  {w0 : World} {r : Value × World} (h : g10 w0 = some r) : callF Try.prog 10 #[] w0 = some r :=
  callF_of_evFn (ann := g10_ann) Try.call10 (by kernel_rfl) ((g10_eq  w0).trans h)

/-! 11: penstock/penstockref04.DocEncode (p: []uint8) -/
def g11_ann : List (List Nat × List Nat) := []

noncomputable def g11 (u0 : Option Addr × Nat × Nat) (w0 : World) : Option (Value × World) :=
if (decide (((u0.2.1 : Int) : Int) > 4096)) = true then
(some (.tuple #[.slice none 0 0, .int .i64 2], w0))
else
((callF Try.prog 22 #[.int .u32 (IntKind.u32.wrap (u0.2.1 : Int))] w0).bind fun r3 =>
(asSl r3.1).bind fun q4 =>
(callF Try.prog 23 #[.int .u32 0, .slice u0.1 u0.2.1 u0.2.2] r3.2).bind fun r5 =>
(asI .u32 r5.1).bind fun n6 =>
(callF Try.prog 22 #[.int .u32 n6] r5.2).bind fun r7 =>
(asSl r7.1).bind fun q8 =>
(callB Try.prog .append #[22, 22] 22 #[false, false] #[.slice q4.1 q4.2.1 q4.2.2, .slice q8.1 q8.2.1 q8.2.2] r7.2).bind fun r9 =>
(asSl r9.1).bind fun q10 =>
(callB Try.prog .append #[22, 22] 22 #[false, false] #[.slice q10.1 q10.2.1 q10.2.2, .slice u0.1 u0.2.1 u0.2.2] r9.2).bind fun r11 =>
(asSl r11.1).bind fun q12 =>
some (.tuple #[.slice q12.1 q12.2.1 q12.2.2, .int .i64 0], r11.2))

theorem g11_eq (u0 : Option Addr × Nat × Nat) (w0 : World) : evFn Try.prog 11 g11_ann #[.slice u0.1 u0.2.1 u0.2.2] w0 = g11 u0 w0 := by kernel_rfl

theorem g11_call {u0 : Option Addr × Nat × Nat} {w0 : World} {r : Value × World} (h : g11 u0 w0 = some r) : callF Try.prog 11 #[.slice u0.1 u0.2.1 u0.2.2] w0 = some r :=
  callF_of_evFn (ann := g11_ann) Try.call11 (by kernel_rfl) ((g11_eq u0 w0).trans h)

/-! 12: penstock/penstocklaw04.awake () -/
def g12_ann : List (List Nat × List Nat) := []

noncomputable def g12  (w0 : World) : Option (Value × World) :=
(callF Try.prog 10 #[] w0).bind fun r1 =>
(asP r1.1).bind fun p2 =>
if (p2.isNone) = true then
(some (.bool false, r1.2))
else
((semR Try.prog (convert 22 22 (.slice (some (⟨r1.2.heap.size, 0, none⟩)) 2 2)) (World.alloc r1.2 (.cells #[.int .u8 97, .int .u8 98] 5))).bind fun r3 =>
(asSl r3.1).bind fun q4 =>
(callF Try.prog 13 #[.pointer p2, .slice q4.1 q4.2.1 q4.2.2] r3.2).bind fun r5 =>
(asTup 2 r5.1).bind fun l6 =>
(asSl (l6.getD 0 undef)).bind fun q7 =>
(asI .i64 (l6.getD 1 undef)).bind fun n8 =>
(callF Try.prog 16 #[.pointer p2, .slice q7.1 q7.2.1 q7.2.2] r5.2).bind fun r9 =>
(asTup 3 r9.1).bind fun l10 =>
(asSl (l10.getD 0 undef)).bind fun q11 =>
(asI .i64 (l10.getD 1 undef)).bind fun n12 =>
(asI .i64 (l10.getD 2 undef)).bind fun n13 =>
if ((n8 : Int) == 0) = true then
(if ((n13 : Int) == 0) = true then
(if (((q7.2.1 : Int) : Int) == 10) = true then
(if ((n12 : Int) == 10) = true then
((semR Try.prog (convert 22 9 (.slice q11.1 q11.2.1 q11.2.2)) r9.2).bind fun r15 =>
(asS r15.1).bind fun s16 =>
some (.bool (s16.toList == (⟨#[97, 98]⟩ : ByteArray).toList), r15.2))
else
(some (.bool false, r9.2)))
else
(some (.bool false, r9.2)))
else
(some (.bool false, r9.2)))
else
(some (.bool false, r9.2)))

theorem g12_eq  (w0 : World) : evFn Try.prog 12 g12_ann #[] w0 = g12 w0 := by kernel_rfl

theorem g12_call  {w0 : World} {r : Value × World} (h : g12 w0 = some r) : callF Try.prog 12 #[] w0 = some r :=
  callF_of_evFn (ann := g12_ann) Try.call12 (by kernel_rfl) ((g12_eq  w0).trans h)

/-! 13: (*penstock/frame.Framer).Encode (f: *frame.Framer, payload: []uint8) -/
def g13_ann : List (List Nat × List Nat) := []

noncomputable def g13 (u0 : Option Addr) (u1 : Option Addr × Nat × Nat) (w0 : World) : Option (Value × World) :=
if (u0.isNone) = true then
(some (.tuple #[.slice none 0 0, .int .i64 5], w0))
else
(if (decide (((u1.2.1 : Int) : Int) > 4096)) = true then
(some (.tuple #[.slice none 0 0, .int .i64 2], w0))
else
((callF Try.prog 24 #[] w0).bind fun r2 =>
(asP r2.1).bind fun p3 =>
(callF Try.prog 25 #[.pointer p3, .int .u32 (IntKind.u32.wrap (u1.2.1 : Int))] r2.2).bind fun r5 =>
(asTup 0 r5.1).bind fun _ =>
u0.bind fun a6 =>
(World.cell? r5.2 a6).bind fun v7 =>
(asP v7).bind fun p8 =>
(callF Try.prog 26 #[.pointer p8, .slice u1.1 u1.2.1 u1.2.2] r5.2).bind fun r9 =>
(asI .u32 r9.1).bind fun n10 =>
(callF Try.prog 25 #[.pointer p3, .int .u32 n10] r9.2).bind fun r11 =>
(asTup 0 r11.1).bind fun _ =>
(callF Try.prog 27 #[.pointer p3] r11.2).bind fun r12 =>
(asTup 2 r12.1).bind fun l13 =>
(asSl (l13.getD 0 undef)).bind fun q14 =>
(asI .i64 (l13.getD 1 undef)).bind fun n15 =>
(callB Try.prog .append #[22, 22] 22 #[false, false] #[.slice q14.1 q14.2.1 q14.2.2, .slice u1.1 u1.2.1 u1.2.2] r12.2).bind fun r16 =>
(asSl r16.1).bind fun q17 =>
some (.tuple #[.slice q17.1 q17.2.1 q17.2.2, .int .i64 0], r16.2)))

theorem g13_eq (u0 : Option Addr) (u1 : Option Addr × Nat × Nat) (w0 : World) : evFn Try.prog 13 g13_ann #[.pointer u0, .slice u1.1 u1.2.1 u1.2.2] w0 = g13 u0 u1 w0 := by kernel_rfl

theorem g13_call {u0 : Option Addr} {u1 : Option Addr × Nat × Nat} {w0 : World} {r : Value × World} (h : g13 u0 u1 w0 = some r) : callF Try.prog 13 #[.pointer u0, .slice u1.1 u1.2.1 u1.2.2] w0 = some r :=
  callF_of_evFn (ann := g13_ann) Try.call13 (by kernel_rfl) ((g13_eq u0 u1 w0).trans h)

/-! 14: penstock/penstockref03.Same (a: []uint8, b: []uint8) -/
def g14_ann : List (List Nat × List Nat) := [([0, 1, 0, 1, 1], [0, 1, 4, 5])]

def g14_l3_cs (u0 : Option Addr × Nat × Nat) (u1 : Option Addr × Nat × Nat) : List (Nat × Value) := ([(0, .slice u0.1 u0.2.1 u0.2.2), (1, .slice u1.1 u1.2.1 u1.2.2)] : List (Nat × Value))

/-- the round of a loop (penstock/penstockref03.Same) -/
noncomputable def g14_l3_b (u0 : Option Addr × Nat × Nat) (u1 : Option Addr × Nat × Nat) (s4 : Bool × Int) (w5 : World) : Option (Exit × (Bool × Int) × World) :=
if (decide ((s4.2 : Int) < (u0.2.1 : Int))) = true then
((idxA u0.1 u0.2.1 1 s4.2).bind fun a7 =>
(World.cell? (World.drew w5) a7).bind fun v8 =>
(asI .u8 v8).bind fun n9 =>
(idxA u1.1 u1.2.1 1 s4.2).bind fun a10 =>
(World.cell? (World.drew w5) a10).bind fun v11 =>
(asI .u8 v11).bind fun n12 =>
if ((n9 : Int) != n12) = true then
(some (.ret, (false, s4.2), (World.drew w5)))
else
(some (.normal, (s4.1, (IntKind.i64.wrap (s4.2 + 1))), (World.drew w5))))
else
(some ((.exit 0), (s4.1, s4.2), w5))

noncomputable def g14_K13  : Exit → Env → World → Option (Value × World) :=
  retK Try.prog Try.f14.results.toList

noncomputable def g14_K14  : Exit → Env → World → Option (Value × World) :=
  seqK (ev Try.prog 26 14 g14_ann (cAt [1, 1, 1] (bodyOf Try.f14)) [1, 1, 1] g14_K13) g14_K13

noncomputable def g14_K15  : Exit → Env → World → Option (Value × World) :=
  blkK 0 g14_K14

/-- the loop, from a state on -/
noncomputable def g14_l3 (u0 : Option Addr × Nat × Nat) (u1 : Option Addr × Nat × Nat) (s : Bool × Int) (w : World) : Option (Value × World) :=
  loopM Try.prog 26 14 g14_ann (cAt [1, 1, 0, 1, 0, 0] (bodyOf Try.f14)) [0, 1, 0, 1, 1] g14_K15 ((g14_l3_cs u0 u1) ++ sputs [(4, .b), (5, .i .i64)] s) w

/-- behind the loop, left by x0 -/
noncomputable def g14_l3_x0  (t16 : Bool × Int) (w17 : World) : Option (Value × World) :=
some (.bool true, w17)

/-- behind the loop, left by ret -/
noncomputable def g14_l3_ret  (t18 : Bool × Int) (w19 : World) : Option (Value × World) :=
some (.bool t18.1, w19)

noncomputable def g14 (u0 : Option Addr × Nat × Nat) (u1 : Option Addr × Nat × Nat) (w0 : World) : Option (Value × World) :=
if (((u0.2.1 : Int) : Int) != (u1.2.1 : Int)) = true then
(some (.bool false, w0))
else
(g14_l3 u0 u1 (false, 0) w0)

theorem g14_eq (u0 : Option Addr × Nat × Nat) (u1 : Option Addr × Nat × Nat) (w0 : World) : evFn Try.prog 14 g14_ann #[.slice u0.1 u0.2.1 u0.2.2, .slice u1.1 u1.2.1 u1.2.2] w0 = g14 u0 u1 w0 := by kernel_rfl

theorem g14_call {u0 : Option Addr × Nat × Nat} {u1 : Option Addr × Nat × Nat} {w0 : World} {r : Value × World} (h : g14 u0 u1 w0 = some r) : callF Try.prog 14 #[.slice u0.1 u0.2.1 u0.2.2, .slice u1.1 u1.2.1 u1.2.2] w0 = some r :=
  callF_of_evFn (ann := g14_ann) Try.call14 (by kernel_rfl) ((g14_eq u0 u1 w0).trans h)

theorem g14_l3_x0_of {u0 : Option Addr × Nat × Nat} {u1 : Option Addr × Nat × Nat} {s t : Bool × Int} {w w' : World} (h : loopS (g14_l3_b u0 u1) s w = some (.exit 0, t, w')) : g14_l3 u0 u1 s w = g14_l3_x0 t w' := by
  have h1 : g14_l3 u0 u1 s w = loopM Try.prog 26 14 g14_ann (cAt [1, 1, 0, 1, 0, 0] (bodyOf Try.f14)) [0, 1, 0, 1, 1] g14_K15 ((g14_l3_cs u0 u1) ++ sputs [(4, .b), (5, .i .i64)] s) w := by kernel_rfl
  have h2 : loopM Try.prog 26 14 g14_ann (cAt [1, 1, 0, 1, 0, 0] (bodyOf Try.f14)) [0, 1, 0, 1, 1] g14_K15 ((g14_l3_cs u0 u1) ++ sputs [(4, .b), (5, .i .i64)] s) w = g14_K15 (.exit 0) (puts 26 ((g14_l3_cs u0 u1) ++ sputs [(4, .b), (5, .i .i64)] t)) w' :=
    loop_rule (P := Try.prog) (N := 26) (f := 14) (ann := g14_ann) (body := (cAt [1, 1, 0, 1, 0, 0] (bodyOf Try.f14))) (pt := [0, 1, 0, 1, 1]) (K := g14_K15) (g14_l3_cs u0 u1) [(4, .b), (5, .i .i64)] (b := g14_l3_b u0 u1) (fun s w => by kernel_rfl) (by kernel_rfl) (by kernel_rfl) (by kernel_rfl) h
  have h3 : g14_K15 (.exit 0) (puts 26 ((g14_l3_cs u0 u1) ++ sputs [(4, .b), (5, .i .i64)] t)) w' = g14_l3_x0 t w' := by kernel_rfl
  exact h1.trans (h2.trans h3)

theorem g14_l3_ret_of {u0 : Option Addr × Nat × Nat} {u1 : Option Addr × Nat × Nat} {s t : Bool × Int} {w w' : World} (h : loopS (g14_l3_b u0 u1) s w = some (.ret, t, w')) : g14_l3 u0 u1 s w = g14_l3_ret t w' := by
  have h1 : g14_l3 u0 u1 s w = loopM Try.prog 26 14 g14_ann (cAt [1, 1, 0, 1, 0, 0] (bodyOf Try.f14)) [0, 1, 0, 1, 1] g14_K15 ((g14_l3_cs u0 u1) ++ sputs [(4, .b), (5, .i .i64)] s) w := by kernel_rfl
  have h2 : loopM Try.prog 26 14 g14_ann (cAt [1, 1, 0, 1, 0, 0] (bodyOf Try.f14)) [0, 1, 0, 1, 1] g14_K15 ((g14_l3_cs u0 u1) ++ sputs [(4, .b), (5, .i .i64)] s) w = g14_K15 (.ret) (puts 26 ((g14_l3_cs u0 u1) ++ sputs [(4, .b), (5, .i .i64)] t)) w' :=
    loop_rule (P := Try.prog) (N := 26) (f := 14) (ann := g14_ann) (body := (cAt [1, 1, 0, 1, 0, 0] (bodyOf Try.f14))) (pt := [0, 1, 0, 1, 1]) (K := g14_K15) (g14_l3_cs u0 u1) [(4, .b), (5, .i .i64)] (b := g14_l3_b u0 u1) (fun s w => by kernel_rfl) (by kernel_rfl) (by kernel_rfl) (by kernel_rfl) h
  have h3 : g14_K15 (.ret) (puts 26 ((g14_l3_cs u0 u1) ++ sputs [(4, .b), (5, .i .i64)] t)) w' = g14_l3_ret t w' := by kernel_rfl
  exact h1.trans (h2.trans h3)

/-! 15: penstock/penstockref04.DocDecode (b: []uint8, at: int) -/
def g15_ann : List (List Nat × List Nat) := []

noncomputable def g15 (u0 : Option Addr × Nat × Nat) (u1 : Int) (w0 : World) : Option (Value × World) :=
(callF Try.prog 28 #[.pointer (some (⟨w0.heap.size, 0, none⟩))] (World.alloc w0 (.cells #[.slice u0.1 u0.2.1 u0.2.2, .int .i64 u1, .int .i64 0] 64))).bind fun r1 =>
(asI .u32 r1.1).bind fun n2 =>
(callF Try.prog 28 #[.pointer (some (⟨w0.heap.size, 0, none⟩))] r1.2).bind fun r3 =>
(asI .u32 r3.1).bind fun n4 =>
(World.cell? r3.2 (Addr.add (⟨w0.heap.size, 0, none⟩) 2)).bind fun v5 =>
(asI .i64 v5).bind fun n6 =>
if ((n6 : Int) != 0) = true then
(some (.tuple #[.slice none 0 0, .int .i64 0, .int .i64 6], r3.2))
else
(if (decide ((n2 : Int) > 4096)) = true then
(some (.tuple #[.slice none 0 0, .int .i64 0, .int .i64 2], r3.2))
else
((World.cell? r3.2 (Addr.add (⟨w0.heap.size, 0, none⟩) 1)).bind fun v7 =>
(asI .i64 v7).bind fun n8 =>
if (decide (((IntKind.i64.wrap (n8 + (IntKind.i64.wrap n2))) : Int) > (u0.2.1 : Int))) = true then
(some (.tuple #[.slice none 0 0, .int .i64 0, .int .i64 6], r3.2))
else
((World.cell? (World.drew r3.2) (Addr.add (⟨w0.heap.size, 0, none⟩) 1)).bind fun v10 =>
(asI .i64 v10).bind fun n11 =>
(World.cell? (World.drew r3.2) (Addr.add (⟨w0.heap.size, 0, none⟩) 1)).bind fun v12 =>
(asI .i64 v12).bind fun n13 =>
(slc u0.1 u0.2.1 u0.2.2 1 (some n11) (some (IntKind.i64.wrap (n13 + (IntKind.i64.wrap n2)))) none).bind fun q14 =>
(callF Try.prog 23 #[.int .u32 0, .slice q14.1 q14.2.1 q14.2.2] (World.drew r3.2)).bind fun r15 =>
(asI .u32 r15.1).bind fun n16 =>
if ((n16 : Int) != n4) = true then
(some (.tuple #[.slice none 0 0, .int .i64 0, .int .i64 8], r15.2))
else
((World.cell? (World.drew r15.2) (Addr.add (⟨w0.heap.size, 0, none⟩) 1)).bind fun v17 =>
(asI .i64 v17).bind fun n18 =>
some (.tuple #[.slice q14.1 q14.2.1 q14.2.2, .int .i64 (IntKind.i64.wrap (n18 + (IntKind.i64.wrap n2))), .int .i64 0], (World.drew r15.2))))))

theorem g15_eq (u0 : Option Addr × Nat × Nat) (u1 : Int) (w0 : World) : evFn Try.prog 15 g15_ann #[.slice u0.1 u0.2.1 u0.2.2, .int .i64 u1] w0 = g15 u0 u1 w0 := by kernel_rfl

theorem g15_call {u0 : Option Addr × Nat × Nat} {u1 : Int} {w0 : World} {r : Value × World} (h : g15 u0 u1 w0 = some r) : callF Try.prog 15 #[.slice u0.1 u0.2.1 u0.2.2, .int .i64 u1] w0 = some r :=
  callF_of_evFn (ann := g15_ann) Try.call15 (by kernel_rfl) ((g15_eq u0 u1 w0).trans h)

/-! 16: (*penstock/frame.Framer).Decode (f: *frame.Framer, b: []uint8) -/
def g16_ann : List (List Nat × List Nat) := []

noncomputable def g16 (u0 : Option Addr) (u1 : Option Addr × Nat × Nat) (w0 : World) : Option (Value × World) :=
if (u0.isNone) = true then
(some (.tuple #[.slice none 0 0, .int .i64 0, .int .i64 5], w0))
else
((slc u1.1 u1.2.1 u1.2.2 1 none (some (if (8 : Int) < (u1.2.1 : Int) then 8 else (u1.2.1 : Int))) none).bind fun q3 =>
(callF Try.prog 29 #[.slice q3.1 q3.2.1 q3.2.2] w0).bind fun r4 =>
(asP r4.1).bind fun p5 =>
(callF Try.prog 30 #[.pointer p5] r4.2).bind fun r6 =>
(asI .u32 r6.1).bind fun n7 =>
(callF Try.prog 30 #[.pointer p5] r6.2).bind fun r8 =>
(asI .u32 r8.1).bind fun n9 =>
(callF Try.prog 31 #[.pointer p5] r8.2).bind fun r10 =>
(asTup 3 r10.1).bind fun l11 =>
(asI .i64 (l11.getD 0 undef)).bind fun n12 =>
(asI .i64 (l11.getD 1 undef)).bind fun n13 =>
(asI .i64 (l11.getD 2 undef)).bind fun n14 =>
if ((n14 : Int) != 0) = true then
(some (.tuple #[.slice none 0 0, .int .i64 0, .int .i64 6], r10.2))
else
(if (decide ((n7 : Int) > 4096)) = true then
(some (.tuple #[.slice none 0 0, .int .i64 0, .int .i64 2], r10.2))
else
(if (decide (((IntKind.i64.wrap ((u1.2.1 : Int) - 8)) : Int) < (IntKind.i64.wrap n7))) = true then
(some (.tuple #[.slice none 0 0, .int .i64 0, .int .i64 6], r10.2))
else
((slc u1.1 u1.2.1 u1.2.2 1 (some 8) (some (IntKind.i64.wrap (8 + (IntKind.i64.wrap n7)))) none).bind fun q16 =>
(callB Try.prog .append #[22, 22] 22 #[true, false] #[.slice none 0 0, .slice q16.1 q16.2.1 q16.2.2] r10.2).bind fun r17 =>
(asSl r17.1).bind fun q18 =>
u0.bind fun a19 =>
(World.cell? r17.2 a19).bind fun v20 =>
(asP v20).bind fun p21 =>
(callF Try.prog 26 #[.pointer p21, .slice q18.1 q18.2.1 q18.2.2] r17.2).bind fun r22 =>
(asI .u32 r22.1).bind fun n23 =>
if ((n23 : Int) != n9) = true then
(some (.tuple #[.slice none 0 0, .int .i64 0, .int .i64 8], r22.2))
else
(some (.tuple #[.slice q18.1 q18.2.1 q18.2.2, .int .i64 (IntKind.i64.wrap (8 + (IntKind.i64.wrap n7))), .int .i64 0], r22.2))))))

theorem g16_eq (u0 : Option Addr) (u1 : Option Addr × Nat × Nat) (w0 : World) : evFn Try.prog 16 g16_ann #[.pointer u0, .slice u1.1 u1.2.1 u1.2.2] w0 = g16 u0 u1 w0 := by kernel_rfl

theorem g16_call {u0 : Option Addr} {u1 : Option Addr × Nat × Nat} {w0 : World} {r : Value × World} (h : g16 u0 u1 w0 = some r) : callF Try.prog 16 #[.pointer u0, .slice u1.1 u1.2.1 u1.2.2] w0 = some r :=
  callF_of_evFn (ann := g16_ann) Try.call16 (by kernel_rfl) ((g16_eq u0 u1 w0).trans h)

/-! 17: penstock/penstockref04.DocScan (b: []uint8) -/
def g17_ann : List (List Nat × List Nat) := [([0, 0, 1, 1, 1], [0, 2, 3, 4, 5, 6])]

def g17_l1_cs (u0 : Option Addr × Nat × Nat) : List (Nat × Value) := ([(0, .slice u0.1 u0.2.1 u0.2.2)] : List (Nat × Value))

/-- the round of a loop (penstock/penstockref04.DocScan) -/
noncomputable def g17_l1_b (u0 : Option Addr × Nat × Nat) (s2 : (Option Addr × Nat × Nat) × Int × Int × (Option Addr × Nat × Nat) × Int) (w3 : World) : Option (Exit × ((Option Addr × Nat × Nat) × Int × Int × (Option Addr × Nat × Nat) × Int) × World) :=
if (decide ((s2.2.2.2.2 : Int) < (u0.2.1 : Int))) = true then
((callF Try.prog 15 #[.slice u0.1 u0.2.1 u0.2.2, .int .i64 s2.2.2.2.2] w3).bind fun r5 =>
(asTup 3 r5.1).bind fun l6 =>
(asSl (l6.getD 0 undef)).bind fun q7 =>
(asI .i64 (l6.getD 1 undef)).bind fun n8 =>
(asI .i64 (l6.getD 2 undef)).bind fun n9 =>
if ((n9 : Int) != 0) = true then
(some (.ret, ((s2.2.2.2.1.1, s2.2.2.2.1.2.1, s2.2.2.2.1.2.2), s2.2.2.2.2, n9, (s2.2.2.2.1.1, s2.2.2.2.1.2.1, s2.2.2.2.1.2.2), s2.2.2.2.2), r5.2))
else
((callB Try.prog .append #[37, 37] 37 #[false, false] #[.slice s2.2.2.2.1.1 s2.2.2.2.1.2.1 s2.2.2.2.1.2.2, .slice (some (⟨r5.2.heap.size, 0, none⟩)) 1 1] (World.alloc r5.2 (.cells #[.slice q7.1 q7.2.1 q7.2.2] 22))).bind fun r10 =>
(asSl r10.1).bind fun q11 =>
some (.normal, ((s2.1.1, s2.1.2.1, s2.1.2.2), s2.2.1, s2.2.2.1, (q11.1, q11.2.1, q11.2.2), n8), r10.2)))
else
(some ((.exit 0), ((s2.1.1, s2.1.2.1, s2.1.2.2), s2.2.1, s2.2.2.1, (s2.2.2.2.1.1, s2.2.2.2.1.2.1, s2.2.2.2.1.2.2), s2.2.2.2.2), w3))

noncomputable def g17_K12  : Exit → Env → World → Option (Value × World) :=
  retK Try.prog Try.f17.results.toList

noncomputable def g17_K13  : Exit → Env → World → Option (Value × World) :=
  seqK (ev Try.prog 33 17 g17_ann (cAt [1, 1, 1, 1] (bodyOf Try.f17)) [1, 1, 1, 1] g17_K12) g17_K12

noncomputable def g17_K14  : Exit → Env → World → Option (Value × World) :=
  blkK 0 g17_K13

/-- the loop, from a state on -/
noncomputable def g17_l1 (u0 : Option Addr × Nat × Nat) (s : (Option Addr × Nat × Nat) × Int × Int × (Option Addr × Nat × Nat) × Int) (w : World) : Option (Value × World) :=
  loopM Try.prog 33 17 g17_ann (cAt [1, 1, 1, 0, 0, 0] (bodyOf Try.f17)) [0, 0, 1, 1, 1] g17_K14 ((g17_l1_cs u0) ++ sputs [(2, .sl), (3, .i .i64), (4, .i .i64), (5, .sl), (6, .i .i64)] s) w

/-- behind the loop, left by x0 -/
noncomputable def g17_l1_x0  (t15 : (Option Addr × Nat × Nat) × Int × Int × (Option Addr × Nat × Nat) × Int) (w16 : World) : Option (Value × World) :=
some (.tuple #[.slice t15.2.2.2.1.1 t15.2.2.2.1.2.1 t15.2.2.2.1.2.2, .int .i64 t15.2.2.2.2, .int .i64 0], w16)

/-- behind the loop, left by ret -/
noncomputable def g17_l1_ret  (t17 : (Option Addr × Nat × Nat) × Int × Int × (Option Addr × Nat × Nat) × Int) (w18 : World) : Option (Value × World) :=
some (.tuple #[.slice t17.1.1 t17.1.2.1 t17.1.2.2, .int .i64 t17.2.1, .int .i64 t17.2.2.1], w18)

noncomputable def g17 (u0 : Option Addr × Nat × Nat) (w0 : World) : Option (Value × World) :=
g17_l1 u0 ((none, 0, 0), 0, 0, (none, 0, 0), 0) w0

theorem g17_eq (u0 : Option Addr × Nat × Nat) (w0 : World) : evFn Try.prog 17 g17_ann #[.slice u0.1 u0.2.1 u0.2.2] w0 = g17 u0 w0 := by kernel_rfl

theorem g17_call {u0 : Option Addr × Nat × Nat} {w0 : World} {r : Value × World} (h : g17 u0 w0 = some r) : callF Try.prog 17 #[.slice u0.1 u0.2.1 u0.2.2] w0 = some r :=
  callF_of_evFn (ann := g17_ann) Try.call17 (by kernel_rfl) ((g17_eq u0 w0).trans h)

theorem g17_l1_x0_of {u0 : Option Addr × Nat × Nat} {s t : (Option Addr × Nat × Nat) × Int × Int × (Option Addr × Nat × Nat) × Int} {w w' : World} (h : loopS (g17_l1_b u0) s w = some (.exit 0, t, w')) : g17_l1 u0 s w = g17_l1_x0 t w' := by
  have h1 : g17_l1 u0 s w = loopM Try.prog 33 17 g17_ann (cAt [1, 1, 1, 0, 0, 0] (bodyOf Try.f17)) [0, 0, 1, 1, 1] g17_K14 ((g17_l1_cs u0) ++ sputs [(2, .sl), (3, .i .i64), (4, .i .i64), (5, .sl), (6, .i .i64)] s) w := by kernel_rfl
  have h2 : loopM Try.prog 33 17 g17_ann (cAt [1, 1, 1, 0, 0, 0] (bodyOf Try.f17)) [0, 0, 1, 1, 1] g17_K14 ((g17_l1_cs u0) ++ sputs [(2, .sl), (3, .i .i64), (4, .i .i64), (5, .sl), (6, .i .i64)] s) w = g17_K14 (.exit 0) (puts 33 ((g17_l1_cs u0) ++ sputs [(2, .sl), (3, .i .i64), (4, .i .i64), (5, .sl), (6, .i .i64)] t)) w' :=
    loop_rule (P := Try.prog) (N := 33) (f := 17) (ann := g17_ann) (body := (cAt [1, 1, 1, 0, 0, 0] (bodyOf Try.f17))) (pt := [0, 0, 1, 1, 1]) (K := g17_K14) (g17_l1_cs u0) [(2, .sl), (3, .i .i64), (4, .i .i64), (5, .sl), (6, .i .i64)] (b := g17_l1_b u0) (fun s w => by kernel_rfl) (by kernel_rfl) (by kernel_rfl) (by kernel_rfl) h
  have h3 : g17_K14 (.exit 0) (puts 33 ((g17_l1_cs u0) ++ sputs [(2, .sl), (3, .i .i64), (4, .i .i64), (5, .sl), (6, .i .i64)] t)) w' = g17_l1_x0 t w' := by kernel_rfl
  exact h1.trans (h2.trans h3)

theorem g17_l1_ret_of {u0 : Option Addr × Nat × Nat} {s t : (Option Addr × Nat × Nat) × Int × Int × (Option Addr × Nat × Nat) × Int} {w w' : World} (h : loopS (g17_l1_b u0) s w = some (.ret, t, w')) : g17_l1 u0 s w = g17_l1_ret t w' := by
  have h1 : g17_l1 u0 s w = loopM Try.prog 33 17 g17_ann (cAt [1, 1, 1, 0, 0, 0] (bodyOf Try.f17)) [0, 0, 1, 1, 1] g17_K14 ((g17_l1_cs u0) ++ sputs [(2, .sl), (3, .i .i64), (4, .i .i64), (5, .sl), (6, .i .i64)] s) w := by kernel_rfl
  have h2 : loopM Try.prog 33 17 g17_ann (cAt [1, 1, 1, 0, 0, 0] (bodyOf Try.f17)) [0, 0, 1, 1, 1] g17_K14 ((g17_l1_cs u0) ++ sputs [(2, .sl), (3, .i .i64), (4, .i .i64), (5, .sl), (6, .i .i64)] s) w = g17_K14 (.ret) (puts 33 ((g17_l1_cs u0) ++ sputs [(2, .sl), (3, .i .i64), (4, .i .i64), (5, .sl), (6, .i .i64)] t)) w' :=
    loop_rule (P := Try.prog) (N := 33) (f := 17) (ann := g17_ann) (body := (cAt [1, 1, 1, 0, 0, 0] (bodyOf Try.f17))) (pt := [0, 0, 1, 1, 1]) (K := g17_K14) (g17_l1_cs u0) [(2, .sl), (3, .i .i64), (4, .i .i64), (5, .sl), (6, .i .i64)] (b := g17_l1_b u0) (fun s w => by kernel_rfl) (by kernel_rfl) (by kernel_rfl) (by kernel_rfl) h
  have h3 : g17_K14 (.ret) (puts 33 ((g17_l1_cs u0) ++ sputs [(2, .sl), (3, .i .i64), (4, .i .i64), (5, .sl), (6, .i .i64)] t)) w' = g17_l1_ret t w' := by kernel_rfl
  exact h1.trans (h2.trans h3)

/-! 18: (*penstock/frame.Framer).Scan (f: *frame.Framer, b: []uint8) -/
def g18_ann : List (List Nat × List Nat) := [([0, 0, 1, 1, 1, 1], [0, 1, 4, 5, 6, 7, 8])]

def g18_l1_cs (u0 : Option Addr) (u1 : Option Addr × Nat × Nat) : List (Nat × Value) := ([(0, .pointer u0), (1, .slice u1.1 u1.2.1 u1.2.2)] : List (Nat × Value))

/-- the round of a loop ((*penstock/frame.Framer).Scan) -/
noncomputable def g18_l1_b (u1 : Option Addr × Nat × Nat) (u0 : Option Addr) (s2 : (Option Addr × Nat × Nat) × Int × Int × (Option Addr × Nat × Nat) × Int) (w3 : World) : Option (Exit × ((Option Addr × Nat × Nat) × Int × Int × (Option Addr × Nat × Nat) × Int) × World) :=
if (decide ((s2.2.2.2.2 : Int) < (u1.2.1 : Int))) = true then
((slc u1.1 u1.2.1 u1.2.2 1 (some s2.2.2.2.2) none none).bind fun q5 =>
(callF Try.prog 16 #[.pointer u0, .slice q5.1 q5.2.1 q5.2.2] w3).bind fun r6 =>
(asTup 3 r6.1).bind fun l7 =>
(asSl (l7.getD 0 undef)).bind fun q8 =>
(asI .i64 (l7.getD 1 undef)).bind fun n9 =>
(asI .i64 (l7.getD 2 undef)).bind fun n10 =>
if ((n10 : Int) != 0) = true then
(some (.ret, ((s2.2.2.2.1.1, s2.2.2.2.1.2.1, s2.2.2.2.1.2.2), s2.2.2.2.2, n10, (s2.2.2.2.1.1, s2.2.2.2.1.2.1, s2.2.2.2.1.2.2), s2.2.2.2.2), r6.2))
else
((callB Try.prog .append #[37, 37] 37 #[false, false] #[.slice s2.2.2.2.1.1 s2.2.2.2.1.2.1 s2.2.2.2.1.2.2, .slice (some (⟨r6.2.heap.size, 0, none⟩)) 1 1] (World.alloc r6.2 (.cells #[.slice q8.1 q8.2.1 q8.2.2] 22))).bind fun r11 =>
(asSl r11.1).bind fun q12 =>
some (.normal, ((s2.1.1, s2.1.2.1, s2.1.2.2), s2.2.1, s2.2.2.1, (q12.1, q12.2.1, q12.2.2), (IntKind.i64.wrap (s2.2.2.2.2 + n9))), r11.2)))
else
(some ((.exit 0), ((s2.1.1, s2.1.2.1, s2.1.2.2), s2.2.1, s2.2.2.1, (s2.2.2.2.1.1, s2.2.2.2.1.2.1, s2.2.2.2.1.2.2), s2.2.2.2.2), w3))

noncomputable def g18_K13  : Exit → Env → World → Option (Value × World) :=
  retK Try.prog Try.f18.results.toList

noncomputable def g18_K14  : Exit → Env → World → Option (Value × World) :=
  seqK (ev Try.prog 41 18 g18_ann (cAt [1, 1, 1, 1, 1] (bodyOf Try.f18)) [1, 1, 1, 1, 1] g18_K13) g18_K13

noncomputable def g18_K15  : Exit → Env → World → Option (Value × World) :=
  blkK 0 g18_K14

/-- the loop, from a state on -/
noncomputable def g18_l1 (u0 : Option Addr) (u1 : Option Addr × Nat × Nat) (s : (Option Addr × Nat × Nat) × Int × Int × (Option Addr × Nat × Nat) × Int) (w : World) : Option (Value × World) :=
  loopM Try.prog 41 18 g18_ann (cAt [1, 1, 1, 1, 0, 0, 0] (bodyOf Try.f18)) [0, 0, 1, 1, 1, 1] g18_K15 ((g18_l1_cs u0 u1) ++ sputs [(4, .sl), (5, .i .i64), (6, .i .i64), (7, .sl), (8, .i .i64)] s) w

/-- behind the loop, left by x0 -/
noncomputable def g18_l1_x0  (t16 : (Option Addr × Nat × Nat) × Int × Int × (Option Addr × Nat × Nat) × Int) (w17 : World) : Option (Value × World) :=
some (.tuple #[.slice t16.2.2.2.1.1 t16.2.2.2.1.2.1 t16.2.2.2.1.2.2, .int .i64 t16.2.2.2.2, .int .i64 0], w17)

/-- behind the loop, left by ret -/
noncomputable def g18_l1_ret  (t18 : (Option Addr × Nat × Nat) × Int × Int × (Option Addr × Nat × Nat) × Int) (w19 : World) : Option (Value × World) :=
some (.tuple #[.slice t18.1.1 t18.1.2.1 t18.1.2.2, .int .i64 t18.2.1, .int .i64 t18.2.2.1], w19)

noncomputable def g18 (u0 : Option Addr) (u1 : Option Addr × Nat × Nat) (w0 : World) : Option (Value × World) :=
if (u0.isNone) = true then
(some (.tuple #[.slice none 0 0, .int .i64 0, .int .i64 5], w0))
else
(g18_l1 u0 u1 ((none, 0, 0), 0, 0, (none, 0, 0), 0) w0)

theorem g18_eq (u0 : Option Addr) (u1 : Option Addr × Nat × Nat) (w0 : World) : evFn Try.prog 18 g18_ann #[.pointer u0, .slice u1.1 u1.2.1 u1.2.2] w0 = g18 u0 u1 w0 := by kernel_rfl

theorem g18_call {u0 : Option Addr} {u1 : Option Addr × Nat × Nat} {w0 : World} {r : Value × World} (h : g18 u0 u1 w0 = some r) : callF Try.prog 18 #[.pointer u0, .slice u1.1 u1.2.1 u1.2.2] w0 = some r :=
  callF_of_evFn (ann := g18_ann) Try.call18 (by kernel_rfl) ((g18_eq u0 u1 w0).trans h)

theorem g18_l1_x0_of {u0 : Option Addr} {u1 : Option Addr × Nat × Nat} {s t : (Option Addr × Nat × Nat) × Int × Int × (Option Addr × Nat × Nat) × Int} {w w' : World} (h : loopS (g18_l1_b u1 u0) s w = some (.exit 0, t, w')) : g18_l1 u0 u1 s w = g18_l1_x0 t w' := by
  have h1 : g18_l1 u0 u1 s w = loopM Try.prog 41 18 g18_ann (cAt [1, 1, 1, 1, 0, 0, 0] (bodyOf Try.f18)) [0, 0, 1, 1, 1, 1] g18_K15 ((g18_l1_cs u0 u1) ++ sputs [(4, .sl), (5, .i .i64), (6, .i .i64), (7, .sl), (8, .i .i64)] s) w := by kernel_rfl
  have h2 : loopM Try.prog 41 18 g18_ann (cAt [1, 1, 1, 1, 0, 0, 0] (bodyOf Try.f18)) [0, 0, 1, 1, 1, 1] g18_K15 ((g18_l1_cs u0 u1) ++ sputs [(4, .sl), (5, .i .i64), (6, .i .i64), (7, .sl), (8, .i .i64)] s) w = g18_K15 (.exit 0) (puts 41 ((g18_l1_cs u0 u1) ++ sputs [(4, .sl), (5, .i .i64), (6, .i .i64), (7, .sl), (8, .i .i64)] t)) w' :=
    loop_rule (P := Try.prog) (N := 41) (f := 18) (ann := g18_ann) (body := (cAt [1, 1, 1, 1, 0, 0, 0] (bodyOf Try.f18))) (pt := [0, 0, 1, 1, 1, 1]) (K := g18_K15) (g18_l1_cs u0 u1) [(4, .sl), (5, .i .i64), (6, .i .i64), (7, .sl), (8, .i .i64)] (b := g18_l1_b u1 u0) (fun s w => by kernel_rfl) (by kernel_rfl) (by kernel_rfl) (by kernel_rfl) h
  have h3 : g18_K15 (.exit 0) (puts 41 ((g18_l1_cs u0 u1) ++ sputs [(4, .sl), (5, .i .i64), (6, .i .i64), (7, .sl), (8, .i .i64)] t)) w' = g18_l1_x0 t w' := by kernel_rfl
  exact h1.trans (h2.trans h3)

theorem g18_l1_ret_of {u0 : Option Addr} {u1 : Option Addr × Nat × Nat} {s t : (Option Addr × Nat × Nat) × Int × Int × (Option Addr × Nat × Nat) × Int} {w w' : World} (h : loopS (g18_l1_b u1 u0) s w = some (.ret, t, w')) : g18_l1 u0 u1 s w = g18_l1_ret t w' := by
  have h1 : g18_l1 u0 u1 s w = loopM Try.prog 41 18 g18_ann (cAt [1, 1, 1, 1, 0, 0, 0] (bodyOf Try.f18)) [0, 0, 1, 1, 1, 1] g18_K15 ((g18_l1_cs u0 u1) ++ sputs [(4, .sl), (5, .i .i64), (6, .i .i64), (7, .sl), (8, .i .i64)] s) w := by kernel_rfl
  have h2 : loopM Try.prog 41 18 g18_ann (cAt [1, 1, 1, 1, 0, 0, 0] (bodyOf Try.f18)) [0, 0, 1, 1, 1, 1] g18_K15 ((g18_l1_cs u0 u1) ++ sputs [(4, .sl), (5, .i .i64), (6, .i .i64), (7, .sl), (8, .i .i64)] s) w = g18_K15 (.ret) (puts 41 ((g18_l1_cs u0 u1) ++ sputs [(4, .sl), (5, .i .i64), (6, .i .i64), (7, .sl), (8, .i .i64)] t)) w' :=
    loop_rule (P := Try.prog) (N := 41) (f := 18) (ann := g18_ann) (body := (cAt [1, 1, 1, 1, 0, 0, 0] (bodyOf Try.f18))) (pt := [0, 0, 1, 1, 1, 1]) (K := g18_K15) (g18_l1_cs u0 u1) [(4, .sl), (5, .i .i64), (6, .i .i64), (7, .sl), (8, .i .i64)] (b := g18_l1_b u1 u0) (fun s w => by kernel_rfl) (by kernel_rfl) (by kernel_rfl) (by kernel_rfl) h
  have h3 : g18_K15 (.ret) (puts 41 ((g18_l1_cs u0 u1) ++ sputs [(4, .sl), (5, .i .i64), (6, .i .i64), (7, .sl), (8, .i .i64)] t)) w' = g18_l1_ret t w' := by kernel_rfl
  exact h1.trans (h2.trans h3)

/-! 19: penstock/penstockref04.SameList (a: [][]uint8, b: [][]uint8) -/
def g19_ann : List (List Nat × List Nat) := [([0, 1, 0, 1, 1], [0, 1, 4, 5])]

def g19_l3_cs (u0 : Option Addr × Nat × Nat) (u1 : Option Addr × Nat × Nat) : List (Nat × Value) := ([(0, .slice u0.1 u0.2.1 u0.2.2), (1, .slice u1.1 u1.2.1 u1.2.2)] : List (Nat × Value))

/-- the round of a loop (penstock/penstockref04.SameList) -/
noncomputable def g19_l3_b (u0 : Option Addr × Nat × Nat) (u1 : Option Addr × Nat × Nat) (s4 : Bool × Int) (w5 : World) : Option (Exit × (Bool × Int) × World) :=
if (decide ((s4.2 : Int) < (u0.2.1 : Int))) = true then
((idxA u0.1 u0.2.1 1 s4.2).bind fun a7 =>
(World.cell? (World.drew w5) a7).bind fun v8 =>
(asSl v8).bind fun q9 =>
(idxA u1.1 u1.2.1 1 s4.2).bind fun a10 =>
(World.cell? (World.drew w5) a10).bind fun v11 =>
(asSl v11).bind fun q12 =>
(callF Try.prog 14 #[.slice q9.1 q9.2.1 q9.2.2, .slice q12.1 q12.2.1 q12.2.2] (World.drew w5)).bind fun r13 =>
(asB r13.1).bind fun b14 =>
if (!b14) = true then
(some (.ret, (false, s4.2), r13.2))
else
(some (.normal, (s4.1, (IntKind.i64.wrap (s4.2 + 1))), r13.2)))
else
(some ((.exit 0), (s4.1, s4.2), w5))

noncomputable def g19_K15  : Exit → Env → World → Option (Value × World) :=
  retK Try.prog Try.f19.results.toList

noncomputable def g19_K16  : Exit → Env → World → Option (Value × World) :=
  seqK (ev Try.prog 27 19 g19_ann (cAt [1, 1, 1] (bodyOf Try.f19)) [1, 1, 1] g19_K15) g19_K15

noncomputable def g19_K17  : Exit → Env → World → Option (Value × World) :=
  blkK 0 g19_K16

/-- the loop, from a state on -/
noncomputable def g19_l3 (u0 : Option Addr × Nat × Nat) (u1 : Option Addr × Nat × Nat) (s : Bool × Int) (w : World) : Option (Value × World) :=
  loopM Try.prog 27 19 g19_ann (cAt [1, 1, 0, 1, 0, 0] (bodyOf Try.f19)) [0, 1, 0, 1, 1] g19_K17 ((g19_l3_cs u0 u1) ++ sputs [(4, .b), (5, .i .i64)] s) w

/-- behind the loop, left by x0 -/
noncomputable def g19_l3_x0  (t18 : Bool × Int) (w19 : World) : Option (Value × World) :=
some (.bool true, w19)

/-- behind the loop, left by ret -/
noncomputable def g19_l3_ret  (t20 : Bool × Int) (w21 : World) : Option (Value × World) :=
some (.bool t20.1, w21)

noncomputable def g19 (u0 : Option Addr × Nat × Nat) (u1 : Option Addr × Nat × Nat) (w0 : World) : Option (Value × World) :=
if (((u0.2.1 : Int) : Int) != (u1.2.1 : Int)) = true then
(some (.bool false, w0))
else
(g19_l3 u0 u1 (false, 0) w0)

theorem g19_eq (u0 : Option Addr × Nat × Nat) (u1 : Option Addr × Nat × Nat) (w0 : World) : evFn Try.prog 19 g19_ann #[.slice u0.1 u0.2.1 u0.2.2, .slice u1.1 u1.2.1 u1.2.2] w0 = g19 u0 u1 w0 := by kernel_rfl

theorem g19_call {u0 : Option Addr × Nat × Nat} {u1 : Option Addr × Nat × Nat} {w0 : World} {r : Value × World} (h : g19 u0 u1 w0 = some r) : callF Try.prog 19 #[.slice u0.1 u0.2.1 u0.2.2, .slice u1.1 u1.2.1 u1.2.2] w0 = some r :=
  callF_of_evFn (ann := g19_ann) Try.call19 (by kernel_rfl) ((g19_eq u0 u1 w0).trans h)

theorem g19_l3_x0_of {u0 : Option Addr × Nat × Nat} {u1 : Option Addr × Nat × Nat} {s t : Bool × Int} {w w' : World} (h : loopS (g19_l3_b u0 u1) s w = some (.exit 0, t, w')) : g19_l3 u0 u1 s w = g19_l3_x0 t w' := by
  have h1 : g19_l3 u0 u1 s w = loopM Try.prog 27 19 g19_ann (cAt [1, 1, 0, 1, 0, 0] (bodyOf Try.f19)) [0, 1, 0, 1, 1] g19_K17 ((g19_l3_cs u0 u1) ++ sputs [(4, .b), (5, .i .i64)] s) w := by kernel_rfl
  have h2 : loopM Try.prog 27 19 g19_ann (cAt [1, 1, 0, 1, 0, 0] (bodyOf Try.f19)) [0, 1, 0, 1, 1] g19_K17 ((g19_l3_cs u0 u1) ++ sputs [(4, .b), (5, .i .i64)] s) w = g19_K17 (.exit 0) (puts 27 ((g19_l3_cs u0 u1) ++ sputs [(4, .b), (5, .i .i64)] t)) w' :=
    loop_rule (P := Try.prog) (N := 27) (f := 19) (ann := g19_ann) (body := (cAt [1, 1, 0, 1, 0, 0] (bodyOf Try.f19))) (pt := [0, 1, 0, 1, 1]) (K := g19_K17) (g19_l3_cs u0 u1) [(4, .b), (5, .i .i64)] (b := g19_l3_b u0 u1) (fun s w => by kernel_rfl) (by kernel_rfl) (by kernel_rfl) (by kernel_rfl) h
  have h3 : g19_K17 (.exit 0) (puts 27 ((g19_l3_cs u0 u1) ++ sputs [(4, .b), (5, .i .i64)] t)) w' = g19_l3_x0 t w' := by kernel_rfl
  exact h1.trans (h2.trans h3)

theorem g19_l3_ret_of {u0 : Option Addr × Nat × Nat} {u1 : Option Addr × Nat × Nat} {s t : Bool × Int} {w w' : World} (h : loopS (g19_l3_b u0 u1) s w = some (.ret, t, w')) : g19_l3 u0 u1 s w = g19_l3_ret t w' := by
  have h1 : g19_l3 u0 u1 s w = loopM Try.prog 27 19 g19_ann (cAt [1, 1, 0, 1, 0, 0] (bodyOf Try.f19)) [0, 1, 0, 1, 1] g19_K17 ((g19_l3_cs u0 u1) ++ sputs [(4, .b), (5, .i .i64)] s) w := by kernel_rfl
  have h2 : loopM Try.prog 27 19 g19_ann (cAt [1, 1, 0, 1, 0, 0] (bodyOf Try.f19)) [0, 1, 0, 1, 1] g19_K17 ((g19_l3_cs u0 u1) ++ sputs [(4, .b), (5, .i .i64)] s) w = g19_K17 (.ret) (puts 27 ((g19_l3_cs u0 u1) ++ sputs [(4, .b), (5, .i .i64)] t)) w' :=
    loop_rule (P := Try.prog) (N := 27) (f := 19) (ann := g19_ann) (body := (cAt [1, 1, 0, 1, 0, 0] (bodyOf Try.f19))) (pt := [0, 1, 0, 1, 1]) (K := g19_K17) (g19_l3_cs u0 u1) [(4, .b), (5, .i .i64)] (b := g19_l3_b u0 u1) (fun s w => by kernel_rfl) (by kernel_rfl) (by kernel_rfl) (by kernel_rfl) h
  have h3 : g19_K17 (.ret) (puts 27 ((g19_l3_cs u0 u1) ++ sputs [(4, .b), (5, .i .i64)] t)) w' = g19_l3_ret t w' := by kernel_rfl
  exact h1.trans (h2.trans h3)

/-! 20: penstock/penstocklaw04.join (l: [][]uint8) -/
def g20_ann : List (List Nat × List Nat) := [([0, 1, 0, 1, 1], [9, 10, 2, 3, 4, 11])]

def g20_l2_cs (u0 : Option Addr × Nat × Nat) : List (Nat × Value) := ([(9, .slice u0.1 u0.2.1 u0.2.2), (10, .int .i64 (u0.2.1 : Int))] : List (Nat × Value))

/-- the round of a loop (penstock/penstocklaw04.join) -/
noncomputable def g20_l2_b (u0 : Option Addr × Nat × Nat) (s3 : (Option Addr × Nat × Nat) × Bool × (Option Addr × Nat × Nat) × Int) (w4 : World) : Option (Exit × ((Option Addr × Nat × Nat) × Bool × (Option Addr × Nat × Nat) × Int) × World) :=
if (decide ((s3.2.2.2 : Int) < (u0.2.1 : Int))) = true then
((idxA u0.1 u0.2.1 1 s3.2.2.2).bind fun a5 =>
(World.cell? w4 a5).bind fun v6 =>
(asSl v6).bind fun q7 =>
(callF Try.prog 11 #[.slice q7.1 q7.2.1 q7.2.2] w4).bind fun r8 =>
(asTup 2 r8.1).bind fun l9 =>
(asSl (l9.getD 0 undef)).bind fun q10 =>
(asI .i64 (l9.getD 1 undef)).bind fun n11 =>
if ((n11 : Int) != 0) = true then
(some (.ret, ((none, 0, 0), false, (s3.2.2.1.1, s3.2.2.1.2.1, s3.2.2.1.2.2), s3.2.2.2), r8.2))
else
((callB Try.prog .append #[22, 22] 22 #[false, false] #[.slice s3.2.2.1.1 s3.2.2.1.2.1 s3.2.2.1.2.2, .slice q10.1 q10.2.1 q10.2.2] r8.2).bind fun r12 =>
(asSl r12.1).bind fun q13 =>
some (.normal, ((s3.1.1, s3.1.2.1, s3.1.2.2), s3.2.1, (q13.1, q13.2.1, q13.2.2), (IntKind.i64.wrap (s3.2.2.2 + 1))), r12.2)))
else
(some ((.exit 0), ((s3.1.1, s3.1.2.1, s3.1.2.2), s3.2.1, (s3.2.2.1.1, s3.2.2.1.2.1, s3.2.2.1.2.2), s3.2.2.2), w4))

noncomputable def g20_K14  : Exit → Env → World → Option (Value × World) :=
  retK Try.prog Try.f20.results.toList

noncomputable def g20_K15  : Exit → Env → World → Option (Value × World) :=
  seqK (ev Try.prog 27 20 g20_ann (cAt [1, 1, 1] (bodyOf Try.f20)) [1, 1, 1] g20_K14) g20_K14

noncomputable def g20_K16  : Exit → Env → World → Option (Value × World) :=
  blkK 0 g20_K15

/-- the loop, from a state on -/
noncomputable def g20_l2 (u0 : Option Addr × Nat × Nat) (s : (Option Addr × Nat × Nat) × Bool × (Option Addr × Nat × Nat) × Int) (w : World) : Option (Value × World) :=
  loopM Try.prog 27 20 g20_ann (cAt [1, 1, 0, 1, 0, 0] (bodyOf Try.f20)) [0, 1, 0, 1, 1] g20_K16 ((g20_l2_cs u0) ++ sputs [(2, .sl), (3, .b), (4, .sl), (11, .i .i64)] s) w

/-- behind the loop, left by x0 -/
noncomputable def g20_l2_x0  (t17 : (Option Addr × Nat × Nat) × Bool × (Option Addr × Nat × Nat) × Int) (w18 : World) : Option (Value × World) :=
some (.tuple #[.slice t17.2.2.1.1 t17.2.2.1.2.1 t17.2.2.1.2.2, .bool true], w18)

/-- behind the loop, left by ret -/
noncomputable def g20_l2_ret  (t19 : (Option Addr × Nat × Nat) × Bool × (Option Addr × Nat × Nat) × Int) (w20 : World) : Option (Value × World) :=
some (.tuple #[.slice t19.1.1 t19.1.2.1 t19.1.2.2, .bool t19.2.1], w20)

noncomputable def g20 (u0 : Option Addr × Nat × Nat) (w0 : World) : Option (Value × World) :=
g20_l2 u0 ((none, 0, 0), false, (none, 0, 0), 0) w0

theorem g20_eq (u0 : Option Addr × Nat × Nat) (w0 : World) : evFn Try.prog 20 g20_ann #[.slice u0.1 u0.2.1 u0.2.2] w0 = g20 u0 w0 := by kernel_rfl

theorem g20_call {u0 : Option Addr × Nat × Nat} {w0 : World} {r : Value × World} (h : g20 u0 w0 = some r) : callF Try.prog 20 #[.slice u0.1 u0.2.1 u0.2.2] w0 = some r :=
  callF_of_evFn (ann := g20_ann) Try.call20 (by kernel_rfl) ((g20_eq u0 w0).trans h)

theorem g20_l2_x0_of {u0 : Option Addr × Nat × Nat} {s t : (Option Addr × Nat × Nat) × Bool × (Option Addr × Nat × Nat) × Int} {w w' : World} (h : loopS (g20_l2_b u0) s w = some (.exit 0, t, w')) : g20_l2 u0 s w = g20_l2_x0 t w' := by
  have h1 : g20_l2 u0 s w = loopM Try.prog 27 20 g20_ann (cAt [1, 1, 0, 1, 0, 0] (bodyOf Try.f20)) [0, 1, 0, 1, 1] g20_K16 ((g20_l2_cs u0) ++ sputs [(2, .sl), (3, .b), (4, .sl), (11, .i .i64)] s) w := by kernel_rfl
  have h2 : loopM Try.prog 27 20 g20_ann (cAt [1, 1, 0, 1, 0, 0] (bodyOf Try.f20)) [0, 1, 0, 1, 1] g20_K16 ((g20_l2_cs u0) ++ sputs [(2, .sl), (3, .b), (4, .sl), (11, .i .i64)] s) w = g20_K16 (.exit 0) (puts 27 ((g20_l2_cs u0) ++ sputs [(2, .sl), (3, .b), (4, .sl), (11, .i .i64)] t)) w' :=
    loop_rule (P := Try.prog) (N := 27) (f := 20) (ann := g20_ann) (body := (cAt [1, 1, 0, 1, 0, 0] (bodyOf Try.f20))) (pt := [0, 1, 0, 1, 1]) (K := g20_K16) (g20_l2_cs u0) [(2, .sl), (3, .b), (4, .sl), (11, .i .i64)] (b := g20_l2_b u0) (fun s w => by kernel_rfl) (by kernel_rfl) (by kernel_rfl) (by kernel_rfl) h
  have h3 : g20_K16 (.exit 0) (puts 27 ((g20_l2_cs u0) ++ sputs [(2, .sl), (3, .b), (4, .sl), (11, .i .i64)] t)) w' = g20_l2_x0 t w' := by kernel_rfl
  exact h1.trans (h2.trans h3)

theorem g20_l2_ret_of {u0 : Option Addr × Nat × Nat} {s t : (Option Addr × Nat × Nat) × Bool × (Option Addr × Nat × Nat) × Int} {w w' : World} (h : loopS (g20_l2_b u0) s w = some (.ret, t, w')) : g20_l2 u0 s w = g20_l2_ret t w' := by
  have h1 : g20_l2 u0 s w = loopM Try.prog 27 20 g20_ann (cAt [1, 1, 0, 1, 0, 0] (bodyOf Try.f20)) [0, 1, 0, 1, 1] g20_K16 ((g20_l2_cs u0) ++ sputs [(2, .sl), (3, .b), (4, .sl), (11, .i .i64)] s) w := by kernel_rfl
  have h2 : loopM Try.prog 27 20 g20_ann (cAt [1, 1, 0, 1, 0, 0] (bodyOf Try.f20)) [0, 1, 0, 1, 1] g20_K16 ((g20_l2_cs u0) ++ sputs [(2, .sl), (3, .b), (4, .sl), (11, .i .i64)] s) w = g20_K16 (.ret) (puts 27 ((g20_l2_cs u0) ++ sputs [(2, .sl), (3, .b), (4, .sl), (11, .i .i64)] t)) w' :=
    loop_rule (P := Try.prog) (N := 27) (f := 20) (ann := g20_ann) (body := (cAt [1, 1, 0, 1, 0, 0] (bodyOf Try.f20))) (pt := [0, 1, 0, 1, 1]) (K := g20_K16) (g20_l2_cs u0) [(2, .sl), (3, .b), (4, .sl), (11, .i .i64)] (b := g20_l2_b u0) (fun s w => by kernel_rfl) (by kernel_rfl) (by kernel_rfl) (by kernel_rfl) h
  have h3 : g20_K16 (.ret) (puts 27 ((g20_l2_cs u0) ++ sputs [(2, .sl), (3, .b), (4, .sl), (11, .i .i64)] t)) w' = g20_l2_ret t w' := by kernel_rfl
  exact h1.trans (h2.trans h3)

end Go.Proofs.Yteekaakkaogpeaa
