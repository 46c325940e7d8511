/-
  CrcF2: lemmas on what Go functions of this seat come to (for whatever arguments, as each says). No condition but those that stand in each lemma.
-/
import Derived.Test.YtakcmfbkknaehaaCrcC
namespace Go.Proofs.Ytakcmfbkknaehaa
open Go Go.Ev
set_option maxRecDepth 100000
set_option linter.unusedVariables false
/-! 3: penstock/penstocklaw02.CrcSums (sum: uint32, b: []uint8) -/
def g3_ann : List (List Nat × List Nat) := [([0, 1, 0, 1, 1, 1, 1, 1], [0, 1, 5, 6, 7, 8, 9, 4, 10]), ([0, 1, 0, 1, 1, 1, 1, 1, 1], [1, 7, 4, 11])]

def g3_l11_cs (u0 : Int) (u1 : Option Addr × Nat × Nat) (p2 : Option Addr) (r1 : Value × World) (q6 : Option Addr × Nat × Nat) (n8 : Int) (n10 : Int) : List (Nat × Value) := ([(0, .int .u32 u0), (1, .slice u1.1 u1.2.1 u1.2.2), (5, .pointer p2), (6, .pointer (some (⟨r1.2.heap.size, 0, none⟩))), (7, .slice q6.1 q6.2.1 q6.2.2), (8, .int .u32 n8), (9, .int .u32 n10)] : List (Nat × Value))

/-- the round of a loop (penstock/penstocklaw02.CrcSums) -/
noncomputable def g3_l11_b (p2 : Option Addr) (q6 : Option Addr × Nat × Nat) (n8 : Int) (u0 : Int) (n10 : Int) (r1 : Value × World) (u1 : Option Addr × Nat × Nat) (s12 : Bool × Int) (w13 : World) : Option (Exit × (Bool × Int) × World) :=
if (decide ((s12.2 : Int) < 2)) = true then
((callF Try.prog 13 #[.pointer p2, .slice q6.1 q6.2.1 q6.2.2] w13).bind fun r14 =>
(asI .u32 r14.1).bind fun n15 =>
if ((n15 : Int) != n8) = true then
(some (.ret, (false, s12.2), r14.2))
else
((callF Try.prog 14 #[.pointer p2, .int .u32 u0, .slice q6.1 q6.2.1 q6.2.2] r14.2).bind fun r16 =>
(asI .u32 r16.1).bind fun n17 =>
if ((n17 : Int) != n10) = true then
(some (.ret, (false, s12.2), r16.2))
else
((callF Try.prog 13 #[.pointer (some (⟨r1.2.heap.size, 0, none⟩)), .slice q6.1 q6.2.1 q6.2.2] r16.2).bind fun r18 =>
(asI .u32 r18.1).bind fun n19 =>
if ((n19 : Int) != n8) = true then
(some (.ret, (false, s12.2), r18.2))
else
((callF Try.prog 14 #[.pointer (some (⟨r1.2.heap.size, 0, none⟩)), .int .u32 u0, .slice q6.1 q6.2.1 q6.2.2] r18.2).bind fun r20 =>
(asI .u32 r20.1).bind fun n21 =>
if ((n21 : Int) != n10) = true then
(some (.ret, (false, s12.2), r20.2))
else
(some (.normal, (s12.1, (IntKind.i64.wrap (s12.2 + 1))), r20.2))))))
else
(some ((.exit 0), (s12.1, s12.2), w13))

noncomputable def g3_K22  : Exit → Env → World → Option (Value × World) :=
  retK Try.prog Try.f3.results.toList

noncomputable def g3_K23  : Exit → Env → World → Option (Value × World) :=
  seqK (ev Try.prog 71 3 g3_ann (cAt [1, 1, 1, 1, 1, 1] (bodyOf Try.f3)) [1, 1, 1, 1, 1, 1] g3_K22) g3_K22

noncomputable def g3_K24  : Exit → Env → World → Option (Value × World) :=
  blkK 0 g3_K23

/-- the loop, from a state on -/
noncomputable def g3_l11 (u0 : Int) (u1 : Option Addr × Nat × Nat) (p2 : Option Addr) (r1 : Value × World) (q6 : Option Addr × Nat × Nat) (n8 : Int) (n10 : Int) (s : Bool × Int) (w : World) : Option (Value × World) :=
  loopM Try.prog 71 3 g3_ann (cAt [1, 1, 1, 1, 1, 0, 1, 0, 0] (bodyOf Try.f3)) [0, 1, 0, 1, 1, 1, 1, 1] g3_K24 ((g3_l11_cs u0 u1 p2 r1 q6 n8 n10) ++ sputs [(4, .b), (10, .i .i64)] s) w

def g3_l27_cs (u1 : Option Addr × Nat × Nat) (q6 : Option Addr × Nat × Nat) : List (Nat × Value) := ([(1, .slice u1.1 u1.2.1 u1.2.2), (7, .slice q6.1 q6.2.1 q6.2.2)] : List (Nat × Value))

/-- the round of a loop (penstock/penstocklaw02.CrcSums) -/
noncomputable def g3_l27_b (u1 : Option Addr × Nat × Nat) (q6 : Option Addr × Nat × Nat) (s28 : Bool × Int) (w29 : World) : Option (Exit × (Bool × Int) × World) :=
if (decide ((s28.2 : Int) < (u1.2.1 : Int))) = true then
((idxA q6.1 q6.2.1 1 s28.2).bind fun a31 =>
(World.cell? (World.drew w29) a31).bind fun v32 =>
(asI .u8 v32).bind fun n33 =>
(idxA u1.1 u1.2.1 1 s28.2).bind fun a34 =>
(World.cell? (World.drew w29) a34).bind fun v35 =>
(asI .u8 v35).bind fun n36 =>
if ((n33 : Int) != n36) = true then
(some (.ret, (false, s28.2), (World.drew w29)))
else
(some (.normal, (s28.1, (IntKind.i64.wrap (s28.2 + 1))), (World.drew w29))))
else
(some ((.exit 2), (s28.1, s28.2), w29))

noncomputable def g3_K37  : Exit → Env → World → Option (Value × World) :=
  seqK (ev Try.prog 71 3 g3_ann (cAt [1, 1, 1, 1, 1, 1, 1] (bodyOf Try.f3)) [1, 1, 1, 1, 1, 1, 1] g3_K22) g3_K22

noncomputable def g3_K38  : Exit → Env → World → Option (Value × World) :=
  blkK 2 g3_K37

/-- the loop, from a state on -/
noncomputable def g3_l27 (u1 : Option Addr × Nat × Nat) (q6 : Option Addr × Nat × Nat) (s : Bool × Int) (w : World) : Option (Value × World) :=
  loopM Try.prog 71 3 g3_ann (cAt [1, 1, 1, 1, 1, 1, 0, 1, 0, 0] (bodyOf Try.f3)) [0, 1, 0, 1, 1, 1, 1, 1, 1] g3_K38 ((g3_l27_cs u1 q6) ++ sputs [(4, .b), (11, .i .i64)] s) w

/-- behind the loop, left by x2 -/
noncomputable def g3_l27_x2  (t39 : Bool × Int) (w40 : World) : Option (Value × World) :=
some (.bool true, w40)

/-- behind the loop, left by ret -/
noncomputable def g3_l27_ret  (t41 : Bool × Int) (w42 : World) : Option (Value × World) :=
some (.bool t41.1, w42)

/-- behind the loop, left by x0 -/
noncomputable def g3_l11_x0 (u1 : Option Addr × Nat × Nat) (q6 : Option Addr × Nat × Nat) (t25 : Bool × Int) (w26 : World) : Option (Value × World) :=
g3_l27 u1 q6 (t25.1, 0) w26

/-- behind the loop, left by ret -/
noncomputable def g3_l11_ret  (t43 : Bool × Int) (w44 : World) : Option (Value × World) :=
some (.bool t43.1, w44)

noncomputable def g3 (u0 : Int) (u1 : Option Addr × Nat × Nat) (w0 : World) : Option (Value × World) :=
(callF Try.prog 9 #[] w0).bind fun r1 =>
(asP r1.1).bind fun p2 =>
(callF Try.prog 10 #[] (World.alloc r1.2 (.cells #[.int .u32 0, .int .i32 0, .int .u32 0, .int .u32 0, .int .u32 0, .int .u32 0, .int .u32 0, .int .u32 0, .int .u32 0, .int .u32 0, .int .u32 0, .int .u32 0, .int .u32 0, .int .u32 0, .int .u32 0, .int .u32 0, .int .u32 0, .int .u32 0, .int .u32 0, .int .u32 0, .int .u32 0, .int .u32 0, .int .u32 0, .int .u32 0, .int .u32 0, .int .u32 0, .int .u32 0, .int .u32 0, .int .u32 0, .int .u32 0, .int .u32 0, .int .u32 0, .int .u32 0, .int .u32 0, .int .u32 0, .int .u32 0, .int .u32 0, .int .u32 0, .int .u32 0, .int .u32 0, .int .u32 0, .int .u32 0, .int .u32 0, .int .u32 0, .int .u32 0, .int .u32 0, .int .u32 0, .int .u32 0, .int .u32 0, .int .u32 0, .int .u32 0, .int .u32 0, .int .u32 0, .int .u32 0, .int .u32 0, .int .u32 0, .int .u32 0, .int .u32 0, .int .u32 0, .int .u32 0, .int .u32 0, .int .u32 0, .int .u32 0, .int .u32 0, .int .u32 0, .int .u32 0, .int .u32 0, .int .u32 0, .int .u32 0, .int .u32 0, .int .u32 0, .int .u32 0, .int .u32 0, .int .u32 0, .int .u32 0, .int .u32 0, .int .u32 0, .int .u32 0, .int .u32 0, .int .u32 0, .int .u32 0, .int .u32 0, .int .u32 0, .int .u32 0, .int .u32 0, .int .u32 0, .int .u32 0, .int .u32 0, .int .u32 0, .int .u32 0, .int .u32 0, .int .u32 0, .int .u32 0, .int .u32 0, .int .u32 0, .int .u32 0, .int .u32 0, .int .u32 0, .int .u32 0, .int .u32 0, .int .u32 0, .int .u32 0, .int .u32 0, .int .u32 0, .int .u32 0, .int .u32 0, .int .u32 0, .int .u32 0, .int .u32 0, .int .u32 0, .int .u32 0, .int .u32 0, .int .u32 0, .int .u32 0, .int .u32 0, .int .u32 0, .int .u32 0, .int .u32 0, .int .u32 0, .int .u32 0, .int .u32 0, .int .u32 0, .int .u32 0, .int .u32 0, .int .u32 0, .int .u32 0, .int .u32 0, .int .u32 0, .int .u32 0, .int .u32 0, .int .u32 0, .int .u32 0, .int .u32 0, .int .u32 0, .int .u32 0, .int .u32 0, .int .u32 0, .int .u32 0, .int .u32 0, .int .u32 0, .int .u32 0, .int .u32 0, .int .u32 0, .int .u32 0, .int .u32 0, .int .u32 0, .int .u32 0, .int .u32 0, .int .u32 0, .int .u32 0, .int .u32 0, .int .u32 0, .int .u32 0, .int .u32 0, .int .u32 0, .int .u32 0, .int .u32 0, .int .u32 0, .int .u32 0, .int .u32 0, .int .u32 0, .int .u32 0, .int .u32 0, .int .u32 0, .int .u32 0, .int .u32 0, .int .u32 0, .int .u32 0, .int .u32 0, .int .u32 0, .int .u32 0, .int .u32 0, .int .u32 0, .int .u32 0, .int .u32 0, .int .u32 0, .int .u32 0, .int .u32 0, .int .u32 0, .int .u32 0, .int .u32 0, .int .u32 0, .int .u32 0, .int .u32 0, .int .u32 0, .int .u32 0, .int .u32 0, .int .u32 0, .int .u32 0, .int .u32 0, .int .u32 0, .int .u32 0, .int .u32 0, .int .u32 0, .int .u32 0, .int .u32 0, .int .u32 0, .int .u32 0, .int .u32 0, .int .u32 0, .int .u32 0, .int .u32 0, .int .u32 0, .int .u32 0, .int .u32 0, .int .u32 0, .int .u32 0, .int .u32 0, .int .u32 0, .int .u32 0, .int .u32 0, .int .u32 0, .int .u32 0, .int .u32 0, .int .u32 0, .int .u32 0, .int .u32 0, .int .u32 0, .int .u32 0, .int .u32 0, .int .u32 0, .int .u32 0, .int .u32 0, .int .u32 0, .int .u32 0, .int .u32 0, .int .u32 0, .int .u32 0, .int .u32 0, .int .u32 0, .int .u32 0, .int .u32 0, .int .u32 0, .int .u32 0, .int .u32 0, .int .u32 0, .int .u32 0, .int .u32 0, .int .u32 0, .int .u32 0, .int .u32 0, .int .u32 0, .int .u32 0, .int .u32 0, .int .u32 0, .int .u32 0, .int .u32 0, .int .u32 0, .int .u32 0, .int .u32 0, .int .u32 0, .int .u32 0, .int .u32 0, .int .u32 0, .int .u32 0, .int .u32 0, .int .u32 0, .int .u32 0, .int .u32 0] 39))).bind fun r3 =>
(asB r3.1).bind fun b4 =>
if (!b4) = true then
(some (.bool false, r3.2))
else
((callF Try.prog 11 #[.slice u1.1 u1.2.1 u1.2.2] r3.2).bind fun r5 =>
(asSl r5.1).bind fun q6 =>
(callF Try.prog 12 #[.int .u32 0, .slice u1.1 u1.2.1 u1.2.2] r5.2).bind fun r7 =>
(asI .u32 r7.1).bind fun n8 =>
(callF Try.prog 12 #[.int .u32 u0, .slice u1.1 u1.2.1 u1.2.2] r7.2).bind fun r9 =>
(asI .u32 r9.1).bind fun n10 =>
g3_l11 u0 u1 p2 r1 q6 n8 n10 (false, 0) r9.2)

theorem g3_eq (u0 : Int) (u1 : Option Addr × Nat × Nat) (w0 : World) : evFn Try.prog 3 g3_ann #[.int .u32 u0, .slice u1.1 u1.2.1 u1.2.2] w0 = g3 u0 u1 w0 := by kernel_rfl

theorem g3_call {u0 : Int} {u1 : Option Addr × Nat × Nat} {w0 : World} {r : Value × World} (h : g3 u0 u1 w0 = some r) : callF Try.prog 3 #[.int .u32 u0, .slice u1.1 u1.2.1 u1.2.2] w0 = some r :=
  callF_of_evFn (ann := g3_ann) Try.call3 (by kernel_rfl) ((g3_eq u0 u1 w0).trans h)

theorem g3_l27_x2_of {u1 : Option Addr × Nat × Nat} {q6 : Option Addr × Nat × Nat} {s t : Bool × Int} {w w' : World} (h : loopS (g3_l27_b u1 q6) s w = some (.exit 2, t, w')) : g3_l27 u1 q6 s w = g3_l27_x2 t w' := by
  have h1 : g3_l27 u1 q6 s w = loopM Try.prog 71 3 g3_ann (cAt [1, 1, 1, 1, 1, 1, 0, 1, 0, 0] (bodyOf Try.f3)) [0, 1, 0, 1, 1, 1, 1, 1, 1] g3_K38 ((g3_l27_cs u1 q6) ++ sputs [(4, .b), (11, .i .i64)] s) w := by kernel_rfl
  have h2 : loopM Try.prog 71 3 g3_ann (cAt [1, 1, 1, 1, 1, 1, 0, 1, 0, 0] (bodyOf Try.f3)) [0, 1, 0, 1, 1, 1, 1, 1, 1] g3_K38 ((g3_l27_cs u1 q6) ++ sputs [(4, .b), (11, .i .i64)] s) w = g3_K38 (.exit 2) (puts 71 ((g3_l27_cs u1 q6) ++ sputs [(4, .b), (11, .i .i64)] t)) w' :=
    loop_rule (P := Try.prog) (N := 71) (f := 3) (ann := g3_ann) (body := (cAt [1, 1, 1, 1, 1, 1, 0, 1, 0, 0] (bodyOf Try.f3))) (pt := [0, 1, 0, 1, 1, 1, 1, 1, 1]) (K := g3_K38) (g3_l27_cs u1 q6) [(4, .b), (11, .i .i64)] (b := g3_l27_b u1 q6) (fun s w => by kernel_rfl) (by kernel_rfl) (by kernel_rfl) (by kernel_rfl) h
  have h3 : g3_K38 (.exit 2) (puts 71 ((g3_l27_cs u1 q6) ++ sputs [(4, .b), (11, .i .i64)] t)) w' = g3_l27_x2 t w' := by kernel_rfl
  exact h1.trans (h2.trans h3)

theorem g3_l27_ret_of {u1 : Option Addr × Nat × Nat} {q6 : Option Addr × Nat × Nat} {s t : Bool × Int} {w w' : World} (h : loopS (g3_l27_b u1 q6) s w = some (.ret, t, w')) : g3_l27 u1 q6 s w = g3_l27_ret t w' := by
  have h1 : g3_l27 u1 q6 s w = loopM Try.prog 71 3 g3_ann (cAt [1, 1, 1, 1, 1, 1, 0, 1, 0, 0] (bodyOf Try.f3)) [0, 1, 0, 1, 1, 1, 1, 1, 1] g3_K38 ((g3_l27_cs u1 q6) ++ sputs [(4, .b), (11, .i .i64)] s) w := by kernel_rfl
  have h2 : loopM Try.prog 71 3 g3_ann (cAt [1, 1, 1, 1, 1, 1, 0, 1, 0, 0] (bodyOf Try.f3)) [0, 1, 0, 1, 1, 1, 1, 1, 1] g3_K38 ((g3_l27_cs u1 q6) ++ sputs [(4, .b), (11, .i .i64)] s) w = g3_K38 (.ret) (puts 71 ((g3_l27_cs u1 q6) ++ sputs [(4, .b), (11, .i .i64)] t)) w' :=
    loop_rule (P := Try.prog) (N := 71) (f := 3) (ann := g3_ann) (body := (cAt [1, 1, 1, 1, 1, 1, 0, 1, 0, 0] (bodyOf Try.f3))) (pt := [0, 1, 0, 1, 1, 1, 1, 1, 1]) (K := g3_K38) (g3_l27_cs u1 q6) [(4, .b), (11, .i .i64)] (b := g3_l27_b u1 q6) (fun s w => by kernel_rfl) (by kernel_rfl) (by kernel_rfl) (by kernel_rfl) h
  have h3 : g3_K38 (.ret) (puts 71 ((g3_l27_cs u1 q6) ++ sputs [(4, .b), (11, .i .i64)] t)) w' = g3_l27_ret t w' := by kernel_rfl
  exact h1.trans (h2.trans h3)

theorem g3_l11_x0_of {u0 : Int} {u1 : Option Addr × Nat × Nat} {p2 : Option Addr} {r1 : Value × World} {q6 : Option Addr × Nat × Nat} {n8 : Int} {n10 : Int} {s t : Bool × Int} {w w' : World} (h : loopS (g3_l11_b p2 q6 n8 u0 n10 r1 u1) s w = some (.exit 0, t, w')) : g3_l11 u0 u1 p2 r1 q6 n8 n10 s w = g3_l11_x0 u1 q6 t w' := by
  have h1 : g3_l11 u0 u1 p2 r1 q6 n8 n10 s w = loopM Try.prog 71 3 g3_ann (cAt [1, 1, 1, 1, 1, 0, 1, 0, 0] (bodyOf Try.f3)) [0, 1, 0, 1, 1, 1, 1, 1] g3_K24 ((g3_l11_cs u0 u1 p2 r1 q6 n8 n10) ++ sputs [(4, .b), (10, .i .i64)] s) w := by kernel_rfl
  have h2 : loopM Try.prog 71 3 g3_ann (cAt [1, 1, 1, 1, 1, 0, 1, 0, 0] (bodyOf Try.f3)) [0, 1, 0, 1, 1, 1, 1, 1] g3_K24 ((g3_l11_cs u0 u1 p2 r1 q6 n8 n10) ++ sputs [(4, .b), (10, .i .i64)] s) w = g3_K24 (.exit 0) (puts 71 ((g3_l11_cs u0 u1 p2 r1 q6 n8 n10) ++ sputs [(4, .b), (10, .i .i64)] t)) w' :=
    loop_rule (P := Try.prog) (N := 71) (f := 3) (ann := g3_ann) (body := (cAt [1, 1, 1, 1, 1, 0, 1, 0, 0] (bodyOf Try.f3))) (pt := [0, 1, 0, 1, 1, 1, 1, 1]) (K := g3_K24) (g3_l11_cs u0 u1 p2 r1 q6 n8 n10) [(4, .b), (10, .i .i64)] (b := g3_l11_b p2 q6 n8 u0 n10 r1 u1) (fun s w => by kernel_rfl) (by kernel_rfl) (by kernel_rfl) (by kernel_rfl) h
  have h3 : g3_K24 (.exit 0) (puts 71 ((g3_l11_cs u0 u1 p2 r1 q6 n8 n10) ++ sputs [(4, .b), (10, .i .i64)] t)) w' = g3_l11_x0 u1 q6 t w' := by kernel_rfl
  exact h1.trans (h2.trans h3)

theorem g3_l11_ret_of {u0 : Int} {u1 : Option Addr × Nat × Nat} {p2 : Option Addr} {r1 : Value × World} {q6 : Option Addr × Nat × Nat} {n8 : Int} {n10 : Int} {s t : Bool × Int} {w w' : World} (h : loopS (g3_l11_b p2 q6 n8 u0 n10 r1 u1) s w = some (.ret, t, w')) : g3_l11 u0 u1 p2 r1 q6 n8 n10 s w = g3_l11_ret t w' := by
  have h1 : g3_l11 u0 u1 p2 r1 q6 n8 n10 s w = loopM Try.prog 71 3 g3_ann (cAt [1, 1, 1, 1, 1, 0, 1, 0, 0] (bodyOf Try.f3)) [0, 1, 0, 1, 1, 1, 1, 1] g3_K24 ((g3_l11_cs u0 u1 p2 r1 q6 n8 n10) ++ sputs [(4, .b), (10, .i .i64)] s) w := by kernel_rfl
  have h2 : loopM Try.prog 71 3 g3_ann (cAt [1, 1, 1, 1, 1, 0, 1, 0, 0] (bodyOf Try.f3)) [0, 1, 0, 1, 1, 1, 1, 1] g3_K24 ((g3_l11_cs u0 u1 p2 r1 q6 n8 n10) ++ sputs [(4, .b), (10, .i .i64)] s) w = g3_K24 (.ret) (puts 71 ((g3_l11_cs u0 u1 p2 r1 q6 n8 n10) ++ sputs [(4, .b), (10, .i .i64)] t)) w' :=
    loop_rule (P := Try.prog) (N := 71) (f := 3) (ann := g3_ann) (body := (cAt [1, 1, 1, 1, 1, 0, 1, 0, 0] (bodyOf Try.f3))) (pt := [0, 1, 0, 1, 1, 1, 1, 1]) (K := g3_K24) (g3_l11_cs u0 u1 p2 r1 q6 n8 n10) [(4, .b), (10, .i .i64)] (b := g3_l11_b p2 q6 n8 u0 n10 r1 u1) (fun s w => by kernel_rfl) (by kernel_rfl) (by kernel_rfl) (by kernel_rfl) h
  have h3 : g3_K24 (.ret) (puts 71 ((g3_l11_cs u0 u1 p2 r1 q6 n8 n10) ++ sputs [(4, .b), (10, .i .i64)] t)) w' = g3_l11_ret t w' := by kernel_rfl
  exact h1.trans (h2.trans h3)

/-! 4: penstock/penstocklaw02.CrcPieces (b: []uint8, at: uint16, sum: uint32) -/
def g4_ann : List (List Nat × List Nat) := []

noncomputable def g4 (u0 : Option Addr × Nat × Nat) (u1 : Int) (u2 : Int) (w0 : World) : Option (Value × World) :=
(callF Try.prog 9 #[] w0).bind fun r1 =>
(asP r1.1).bind fun p2 =>
if ((IntKind.i64.wrap ((u0.2.1 : Int) + 1)) : Int) = 0 then
(none)
else
((callF Try.prog 10 #[] (World.drew r1.2)).bind fun r4 =>
(asB r4.1).bind fun b5 =>
if b5 = true then
((slc u0.1 u0.2.1 u0.2.2 1 none (some (Int.tmod (IntKind.i64.wrap u1) (IntKind.i64.wrap ((u0.2.1 : Int) + 1)))) none).bind fun q6 =>
(slc u0.1 u0.2.1 u0.2.2 1 (some (Int.tmod (IntKind.i64.wrap u1) (IntKind.i64.wrap ((u0.2.1 : Int) + 1)))) none none).bind fun q7 =>
(callF Try.prog 11 #[.slice q6.1 q6.2.1 q6.2.2] r4.2).bind fun r8 =>
(asSl r8.1).bind fun q9 =>
(callF Try.prog 13 #[.pointer p2, .slice q9.1 q9.2.1 q9.2.2] r8.2).bind fun r10 =>
(asI .u32 r10.1).bind fun n11 =>
(callF Try.prog 11 #[.slice q7.1 q7.2.1 q7.2.2] r10.2).bind fun r12 =>
(asSl r12.1).bind fun q13 =>
(callF Try.prog 14 #[.pointer p2, .int .u32 n11, .slice q13.1 q13.2.1 q13.2.2] r12.2).bind fun r14 =>
(asI .u32 r14.1).bind fun n15 =>
(callF Try.prog 11 #[.slice u0.1 u0.2.1 u0.2.2] r14.2).bind fun r16 =>
(asSl r16.1).bind fun q17 =>
(callF Try.prog 13 #[.pointer p2, .slice q17.1 q17.2.1 q17.2.2] r16.2).bind fun r18 =>
(asI .u32 r18.1).bind fun n19 =>
if ((n15 : Int) == n19) = true then
((slc u0.1 u0.2.1 u0.2.2 1 none (some (Int.tmod (IntKind.i64.wrap u1) (IntKind.i64.wrap ((u0.2.1 : Int) + 1)))) none).bind fun q20 =>
(slc u0.1 u0.2.1 u0.2.2 1 (some (Int.tmod (IntKind.i64.wrap u1) (IntKind.i64.wrap ((u0.2.1 : Int) + 1)))) none none).bind fun q21 =>
(callF Try.prog 14 #[.pointer p2, .int .u32 u2, .slice q20.1 q20.2.1 q20.2.2] r18.2).bind fun r22 =>
(asI .u32 r22.1).bind fun n23 =>
(callF Try.prog 14 #[.pointer p2, .int .u32 n23, .slice q21.1 q21.2.1 q21.2.2] r22.2).bind fun r24 =>
(asI .u32 r24.1).bind fun n25 =>
(callF Try.prog 14 #[.pointer p2, .int .u32 u2, .slice u0.1 u0.2.1 u0.2.2] r24.2).bind fun r26 =>
(asI .u32 r26.1).bind fun n27 =>
some (.bool ((n25 : Int) == n27), r26.2))
else
(some (.bool false, r18.2)))
else
(some (.bool false, r4.2)))

theorem g4_eq (u0 : Option Addr × Nat × Nat) (u1 : Int) (u2 : Int) (w0 : World) : evFn Try.prog 4 g4_ann #[.slice u0.1 u0.2.1 u0.2.2, .int .u16 u1, .int .u32 u2] w0 = g4 u0 u1 u2 w0 := by kernel_rfl

theorem g4_call {u0 : Option Addr × Nat × Nat} {u1 : Int} {u2 : Int} {w0 : World} {r : Value × World} (h : g4 u0 u1 u2 w0 = some r) : callF Try.prog 4 #[.slice u0.1 u0.2.1 u0.2.2, .int .u16 u1, .int .u32 u2] w0 = some r :=
  callF_of_evFn (ann := g4_ann) Try.call4 (by kernel_rfl) ((g4_eq u0 u1 u2 w0).trans h)

/-! 5: penstock/penstocklaw02.CrcTurned (b: []uint8, at: uint16, by: uint32) -/
def g5_ann : List (List Nat × List Nat) := [([0, 1, 0, 1, 1, 1, 1, 1], [0, 2, 7, 8, 9, 10])]

def g5_l15_cs (u0 : Option Addr × Nat × Nat) (u2 : Int) (p2 : Option Addr) (u1 : Int) (q14 : Option Addr × Nat × Nat) : List (Nat × Value) := ([(0, .slice u0.1 u0.2.1 u0.2.2), (2, .int .u32 u2), (7, .pointer p2), (8, .int .i64 (Int.tmod (IntKind.i64.wrap u1) (IntKind.i64.wrap (8 * (IntKind.i64.wrap ((u0.2.1 : Int) - 4)))))), (9, .slice q14.1 q14.2.1 q14.2.2)] : List (Nat × Value))

/-- the round of a loop (penstock/penstocklaw02.CrcTurned) -/
noncomputable def g5_l15_b (u2 : Int) (q14 : Option Addr × Nat × Nat) (u1 : Int) (u0 : Option Addr × Nat × Nat) (p2 : Option Addr) (s16 : Int) (w17 : World) : Option (Exit × (Int) × World) :=
if (decide ((s16 : Int) < 32)) = true then
(if ((IntKind.u64.wrap s16) : Int) < 0 then
(none)
else
(if (((IntKind.u32.wrap ((BitVec.ofInt 32 (Int.fdiv u2 (2 ^ (min (Int.toNat (IntKind.u64.wrap s16)) 32))) &&& BitVec.ofInt 32 1).toNat : Nat)) : Int) == 1) = true then
((idxA q14.1 q14.2.1 1 (IntKind.i64.wrap (Int.tdiv (IntKind.i64.wrap ((Int.tmod (IntKind.i64.wrap u1) (IntKind.i64.wrap (8 * (IntKind.i64.wrap ((u0.2.1 : Int) - 4))))) + s16)) 8))).bind fun a18 =>
(World.cell? w17 a18).bind fun v19 =>
(asI .u8 v19).bind fun n20 =>
if ((IntKind.u64.wrap (Int.tmod (IntKind.i64.wrap ((Int.tmod (IntKind.i64.wrap u1) (IntKind.i64.wrap (8 * (IntKind.i64.wrap ((u0.2.1 : Int) - 4))))) + s16)) 8)) : Int) < 0 then
(none)
else
((idxA q14.1 q14.2.1 1 (IntKind.i64.wrap (Int.tdiv (IntKind.i64.wrap ((Int.tmod (IntKind.i64.wrap u1) (IntKind.i64.wrap (8 * (IntKind.i64.wrap ((u0.2.1 : Int) - 4))))) + s16)) 8))).bind fun a21 =>
(st1 w17 a21 (.int .u8 (IntKind.u8.wrap ((BitVec.ofInt 8 n20 ^^^ BitVec.ofInt 8 (IntKind.u8.wrap (1 * 2 ^ (min (Int.toNat (IntKind.u64.wrap (Int.tmod (IntKind.i64.wrap ((Int.tmod (IntKind.i64.wrap u1) (IntKind.i64.wrap (8 * (IntKind.i64.wrap ((u0.2.1 : Int) - 4))))) + s16)) 8))) 8)))).toNat : Nat)))).bind fun w22 =>
some (.normal, (IntKind.i64.wrap (s16 + 1)), w22)))
else
(some (.normal, (IntKind.i64.wrap (s16 + 1)), w17))))
else
(some ((.exit 0), s16, w17))

noncomputable def g5_K23  : Exit → Env → World → Option (Value × World) :=
  retK Try.prog Try.f5.results.toList

noncomputable def g5_K24  : Exit → Env → World → Option (Value × World) :=
  seqK (ev Try.prog 71 5 g5_ann (cAt [1, 1, 1, 1, 1, 1] (bodyOf Try.f5)) [1, 1, 1, 1, 1, 1] g5_K23) g5_K23

noncomputable def g5_K25  : Exit → Env → World → Option (Value × World) :=
  blkK 0 g5_K24

/-- the loop, from a state on -/
noncomputable def g5_l15 (u0 : Option Addr × Nat × Nat) (u2 : Int) (p2 : Option Addr) (u1 : Int) (q14 : Option Addr × Nat × Nat) (s : Int) (w : World) : Option (Value × World) :=
  loopM Try.prog 71 5 g5_ann (cAt [1, 1, 1, 1, 1, 0, 1, 0, 0] (bodyOf Try.f5)) [0, 1, 0, 1, 1, 1, 1, 1] g5_K25 ((g5_l15_cs u0 u2 p2 u1 q14) ++ sputs [(10, .i .i64)] s) w

/-- behind the loop, left by x0 -/
noncomputable def g5_l15_x0 (p2 : Option Addr) (q14 : Option Addr × Nat × Nat) (u0 : Option Addr × Nat × Nat) (t26 : Int) (w27 : World) : Option (Value × World) :=
(callF Try.prog 13 #[.pointer p2, .slice q14.1 q14.2.1 q14.2.2] w27).bind fun r28 =>
(asI .u32 r28.1).bind fun n29 =>
(callF Try.prog 11 #[.slice u0.1 u0.2.1 u0.2.2] r28.2).bind fun r30 =>
(asSl r30.1).bind fun q31 =>
(callF Try.prog 13 #[.pointer p2, .slice q31.1 q31.2.1 q31.2.2] r30.2).bind fun r32 =>
(asI .u32 r32.1).bind fun n33 =>
some (.bool ((n29 : Int) != n33), r32.2)

noncomputable def g5 (u0 : Option Addr × Nat × Nat) (u1 : Int) (u2 : Int) (w0 : World) : Option (Value × World) :=
(callF Try.prog 9 #[] w0).bind fun r1 =>
(asP r1.1).bind fun p2 =>
(callF Try.prog 10 #[] r1.2).bind fun r3 =>
(asB r3.1).bind fun b4 =>
if (!b4) = true then
((callF Try.prog 10 #[] r3.2).bind fun r5 =>
(asB r5.1).bind fun b6 =>
some (.bool b6, r5.2))
else
(if ((u2 : Int) == 0) = true then
((callF Try.prog 10 #[] r3.2).bind fun r7 =>
(asB r7.1).bind fun b8 =>
some (.bool b8, r7.2))
else
(if (decide (((u0.2.1 : Int) : Int) < 5)) = true then
((callF Try.prog 10 #[] r3.2).bind fun r10 =>
(asB r10.1).bind fun b11 =>
some (.bool b11, r10.2))
else
(if ((IntKind.i64.wrap (8 * (IntKind.i64.wrap ((u0.2.1 : Int) - 4)))) : Int) = 0 then
(none)
else
((callF Try.prog 11 #[.slice u0.1 u0.2.1 u0.2.2] r3.2).bind fun r13 =>
(asSl r13.1).bind fun q14 =>
g5_l15 u0 u2 p2 u1 q14 0 r13.2))))

theorem g5_eq (u0 : Option Addr × Nat × Nat) (u1 : Int) (u2 : Int) (w0 : World) : evFn Try.prog 5 g5_ann #[.slice u0.1 u0.2.1 u0.2.2, .int .u16 u1, .int .u32 u2] w0 = g5 u0 u1 u2 w0 := by kernel_rfl

theorem g5_call {u0 : Option Addr × Nat × Nat} {u1 : Int} {u2 : Int} {w0 : World} {r : Value × World} (h : g5 u0 u1 u2 w0 = some r) : callF Try.prog 5 #[.slice u0.1 u0.2.1 u0.2.2, .int .u16 u1, .int .u32 u2] w0 = some r :=
  callF_of_evFn (ann := g5_ann) Try.call5 (by kernel_rfl) ((g5_eq u0 u1 u2 w0).trans h)

theorem g5_l15_x0_of {u0 : Option Addr × Nat × Nat} {u2 : Int} {p2 : Option Addr} {u1 : Int} {q14 : Option Addr × Nat × Nat} {s t : Int} {w w' : World} (h : loopS (g5_l15_b u2 q14 u1 u0 p2) s w = some (.exit 0, t, w')) : g5_l15 u0 u2 p2 u1 q14 s w = g5_l15_x0 p2 q14 u0 t w' := by
  have h1 : g5_l15 u0 u2 p2 u1 q14 s w = loopM Try.prog 71 5 g5_ann (cAt [1, 1, 1, 1, 1, 0, 1, 0, 0] (bodyOf Try.f5)) [0, 1, 0, 1, 1, 1, 1, 1] g5_K25 ((g5_l15_cs u0 u2 p2 u1 q14) ++ sputs [(10, .i .i64)] s) w := by kernel_rfl
  have h2 : loopM Try.prog 71 5 g5_ann (cAt [1, 1, 1, 1, 1, 0, 1, 0, 0] (bodyOf Try.f5)) [0, 1, 0, 1, 1, 1, 1, 1] g5_K25 ((g5_l15_cs u0 u2 p2 u1 q14) ++ sputs [(10, .i .i64)] s) w = g5_K25 (.exit 0) (puts 71 ((g5_l15_cs u0 u2 p2 u1 q14) ++ sputs [(10, .i .i64)] t)) w' :=
    loop_rule (P := Try.prog) (N := 71) (f := 5) (ann := g5_ann) (body := (cAt [1, 1, 1, 1, 1, 0, 1, 0, 0] (bodyOf Try.f5))) (pt := [0, 1, 0, 1, 1, 1, 1, 1]) (K := g5_K25) (g5_l15_cs u0 u2 p2 u1 q14) [(10, .i .i64)] (b := g5_l15_b u2 q14 u1 u0 p2) (fun s w => by kernel_rfl) (by kernel_rfl) (by kernel_rfl) (by kernel_rfl) h
  have h3 : g5_K25 (.exit 0) (puts 71 ((g5_l15_cs u0 u2 p2 u1 q14) ++ sputs [(10, .i .i64)] t)) w' = g5_l15_x0 p2 q14 u0 t w' := by kernel_rfl
  exact h1.trans (h2.trans h3)

/-! 6: penstock/penstocklaw02.CrcTogether (b: []uint8, x: uint8, y: uint8) -/
def g6_ann : List (List Nat × List Nat) := [([0, 1, 0, 1, 1, 1], [0, 1, 2, 7, 8, 9, 10, 11])]

def g6_l9_cs (u0 : Option Addr × Nat × Nat) (u1 : Int) (u2 : Int) (p2 : Option Addr) (q4 : Option Addr × Nat × Nat) (q6 : Option Addr × Nat × Nat) (q8 : Option Addr × Nat × Nat) : List (Nat × Value) := ([(0, .slice u0.1 u0.2.1 u0.2.2), (1, .int .u8 u1), (2, .int .u8 u2), (7, .pointer p2), (8, .slice q4.1 q4.2.1 q4.2.2), (9, .slice q6.1 q6.2.1 q6.2.2), (10, .slice q8.1 q8.2.1 q8.2.2)] : List (Nat × Value))

/-- the round of a loop (penstock/penstocklaw02.CrcTogether) -/
noncomputable def g6_l9_b (u0 : Option Addr × Nat × Nat) (q4 : Option Addr × Nat × Nat) (u1 : Int) (q6 : Option Addr × Nat × Nat) (u2 : Int) (q8 : Option Addr × Nat × Nat) (p2 : Option Addr) (s10 : Int) (w11 : World) : Option (Exit × (Int) × World) :=
if (decide ((s10 : Int) < (u0.2.1 : Int))) = true then
((idxA u0.1 u0.2.1 1 s10).bind fun a13 =>
(World.cell? w11 a13).bind fun v14 =>
(asI .u8 v14).bind fun n15 =>
(idxA q4.1 q4.2.1 1 s10).bind fun a16 =>
(st1 w11 a16 (.int .u8 (IntKind.u8.wrap ((IntKind.u8.wrap (n15 * u1)) + (IntKind.u8.wrap s10))))).bind fun w17 =>
(idxA u0.1 u0.2.1 1 s10).bind fun a18 =>
(World.cell? w17 a18).bind fun v19 =>
(asI .u8 v19).bind fun n20 =>
(idxA q6.1 q6.2.1 1 s10).bind fun a21 =>
(st1 w17 a21 (.int .u8 (IntKind.u8.wrap ((BitVec.ofInt 8 n20 ^^^ BitVec.ofInt 8 (IntKind.u8.wrap (u2 * (IntKind.u8.wrap (IntKind.i64.wrap (s10 + 3)))))).toNat : Nat)))).bind fun w22 =>
(idxA q4.1 q4.2.1 1 s10).bind fun a23 =>
(World.cell? (World.drew w22) a23).bind fun v24 =>
(asI .u8 v24).bind fun n25 =>
(idxA u0.1 u0.2.1 1 s10).bind fun a26 =>
(World.cell? (World.drew w22) a26).bind fun v27 =>
(asI .u8 v27).bind fun n28 =>
(idxA q6.1 q6.2.1 1 s10).bind fun a29 =>
(World.cell? (World.drew w22) a29).bind fun v30 =>
(asI .u8 v30).bind fun n31 =>
(idxA q8.1 q8.2.1 1 s10).bind fun a32 =>
(st1 (World.drew w22) a32 (.int .u8 (IntKind.u8.wrap ((BitVec.ofInt 8 (IntKind.u8.wrap ((BitVec.ofInt 8 n25 ^^^ BitVec.ofInt 8 n28).toNat : Nat)) ^^^ BitVec.ofInt 8 n31).toNat : Nat)))).bind fun w33 =>
some (.normal, (IntKind.i64.wrap (s10 + 1)), w33))
else
(some ((.exit 0), s10, w11))

noncomputable def g6_K34  : Exit → Env → World → Option (Value × World) :=
  retK Try.prog Try.f6.results.toList

noncomputable def g6_K35  : Exit → Env → World → Option (Value × World) :=
  seqK (ev Try.prog 86 6 g6_ann (cAt [1, 1, 1, 1] (bodyOf Try.f6)) [1, 1, 1, 1] g6_K34) g6_K34

noncomputable def g6_K36  : Exit → Env → World → Option (Value × World) :=
  blkK 0 g6_K35

/-- the loop, from a state on -/
noncomputable def g6_l9 (u0 : Option Addr × Nat × Nat) (u1 : Int) (u2 : Int) (p2 : Option Addr) (q4 : Option Addr × Nat × Nat) (q6 : Option Addr × Nat × Nat) (q8 : Option Addr × Nat × Nat) (s : Int) (w : World) : Option (Value × World) :=
  loopM Try.prog 86 6 g6_ann (cAt [1, 1, 1, 0, 1, 0, 0] (bodyOf Try.f6)) [0, 1, 0, 1, 1, 1] g6_K36 ((g6_l9_cs u0 u1 u2 p2 q4 q6 q8) ++ sputs [(11, .i .i64)] s) w

/-- behind the loop, left by x0 -/
noncomputable def g6_l9_x0 (p2 : Option Addr) (q8 : Option Addr × Nat × Nat) (q4 : Option Addr × Nat × Nat) (u0 : Option Addr × Nat × Nat) (q6 : Option Addr × Nat × Nat) (t37 : Int) (w38 : World) : Option (Value × World) :=
(callF Try.prog 10 #[] w38).bind fun r39 =>
(asB r39.1).bind fun b40 =>
if b40 = true then
((callF Try.prog 13 #[.pointer p2, .slice q8.1 q8.2.1 q8.2.2] r39.2).bind fun r41 =>
(asI .u32 r41.1).bind fun n42 =>
(callF Try.prog 13 #[.pointer p2, .slice q4.1 q4.2.1 q4.2.2] r41.2).bind fun r43 =>
(asI .u32 r43.1).bind fun n44 =>
(callF Try.prog 11 #[.slice u0.1 u0.2.1 u0.2.2] r43.2).bind fun r45 =>
(asSl r45.1).bind fun q46 =>
(callF Try.prog 13 #[.pointer p2, .slice q46.1 q46.2.1 q46.2.2] r45.2).bind fun r47 =>
(asI .u32 r47.1).bind fun n48 =>
(callF Try.prog 13 #[.pointer p2, .slice q6.1 q6.2.1 q6.2.2] r47.2).bind fun r49 =>
(asI .u32 r49.1).bind fun n50 =>
some (.bool ((n42 : Int) == (IntKind.u32.wrap ((BitVec.ofInt 32 (IntKind.u32.wrap ((BitVec.ofInt 32 n44 ^^^ BitVec.ofInt 32 n48).toNat : Nat)) ^^^ BitVec.ofInt 32 n50).toNat : Nat))), r49.2))
else
(some (.bool false, r39.2))

noncomputable def g6 (u0 : Option Addr × Nat × Nat) (u1 : Int) (u2 : Int) (w0 : World) : Option (Value × World) :=
(callF Try.prog 9 #[] w0).bind fun r1 =>
(asP r1.1).bind fun p2 =>
(callF Try.prog 11 #[.slice u0.1 u0.2.1 u0.2.2] r1.2).bind fun r3 =>
(asSl r3.1).bind fun q4 =>
(callF Try.prog 11 #[.slice u0.1 u0.2.1 u0.2.2] r3.2).bind fun r5 =>
(asSl r5.1).bind fun q6 =>
(callF Try.prog 11 #[.slice u0.1 u0.2.1 u0.2.2] r5.2).bind fun r7 =>
(asSl r7.1).bind fun q8 =>
g6_l9 u0 u1 u2 p2 q4 q6 q8 0 r7.2

theorem g6_eq (u0 : Option Addr × Nat × Nat) (u1 : Int) (u2 : Int) (w0 : World) : evFn Try.prog 6 g6_ann #[.slice u0.1 u0.2.1 u0.2.2, .int .u8 u1, .int .u8 u2] w0 = g6 u0 u1 u2 w0 := by kernel_rfl

theorem g6_call {u0 : Option Addr × Nat × Nat} {u1 : Int} {u2 : Int} {w0 : World} {r : Value × World} (h : g6 u0 u1 u2 w0 = some r) : callF Try.prog 6 #[.slice u0.1 u0.2.1 u0.2.2, .int .u8 u1, .int .u8 u2] w0 = some r :=
  callF_of_evFn (ann := g6_ann) Try.call6 (by kernel_rfl) ((g6_eq u0 u1 u2 w0).trans h)

theorem g6_l9_x0_of {u0 : Option Addr × Nat × Nat} {u1 : Int} {u2 : Int} {p2 : Option Addr} {q4 : Option Addr × Nat × Nat} {q6 : Option Addr × Nat × Nat} {q8 : Option Addr × Nat × Nat} {s t : Int} {w w' : World} (h : loopS (g6_l9_b u0 q4 u1 q6 u2 q8 p2) s w = some (.exit 0, t, w')) : g6_l9 u0 u1 u2 p2 q4 q6 q8 s w = g6_l9_x0 p2 q8 q4 u0 q6 t w' := by
  have h1 : g6_l9 u0 u1 u2 p2 q4 q6 q8 s w = loopM Try.prog 86 6 g6_ann (cAt [1, 1, 1, 0, 1, 0, 0] (bodyOf Try.f6)) [0, 1, 0, 1, 1, 1] g6_K36 ((g6_l9_cs u0 u1 u2 p2 q4 q6 q8) ++ sputs [(11, .i .i64)] s) w := by kernel_rfl
  have h2 : loopM Try.prog 86 6 g6_ann (cAt [1, 1, 1, 0, 1, 0, 0] (bodyOf Try.f6)) [0, 1, 0, 1, 1, 1] g6_K36 ((g6_l9_cs u0 u1 u2 p2 q4 q6 q8) ++ sputs [(11, .i .i64)] s) w = g6_K36 (.exit 0) (puts 86 ((g6_l9_cs u0 u1 u2 p2 q4 q6 q8) ++ sputs [(11, .i .i64)] t)) w' :=
    loop_rule (P := Try.prog) (N := 86) (f := 6) (ann := g6_ann) (body := (cAt [1, 1, 1, 0, 1, 0, 0] (bodyOf Try.f6))) (pt := [0, 1, 0, 1, 1, 1]) (K := g6_K36) (g6_l9_cs u0 u1 u2 p2 q4 q6 q8) [(11, .i .i64)] (b := g6_l9_b u0 q4 u1 q6 u2 q8 p2) (fun s w => by kernel_rfl) (by kernel_rfl) (by kernel_rfl) (by kernel_rfl) h
  have h3 : g6_K36 (.exit 0) (puts 86 ((g6_l9_cs u0 u1 u2 p2 q4 q6 q8) ++ sputs [(11, .i .i64)] t)) w' = g6_l9_x0 p2 q8 q4 u0 q6 t w' := by kernel_rfl
  exact h1.trans (h2.trans h3)

/-! 7: penstock/penstocklaw02.CrcAhead (b: []uint8, n: uint8) -/
def g7_ann : List (List Nat × List Nat) := [([0, 1, 0, 1, 1, 1], [0, 1, 5, 6, 7])]

def g7_l3_cs (u0 : Option Addr × Nat × Nat) (u1 : Int) (p2 : Option Addr) : List (Nat × Value) := ([(0, .slice u0.1 u0.2.1 u0.2.2), (1, .int .u8 u1), (5, .pointer p2)] : List (Nat × Value))

/-- the round of a loop (penstock/penstocklaw02.CrcAhead) -/
noncomputable def g7_l3_b (u1 : Int) (u0 : Option Addr × Nat × Nat) (p2 : Option Addr) (s4 : (Option Addr × Nat × Nat) × Int) (w5 : World) : Option (Exit × ((Option Addr × Nat × Nat) × Int) × World) :=
if (decide ((s4.2 : Int) < (IntKind.i64.wrap ((IntKind.i64.wrap (Int.tmod u1 60)) + 1)))) = true then
((callB Try.prog .append #[23, 23] 23 #[false, false] #[.slice s4.1.1 s4.1.2.1 s4.1.2.2, .slice (some (⟨w5.heap.size, 0, none⟩)) 1 1] (World.alloc w5 (.cells #[.int .u8 0] 5))).bind fun r6 =>
(asSl r6.1).bind fun q7 =>
some (.normal, ((q7.1, q7.2.1, q7.2.2), (IntKind.i64.wrap (s4.2 + 1))), r6.2))
else
(some ((.exit 0), ((s4.1.1, s4.1.2.1, s4.1.2.2), s4.2), w5))

noncomputable def g7_K8  : Exit → Env → World → Option (Value × World) :=
  retK Try.prog Try.f7.results.toList

noncomputable def g7_K9  : Exit → Env → World → Option (Value × World) :=
  seqK (ev Try.prog 51 7 g7_ann (cAt [1, 1, 1, 1] (bodyOf Try.f7)) [1, 1, 1, 1] g7_K8) g7_K8

noncomputable def g7_K10  : Exit → Env → World → Option (Value × World) :=
  blkK 0 g7_K9

/-- the loop, from a state on -/
noncomputable def g7_l3 (u0 : Option Addr × Nat × Nat) (u1 : Int) (p2 : Option Addr) (s : (Option Addr × Nat × Nat) × Int) (w : World) : Option (Value × World) :=
  loopM Try.prog 51 7 g7_ann (cAt [1, 1, 1, 0, 1, 0, 0] (bodyOf Try.f7)) [0, 1, 0, 1, 1, 1] g7_K10 ((g7_l3_cs u0 u1 p2) ++ sputs [(6, .sl), (7, .i .i64)] s) w

/-- behind the loop, left by x0 -/
noncomputable def g7_l3_x0 (p2 : Option Addr) (u0 : Option Addr × Nat × Nat) (t11 : (Option Addr × Nat × Nat) × Int) (w12 : World) : Option (Value × World) :=
(callF Try.prog 13 #[.pointer p2, .slice t11.1.1 t11.1.2.1 t11.1.2.2] w12).bind fun r13 =>
(asI .u32 r13.1).bind fun n14 =>
(callB Try.prog .append #[23, 23] 23 #[false, false] #[.slice t11.1.1 t11.1.2.1 t11.1.2.2, .slice u0.1 u0.2.1 u0.2.2] r13.2).bind fun r15 =>
(asSl r15.1).bind fun q16 =>
(callF Try.prog 10 #[] r15.2).bind fun r17 =>
(asB r17.1).bind fun b18 =>
if b18 = true then
((callF Try.prog 13 #[.pointer p2, .slice q16.1 q16.2.1 q16.2.2] r17.2).bind fun r19 =>
(asI .u32 r19.1).bind fun n20 =>
(callF Try.prog 14 #[.pointer p2, .int .u32 n14, .slice u0.1 u0.2.1 u0.2.2] r19.2).bind fun r21 =>
(asI .u32 r21.1).bind fun n22 =>
if ((n20 : Int) == n22) = true then
((callF Try.prog 13 #[.pointer p2, .slice q16.1 q16.2.1 q16.2.2] r21.2).bind fun r23 =>
(asI .u32 r23.1).bind fun n24 =>
(callF Try.prog 11 #[.slice u0.1 u0.2.1 u0.2.2] r23.2).bind fun r25 =>
(asSl r25.1).bind fun q26 =>
(callF Try.prog 13 #[.pointer p2, .slice q26.1 q26.2.1 q26.2.2] r25.2).bind fun r27 =>
(asI .u32 r27.1).bind fun n28 =>
some (.bool (((n14 : Int) == 0) == ((n24 : Int) == n28)), r27.2))
else
(some (.bool false, r21.2)))
else
(some (.bool false, r17.2))

noncomputable def g7 (u0 : Option Addr × Nat × Nat) (u1 : Int) (w0 : World) : Option (Value × World) :=
(callF Try.prog 9 #[] w0).bind fun r1 =>
(asP r1.1).bind fun p2 =>
g7_l3 u0 u1 p2 ((none, 0, 0), 0) r1.2

theorem g7_eq (u0 : Option Addr × Nat × Nat) (u1 : Int) (w0 : World) : evFn Try.prog 7 g7_ann #[.slice u0.1 u0.2.1 u0.2.2, .int .u8 u1] w0 = g7 u0 u1 w0 := by kernel_rfl

theorem g7_call {u0 : Option Addr × Nat × Nat} {u1 : Int} {w0 : World} {r : Value × World} (h : g7 u0 u1 w0 = some r) : callF Try.prog 7 #[.slice u0.1 u0.2.1 u0.2.2, .int .u8 u1] w0 = some r :=
  callF_of_evFn (ann := g7_ann) Try.call7 (by kernel_rfl) ((g7_eq u0 u1 w0).trans h)

theorem g7_l3_x0_of {u0 : Option Addr × Nat × Nat} {u1 : Int} {p2 : Option Addr} {s t : (Option Addr × Nat × Nat) × Int} {w w' : World} (h : loopS (g7_l3_b u1 u0 p2) s w = some (.exit 0, t, w')) : g7_l3 u0 u1 p2 s w = g7_l3_x0 p2 u0 t w' := by
  have h1 : g7_l3 u0 u1 p2 s w = loopM Try.prog 51 7 g7_ann (cAt [1, 1, 1, 0, 1, 0, 0] (bodyOf Try.f7)) [0, 1, 0, 1, 1, 1] g7_K10 ((g7_l3_cs u0 u1 p2) ++ sputs [(6, .sl), (7, .i .i64)] s) w := by kernel_rfl
  have h2 : loopM Try.prog 51 7 g7_ann (cAt [1, 1, 1, 0, 1, 0, 0] (bodyOf Try.f7)) [0, 1, 0, 1, 1, 1] g7_K10 ((g7_l3_cs u0 u1 p2) ++ sputs [(6, .sl), (7, .i .i64)] s) w = g7_K10 (.exit 0) (puts 51 ((g7_l3_cs u0 u1 p2) ++ sputs [(6, .sl), (7, .i .i64)] t)) w' :=
    loop_rule (P := Try.prog) (N := 51) (f := 7) (ann := g7_ann) (body := (cAt [1, 1, 1, 0, 1, 0, 0] (bodyOf Try.f7))) (pt := [0, 1, 0, 1, 1, 1]) (K := g7_K10) (g7_l3_cs u0 u1 p2) [(6, .sl), (7, .i .i64)] (b := g7_l3_b u1 u0 p2) (fun s w => by kernel_rfl) (by kernel_rfl) (by kernel_rfl) (by kernel_rfl) h
  have h3 : g7_K10 (.exit 0) (puts 51 ((g7_l3_cs u0 u1 p2) ++ sputs [(6, .sl), (7, .i .i64)] t)) w' = g7_l3_x0 p2 u0 t w' := by kernel_rfl
  exact h1.trans (h2.trans h3)

end Go.Proofs.Ytakcmfbkknaehaa
