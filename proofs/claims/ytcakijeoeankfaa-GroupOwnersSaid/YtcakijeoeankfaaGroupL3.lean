/-
  GroupL3: lemmas on what Go functions of this seat come to (for whatever arguments, as each says). No condition but those that stand in each lemma.
-/
import Derived.Test.YtcakijeoeankfaaGroupF0
namespace Go.Proofs.Ytcakijeoeankfaa
open Go Go.Ev
set_option maxRecDepth 100000
set_option linter.unusedVariables false
/-! 3: penstock/penstocklaw16.GroupOwners (members: []int, parts: uint8) -/
def g3_ann : List (List Nat × List Nat) := [([0, 1, 0, 1, 1, 1, 1], [0, 5, 6, 4, 7]), ([0, 1, 0, 1, 1, 1, 1, 1], [0, 5, 62, 63, 4, 64])]

def g3_l4_cs (u0 : Option Addr × Nat × Nat) (u1 : Int) (r1 : Value × World) : List (Nat × Value) := ([(0, .slice u0.1 u0.2.1 u0.2.2), (5, .int .i64 (IntKind.i64.wrap (Int.tmod u1 40))), (6, .slice (some (⟨r1.2.heap.size, 0, none⟩)) (Int.toNat (u0.2.1 : Int)) (Int.toNat (u0.2.1 : Int)))] : List (Nat × Value))

/-- the round of a loop (penstock/penstocklaw16.GroupOwners) -/
noncomputable def g3_l4_b (u1 : Int) (u0 : Option Addr × Nat × Nat) (r1 : Value × World) (s5 : Bool × Int) (w6 : World) : Option (Exit × (Bool × Int) × World) :=
if (decide ((s5.2 : Int) < (IntKind.i64.wrap (Int.tmod u1 40)))) = true then
((callF Try.prog 10 #[.slice u0.1 u0.2.1 u0.2.2, .int .i64 s5.2] w6).bind fun r7 =>
(asI .i64 r7.1).bind fun n8 =>
(callF Try.prog 11 #[.slice u0.1 u0.2.1 u0.2.2, .int .i64 s5.2] r7.2).bind fun r9 =>
(asI .i64 r9.1).bind fun n10 =>
if ((n8 : Int) != n10) = true then
(some (.ret, (false, s5.2), r9.2))
else
(if (((u0.2.1 : Int) : Int) == 0) = true then
(if ((n8 : Int) != (-1)) = true then
(some (.ret, (false, s5.2), r9.2))
else
(if (decide (((u0.2.1 : Int) : Int) > 0)) = true then
(if ((u0.2.1 : Int) : Int) = 0 then
(none)
else
((idxA (some (⟨r1.2.heap.size, 0, none⟩)) (Int.toNat (u0.2.1 : Int)) 1 (Int.tmod s5.2 (u0.2.1 : Int))).bind fun a14 =>
(World.cell? r9.2 a14).bind fun v15 =>
(asI .i64 v15).bind fun n16 =>
(idxA (some (⟨r1.2.heap.size, 0, none⟩)) (Int.toNat (u0.2.1 : Int)) 1 (Int.tmod s5.2 (u0.2.1 : Int))).bind fun a17 =>
(st1 r9.2 a17 (.int .i64 (IntKind.i64.wrap (n16 + 1)))).bind fun w18 =>
if ((u0.2.1 : Int) : Int) = 0 then
(none)
else
((idxA u0.1 u0.2.1 1 (Int.tmod s5.2 (u0.2.1 : Int))).bind fun a20 =>
(World.cell? w18 a20).bind fun v21 =>
(asI .i64 v21).bind fun n22 =>
if ((n22 : Int) != n8) = true then
(some (.ret, (false, s5.2), w18))
else
(some (.normal, (s5.1, (IntKind.i64.wrap (s5.2 + 1))), w18)))))
else
(some (.normal, (s5.1, (IntKind.i64.wrap (s5.2 + 1))), r9.2))))
else
(if (decide (((u0.2.1 : Int) : Int) > 0)) = true then
(if ((u0.2.1 : Int) : Int) = 0 then
(none)
else
((idxA (some (⟨r1.2.heap.size, 0, none⟩)) (Int.toNat (u0.2.1 : Int)) 1 (Int.tmod s5.2 (u0.2.1 : Int))).bind fun a25 =>
(World.cell? r9.2 a25).bind fun v26 =>
(asI .i64 v26).bind fun n27 =>
(idxA (some (⟨r1.2.heap.size, 0, none⟩)) (Int.toNat (u0.2.1 : Int)) 1 (Int.tmod s5.2 (u0.2.1 : Int))).bind fun a28 =>
(st1 r9.2 a28 (.int .i64 (IntKind.i64.wrap (n27 + 1)))).bind fun w29 =>
if ((u0.2.1 : Int) : Int) = 0 then
(none)
else
((idxA u0.1 u0.2.1 1 (Int.tmod s5.2 (u0.2.1 : Int))).bind fun a31 =>
(World.cell? w29 a31).bind fun v32 =>
(asI .i64 v32).bind fun n33 =>
if ((n33 : Int) != n8) = true then
(some (.ret, (false, s5.2), w29))
else
(some (.normal, (s5.1, (IntKind.i64.wrap (s5.2 + 1))), w29)))))
else
(some (.normal, (s5.1, (IntKind.i64.wrap (s5.2 + 1))), r9.2)))))
else
(some ((.exit 0), (s5.1, s5.2), w6))

noncomputable def g3_K34  : Exit → Env → World → Option (Value × World) :=
  retK Try.prog Try.f3.results.toList

noncomputable def g3_K35  : Exit → Env → World → Option (Value × World) :=
  seqK (ev Try.prog 94 3 g3_ann (cAt [1, 1, 1, 1, 1] (bodyOf Try.f3)) [1, 1, 1, 1, 1] g3_K34) g3_K34

noncomputable def g3_K36  : Exit → Env → World → Option (Value × World) :=
  blkK 0 g3_K35

/-- the loop, from a state on -/
noncomputable def g3_l4 (u0 : Option Addr × Nat × Nat) (u1 : Int) (r1 : Value × World) (s : Bool × Int) (w : World) : Option (Value × World) :=
  loopM Try.prog 94 3 g3_ann (cAt [1, 1, 1, 1, 0, 1, 0, 0] (bodyOf Try.f3)) [0, 1, 0, 1, 1, 1, 1] g3_K36 ((g3_l4_cs u0 u1 r1) ++ sputs [(4, .b), (7, .i .i64)] s) w

def g3_l40_cs (u0 : Option Addr × Nat × Nat) (u1 : Int) (r1 : Value × World) : List (Nat × Value) := ([(0, .slice u0.1 u0.2.1 u0.2.2), (5, .int .i64 (IntKind.i64.wrap (Int.tmod u1 40))), (62, .slice (some (⟨r1.2.heap.size, 0, none⟩)) (Int.toNat (u0.2.1 : Int)) (Int.toNat (u0.2.1 : Int))), (63, .int .i64 ((Int.toNat (u0.2.1 : Int)) : Int))] : List (Nat × Value))

/-- the round of a loop (penstock/penstocklaw16.GroupOwners) -/
noncomputable def g3_l40_b (u0 : Option Addr × Nat × Nat) (r1 : Value × World) (u1 : Int) (s41 : Bool × Int) (w42 : World) : Option (Exit × (Bool × Int) × World) :=
if (decide ((s41.2 : Int) < ((Int.toNat (u0.2.1 : Int)) : Int))) = true then
((idxA (some (⟨r1.2.heap.size, 0, none⟩)) (Int.toNat (u0.2.1 : Int)) 1 s41.2).bind fun a43 =>
(World.cell? w42 a43).bind fun v44 =>
(asI .i64 v44).bind fun n45 =>
if ((u0.2.1 : Int) : Int) = 0 then
(none)
else
(if (decide ((n45 : Int) < (IntKind.i64.wrap (Int.tdiv (IntKind.i64.wrap (Int.tmod u1 40)) (u0.2.1 : Int))))) = true then
(some (.ret, (false, s41.2), w42))
else
(if ((u0.2.1 : Int) : Int) = 0 then
(none)
else
(if (decide ((n45 : Int) > (IntKind.i64.wrap ((IntKind.i64.wrap (Int.tdiv (IntKind.i64.wrap (Int.tmod u1 40)) (u0.2.1 : Int))) + 1)))) = true then
(some (.ret, (false, s41.2), w42))
else
(some (.normal, (s41.1, (IntKind.i64.wrap (s41.2 + 1))), w42))))))
else
(some ((.exit 2), (s41.1, s41.2), w42))

noncomputable def g3_K48  : Exit → Env → World → Option (Value × World) :=
  seqK (ev Try.prog 94 3 g3_ann (cAt [1, 1, 1, 1, 1, 1] (bodyOf Try.f3)) [1, 1, 1, 1, 1, 1] g3_K34) g3_K34

noncomputable def g3_K49  : Exit → Env → World → Option (Value × World) :=
  blkK 2 g3_K48

/-- the loop, from a state on -/
noncomputable def g3_l40 (u0 : Option Addr × Nat × Nat) (u1 : Int) (r1 : Value × World) (s : Bool × Int) (w : World) : Option (Value × World) :=
  loopM Try.prog 94 3 g3_ann (cAt [1, 1, 1, 1, 1, 0, 1, 0, 0] (bodyOf Try.f3)) [0, 1, 0, 1, 1, 1, 1, 1] g3_K49 ((g3_l40_cs u0 u1 r1) ++ sputs [(4, .b), (64, .i .i64)] s) w

/-- behind the loop, left by x2 -/
noncomputable def g3_l40_x2 (u0 : Option Addr × Nat × Nat) (u1 : Int) (t50 : Bool × Int) (w51 : World) : Option (Value × World) :=
(callF Try.prog 10 #[.slice u0.1 u0.2.1 u0.2.2, .int .i64 (IntKind.i64.wrap ((-1) - (IntKind.i64.wrap (Int.tmod u1 40))))] w51).bind fun r52 =>
(asI .i64 r52.1).bind fun n53 =>
if ((n53 : Int) == (-1)) = true then
((callF Try.prog 10 #[.slice none 0 0, .int .i64 (IntKind.i64.wrap (Int.tmod u1 40))] r52.2).bind fun r54 =>
(asI .i64 r54.1).bind fun n55 =>
some (.bool ((n55 : Int) == (-1)), r54.2))
else
(some (.bool false, r52.2))

/-- behind the loop, left by ret -/
noncomputable def g3_l40_ret  (t56 : Bool × Int) (w57 : World) : Option (Value × World) :=
some (.bool t56.1, w57)

/-- behind the loop, left by x0 -/
noncomputable def g3_l4_x0 (u0 : Option Addr × Nat × Nat) (u1 : Int) (r1 : Value × World) (t37 : Bool × Int) (w38 : World) : Option (Value × World) :=
g3_l40 u0 u1 r1 (t37.1, 0) w38

/-- behind the loop, left by ret -/
noncomputable def g3_l4_ret  (t58 : Bool × Int) (w59 : World) : Option (Value × World) :=
some (.bool t58.1, w59)

noncomputable def g3 (u0 : Option Addr × Nat × Nat) (u1 : Int) (w0 : World) : Option (Value × World) :=
(callF Try.prog 9 #[] w0).bind fun r1 =>
(asB r1.1).bind fun b2 =>
if (!b2) = true then
(some (.bool false, r1.2))
else
(if 0 ≤ ((u0.2.1 : Int) : Int) ∧ ((u0.2.1 : Int) : Int) ≤ (u0.2.1 : Int) ∧ ((u0.2.1 : Int) : Int) < 9223372036854775808 ∧ ((8 : Nat) : Int) * (u0.2.1 : Int) ≤ 2 ^ 48 ∧ (0 : Nat) < 1 then
(g3_l4 u0 u1 r1 (false, 0) (World.alloc r1.2 (.cells (zrow (.int .i64 0) (Int.toNat (u0.2.1 : Int) * 1)) 3)))
else
(none))

theorem g3_eq (u0 : Option Addr × Nat × Nat) (u1 : Int) (w0 : World) : evFn Try.prog 3 g3_ann #[.slice u0.1 u0.2.1 u0.2.2, .int .u8 u1] w0 = g3 u0 u1 w0 := by kernel_rfl

theorem g3_call {u0 : Option Addr × Nat × Nat} {u1 : Int} {w0 : World} {r : Value × World} (h : g3 u0 u1 w0 = some r) : callF Try.prog 3 #[.slice u0.1 u0.2.1 u0.2.2, .int .u8 u1] w0 = some r :=
  callF_of_evFn (ann := g3_ann) Try.call3 (by kernel_rfl) ((g3_eq u0 u1 w0).trans h)

theorem g3_l40_x2_of {u0 : Option Addr × Nat × Nat} {u1 : Int} {r1 : Value × World} {s t : Bool × Int} {w w' : World} (h : loopS (g3_l40_b u0 r1 u1) s w = some (.exit 2, t, w')) : g3_l40 u0 u1 r1 s w = g3_l40_x2 u0 u1 t w' := by
  have h1 : g3_l40 u0 u1 r1 s w = loopM Try.prog 94 3 g3_ann (cAt [1, 1, 1, 1, 1, 0, 1, 0, 0] (bodyOf Try.f3)) [0, 1, 0, 1, 1, 1, 1, 1] g3_K49 ((g3_l40_cs u0 u1 r1) ++ sputs [(4, .b), (64, .i .i64)] s) w := by kernel_rfl
  have h2 : loopM Try.prog 94 3 g3_ann (cAt [1, 1, 1, 1, 1, 0, 1, 0, 0] (bodyOf Try.f3)) [0, 1, 0, 1, 1, 1, 1, 1] g3_K49 ((g3_l40_cs u0 u1 r1) ++ sputs [(4, .b), (64, .i .i64)] s) w = g3_K49 (.exit 2) (puts 94 ((g3_l40_cs u0 u1 r1) ++ sputs [(4, .b), (64, .i .i64)] t)) w' :=
    loop_rule (P := Try.prog) (N := 94) (f := 3) (ann := g3_ann) (body := (cAt [1, 1, 1, 1, 1, 0, 1, 0, 0] (bodyOf Try.f3))) (pt := [0, 1, 0, 1, 1, 1, 1, 1]) (K := g3_K49) (g3_l40_cs u0 u1 r1) [(4, .b), (64, .i .i64)] (b := g3_l40_b u0 r1 u1) (fun s w => by kernel_rfl) (by kernel_rfl) (by kernel_rfl) (by kernel_rfl) h
  have h3 : g3_K49 (.exit 2) (puts 94 ((g3_l40_cs u0 u1 r1) ++ sputs [(4, .b), (64, .i .i64)] t)) w' = g3_l40_x2 u0 u1 t w' := by kernel_rfl
  exact h1.trans (h2.trans h3)

theorem g3_l40_ret_of {u0 : Option Addr × Nat × Nat} {u1 : Int} {r1 : Value × World} {s t : Bool × Int} {w w' : World} (h : loopS (g3_l40_b u0 r1 u1) s w = some (.ret, t, w')) : g3_l40 u0 u1 r1 s w = g3_l40_ret t w' := by
  have h1 : g3_l40 u0 u1 r1 s w = loopM Try.prog 94 3 g3_ann (cAt [1, 1, 1, 1, 1, 0, 1, 0, 0] (bodyOf Try.f3)) [0, 1, 0, 1, 1, 1, 1, 1] g3_K49 ((g3_l40_cs u0 u1 r1) ++ sputs [(4, .b), (64, .i .i64)] s) w := by kernel_rfl
  have h2 : loopM Try.prog 94 3 g3_ann (cAt [1, 1, 1, 1, 1, 0, 1, 0, 0] (bodyOf Try.f3)) [0, 1, 0, 1, 1, 1, 1, 1] g3_K49 ((g3_l40_cs u0 u1 r1) ++ sputs [(4, .b), (64, .i .i64)] s) w = g3_K49 (.ret) (puts 94 ((g3_l40_cs u0 u1 r1) ++ sputs [(4, .b), (64, .i .i64)] t)) w' :=
    loop_rule (P := Try.prog) (N := 94) (f := 3) (ann := g3_ann) (body := (cAt [1, 1, 1, 1, 1, 0, 1, 0, 0] (bodyOf Try.f3))) (pt := [0, 1, 0, 1, 1, 1, 1, 1]) (K := g3_K49) (g3_l40_cs u0 u1 r1) [(4, .b), (64, .i .i64)] (b := g3_l40_b u0 r1 u1) (fun s w => by kernel_rfl) (by kernel_rfl) (by kernel_rfl) (by kernel_rfl) h
  have h3 : g3_K49 (.ret) (puts 94 ((g3_l40_cs u0 u1 r1) ++ sputs [(4, .b), (64, .i .i64)] t)) w' = g3_l40_ret t w' := by kernel_rfl
  exact h1.trans (h2.trans h3)

theorem g3_l4_x0_of {u0 : Option Addr × Nat × Nat} {u1 : Int} {r1 : Value × World} {s t : Bool × Int} {w w' : World} (h : loopS (g3_l4_b u1 u0 r1) s w = some (.exit 0, t, w')) : g3_l4 u0 u1 r1 s w = g3_l4_x0 u0 u1 r1 t w' := by
  have h1 : g3_l4 u0 u1 r1 s w = loopM Try.prog 94 3 g3_ann (cAt [1, 1, 1, 1, 0, 1, 0, 0] (bodyOf Try.f3)) [0, 1, 0, 1, 1, 1, 1] g3_K36 ((g3_l4_cs u0 u1 r1) ++ sputs [(4, .b), (7, .i .i64)] s) w := by kernel_rfl
  have h2 : loopM Try.prog 94 3 g3_ann (cAt [1, 1, 1, 1, 0, 1, 0, 0] (bodyOf Try.f3)) [0, 1, 0, 1, 1, 1, 1] g3_K36 ((g3_l4_cs u0 u1 r1) ++ sputs [(4, .b), (7, .i .i64)] s) w = g3_K36 (.exit 0) (puts 94 ((g3_l4_cs u0 u1 r1) ++ sputs [(4, .b), (7, .i .i64)] t)) w' :=
    loop_rule (P := Try.prog) (N := 94) (f := 3) (ann := g3_ann) (body := (cAt [1, 1, 1, 1, 0, 1, 0, 0] (bodyOf Try.f3))) (pt := [0, 1, 0, 1, 1, 1, 1]) (K := g3_K36) (g3_l4_cs u0 u1 r1) [(4, .b), (7, .i .i64)] (b := g3_l4_b u1 u0 r1) (fun s w => by kernel_rfl) (by kernel_rfl) (by kernel_rfl) (by kernel_rfl) h
  have h3 : g3_K36 (.exit 0) (puts 94 ((g3_l4_cs u0 u1 r1) ++ sputs [(4, .b), (7, .i .i64)] t)) w' = g3_l4_x0 u0 u1 r1 t w' := by kernel_rfl
  exact h1.trans (h2.trans h3)

theorem g3_l4_ret_of {u0 : Option Addr × Nat × Nat} {u1 : Int} {r1 : Value × World} {s t : Bool × Int} {w w' : World} (h : loopS (g3_l4_b u1 u0 r1) s w = some (.ret, t, w')) : g3_l4 u0 u1 r1 s w = g3_l4_ret t w' := by
  have h1 : g3_l4 u0 u1 r1 s w = loopM Try.prog 94 3 g3_ann (cAt [1, 1, 1, 1, 0, 1, 0, 0] (bodyOf Try.f3)) [0, 1, 0, 1, 1, 1, 1] g3_K36 ((g3_l4_cs u0 u1 r1) ++ sputs [(4, .b), (7, .i .i64)] s) w := by kernel_rfl
  have h2 : loopM Try.prog 94 3 g3_ann (cAt [1, 1, 1, 1, 0, 1, 0, 0] (bodyOf Try.f3)) [0, 1, 0, 1, 1, 1, 1] g3_K36 ((g3_l4_cs u0 u1 r1) ++ sputs [(4, .b), (7, .i .i64)] s) w = g3_K36 (.ret) (puts 94 ((g3_l4_cs u0 u1 r1) ++ sputs [(4, .b), (7, .i .i64)] t)) w' :=
    loop_rule (P := Try.prog) (N := 94) (f := 3) (ann := g3_ann) (body := (cAt [1, 1, 1, 1, 0, 1, 0, 0] (bodyOf Try.f3))) (pt := [0, 1, 0, 1, 1, 1, 1]) (K := g3_K36) (g3_l4_cs u0 u1 r1) [(4, .b), (7, .i .i64)] (b := g3_l4_b u1 u0 r1) (fun s w => by kernel_rfl) (by kernel_rfl) (by kernel_rfl) (by kernel_rfl) h
  have h3 : g3_K36 (.ret) (puts 94 ((g3_l4_cs u0 u1 r1) ++ sputs [(4, .b), (7, .i .i64)] t)) w' = g3_l4_ret t w' := by kernel_rfl
  exact h1.trans (h2.trans h3)

end Go.Proofs.Ytcakijeoeankfaa
