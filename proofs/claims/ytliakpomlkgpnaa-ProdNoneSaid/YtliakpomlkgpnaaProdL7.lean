/-
  ProdL7: lemmas on what Go functions of this seat come to (for whatever arguments, as each says). No condition but those that stand in each lemma.
-/
import Derived.Test.YtliakpomlkgpnaaProdF0
namespace Go.Proofs.Ytliakpomlkgpnaa
open Go Go.Ev
set_option maxRecDepth 100000
set_option linter.unusedVariables false
/-! 7: penstock/penstocklaw09.ProdNone (b: api.Batch, n: int) -/
def g7_ann : List (List Nat × List Nat) := []

noncomputable def g7 (u0c0 : Int) (u0c1 : Int) (u0c2 : Int) (u0c3 : Int) (u0c4 : Int) (u0c5 : Bool) (u0c6 : Bool) (u0c7 : Bool) (u0c8 : Option Addr × Nat × Nat) (u1 : Int) (w0 : World) : Option (Value × World) :=
(ldN (World.alloc w0 (.cells #[.int .i64 u0c0, .int .i64 u0c1, .int .u64 u0c2, .int .i64 u0c3, .int .i64 u0c4, .bool u0c5, .bool u0c6, .bool u0c7, .slice u0c8.1 u0c8.2.1 u0c8.2.2] 30)) (⟨w0.heap.size, 0, none⟩) 0 9).bind fun l1 =>
(asI .i64 (l1.getD 0 undef)).bind fun n2 =>
(asI .i64 (l1.getD 1 undef)).bind fun n3 =>
(asI .u64 (l1.getD 2 undef)).bind fun n4 =>
(asI .i64 (l1.getD 3 undef)).bind fun n5 =>
(asI .i64 (l1.getD 4 undef)).bind fun n6 =>
(asB (l1.getD 5 undef)).bind fun b7 =>
(asB (l1.getD 6 undef)).bind fun b8 =>
(asB (l1.getD 7 undef)).bind fun b9 =>
(asSl (l1.getD 8 undef)).bind fun q10 =>
(callF Try.prog 14 #[.pointer none, .agg #[.int .i64 n2, .int .i64 n3, .int .u64 n4, .int .i64 n5, .int .i64 n6, .bool b7, .bool b8, .bool b9, .slice q10.1 q10.2.1 q10.2.2]] (World.alloc w0 (.cells #[.int .i64 u0c0, .int .i64 u0c1, .int .u64 u0c2, .int .i64 u0c3, .int .i64 u0c4, .bool u0c5, .bool u0c6, .bool u0c7, .slice u0c8.1 u0c8.2.1 u0c8.2.2] 30))).bind fun r11 =>
(asTup 0 r11.1).bind fun _ =>
(ldN r11.2 (⟨w0.heap.size, 0, none⟩) 0 9).bind fun l12 =>
(asI .i64 (l12.getD 0 undef)).bind fun n13 =>
(asI .i64 (l12.getD 1 undef)).bind fun n14 =>
(asI .u64 (l12.getD 2 undef)).bind fun n15 =>
(asI .i64 (l12.getD 3 undef)).bind fun n16 =>
(asI .i64 (l12.getD 4 undef)).bind fun n17 =>
(asB (l12.getD 5 undef)).bind fun b18 =>
(asB (l12.getD 6 undef)).bind fun b19 =>
(asB (l12.getD 7 undef)).bind fun b20 =>
(asSl (l12.getD 8 undef)).bind fun q21 =>
(callF Try.prog 11 #[.pointer none, .agg #[.int .i64 n13, .int .i64 n14, .int .u64 n15, .int .i64 n16, .int .i64 n17, .bool b18, .bool b19, .bool b20, .slice q21.1 q21.2.1 q21.2.2]] r11.2).bind fun r22 =>
(asTup 3 r22.1).bind fun l23 =>
(asI .i64 (l23.getD 0 undef)).bind fun n24 =>
(asB (l23.getD 1 undef)).bind fun b25 =>
(asI .i64 (l23.getD 2 undef)).bind fun n26 =>
(World.cell? r22.2 (Addr.add (⟨w0.heap.size, 0, none⟩) 2)).bind fun v27 =>
(asI .u64 v27).bind fun n28 =>
(callF Try.prog 10 #[.pointer none, .int .u64 n28] r22.2).bind fun r29 =>
(asTup 4 r29.1).bind fun l30 =>
(asI .i64 (l30.getD 0 undef)).bind fun n31 =>
(asI .i64 (l30.getD 1 undef)).bind fun n32 =>
(asI .i64 (l30.getD 2 undef)).bind fun n33 =>
(asB (l30.getD 3 undef)).bind fun b34 =>
(callF Try.prog 13 #[.pointer none] r29.2).bind fun r35 =>
(asTup 2 r35.1).bind fun l36 =>
(asI .i64 (l36.getD 0 undef)).bind fun n37 =>
(asB (l36.getD 1 undef)).bind fun b38 =>
(callF Try.prog 8 #[] r35.2).bind fun r39 =>
(asB r39.1).bind fun b40 =>
if b40 = true then
(if ((n24 : Int) == 0) = true then
(if (!b25) = true then
(if ((n26 : Int) == 5) = true then
(if ((n31 : Int) == 0) = true then
(if ((n32 : Int) == 0) = true then
(if ((n33 : Int) == 0) = true then
(if (!b34) = true then
(if ((n37 : Int) == 0) = true then
(if (!b38) = true then
((callF Try.prog 15 #[.pointer none, .int .i64 u1, .int .i64 u1] r39.2).bind fun r41 =>
(asSl r41.1).bind fun q42 =>
if (((q42.2.1 : Int) : Int) == 0) = true then
((callF Try.prog 16 #[.pointer none] r41.2).bind fun r44 =>
(asSl r44.1).bind fun q45 =>
some (.bool (((q45.2.1 : Int) : Int) == 0), r44.2))
else
(some (.bool false, r41.2)))
else
(some (.bool false, r39.2)))
else
(some (.bool false, r39.2)))
else
(some (.bool false, r39.2)))
else
(some (.bool false, r39.2)))
else
(some (.bool false, r39.2)))
else
(some (.bool false, r39.2)))
else
(some (.bool false, r39.2)))
else
(some (.bool false, r39.2)))
else
(some (.bool false, r39.2)))
else
(some (.bool false, r39.2))

theorem g7_eq (u0c0 : Int) (u0c1 : Int) (u0c2 : Int) (u0c3 : Int) (u0c4 : Int) (u0c5 : Bool) (u0c6 : Bool) (u0c7 : Bool) (u0c8 : Option Addr × Nat × Nat) (u1 : Int) (w0 : World) : evFn Try.prog 7 g7_ann #[.agg #[.int .i64 u0c0, .int .i64 u0c1, .int .u64 u0c2, .int .i64 u0c3, .int .i64 u0c4, .bool u0c5, .bool u0c6, .bool u0c7, .slice u0c8.1 u0c8.2.1 u0c8.2.2], .int .i64 u1] w0 = g7 u0c0 u0c1 u0c2 u0c3 u0c4 u0c5 u0c6 u0c7 u0c8 u1 w0 := by kernel_rfl

theorem g7_call {u0c0 : Int} {u0c1 : Int} {u0c2 : Int} {u0c3 : Int} {u0c4 : Int} {u0c5 : Bool} {u0c6 : Bool} {u0c7 : Bool} {u0c8 : Option Addr × Nat × Nat} {u1 : Int} {w0 : World} {r : Value × World} (h : g7 u0c0 u0c1 u0c2 u0c3 u0c4 u0c5 u0c6 u0c7 u0c8 u1 w0 = some r) : callF Try.prog 7 #[.agg #[.int .i64 u0c0, .int .i64 u0c1, .int .u64 u0c2, .int .i64 u0c3, .int .i64 u0c4, .bool u0c5, .bool u0c6, .bool u0c7, .slice u0c8.1 u0c8.2.1 u0c8.2.2], .int .i64 u1] w0 = some r :=
  callF_of_evFn (ann := g7_ann) Try.call7 (by kernel_rfl) ((g7_eq u0c0 u0c1 u0c2 u0c3 u0c4 u0c5 u0c6 u0c7 u0c8 u1 w0).trans h)

/-! 15: (*penstock/prod.Table).Aborts (t: *prod.Table, from: int, to: int) -/
def g15_ann : List (List Nat × List Nat) := [([0, 1, 0, 1, 1, 1], [1, 2, 15, 16, 7, 17])]

def g15_l5_cs (u1 : Int) (u2 : Int) (q3 : Option Addr × Nat × Nat) : List (Nat × Value) := ([(1, .int .i64 u1), (2, .int .i64 u2), (15, .slice q3.1 q3.2.1 q3.2.2), (16, .int .i64 (q3.2.1 : Int))] : List (Nat × Value))

/-- the round of a loop ((*penstock/prod.Table).Aborts) -/
noncomputable def g15_l5_b (q3 : Option Addr × Nat × Nat) (u1 : Int) (u2 : Int) (s6 : (Option Addr × Nat × Nat) × Int) (w7 : World) : Option (Exit × ((Option Addr × Nat × Nat) × Int) × World) :=
if (decide ((s6.2 : Int) < (q3.2.1 : Int))) = true then
((idxA q3.1 q3.2.1 3 s6.2).bind fun a8 =>
(ldN w7 a8 0 3).bind fun l9 =>
(asI .u64 (l9.getD 0 undef)).bind fun n10 =>
(asI .i64 (l9.getD 1 undef)).bind fun n11 =>
(asI .i64 (l9.getD 2 undef)).bind fun n12 =>
(stL (World.alloc w7 (.cells #[.int .u64 0, .int .i64 0, .int .i64 0] 63)) (⟨w7.heap.size, 0, none⟩) [.int .u64 n10, .int .i64 n11, .int .i64 n12] 0).bind fun w13 =>
(World.cell? w13 (Addr.add (⟨w7.heap.size, 0, none⟩) 2)).bind fun v14 =>
(asI .i64 v14).bind fun n15 =>
if (decide ((n15 : Int) ≥ u1)) = true then
((World.cell? w13 (Addr.add (⟨w7.heap.size, 0, none⟩) 1)).bind fun v16 =>
(asI .i64 v16).bind fun n17 =>
if (decide ((n17 : Int) < u2)) = true then
((ldN w13 (⟨w7.heap.size, 0, none⟩) 0 3).bind fun l18 =>
(asI .u64 (l18.getD 0 undef)).bind fun n19 =>
(asI .i64 (l18.getD 1 undef)).bind fun n20 =>
(asI .i64 (l18.getD 2 undef)).bind fun n21 =>
(callB Try.prog .append #[42, 42] 42 #[false, false] #[.slice s6.1.1 s6.1.2.1 s6.1.2.2, .slice (some (⟨w13.heap.size, 0, none⟩)) 1 1] (World.alloc w13 (.cells #[.int .u64 n19, .int .i64 n20, .int .i64 n21] 63))).bind fun r22 =>
(asSl r22.1).bind fun q23 =>
some (.normal, ((q23.1, q23.2.1, q23.2.2), (IntKind.i64.wrap (s6.2 + 1))), r22.2))
else
(some (.normal, ((s6.1.1, s6.1.2.1, s6.1.2.2), (IntKind.i64.wrap (s6.2 + 1))), w13)))
else
(some (.normal, ((s6.1.1, s6.1.2.1, s6.1.2.2), (IntKind.i64.wrap (s6.2 + 1))), w13)))
else
(some ((.exit 0), ((s6.1.1, s6.1.2.1, s6.1.2.2), s6.2), w7))

noncomputable def g15_K24  : Exit → Env → World → Option (Value × World) :=
  retK Try.prog Try.f15.results.toList

noncomputable def g15_K25  : Exit → Env → World → Option (Value × World) :=
  seqK (ev Try.prog 37 15 g15_ann (cAt [1, 1, 1, 1] (bodyOf Try.f15)) [1, 1, 1, 1] g15_K24) g15_K24

noncomputable def g15_K26  : Exit → Env → World → Option (Value × World) :=
  blkK 0 g15_K25

/-- the loop, from a state on -/
noncomputable def g15_l5 (u1 : Int) (u2 : Int) (q3 : Option Addr × Nat × Nat) (s : (Option Addr × Nat × Nat) × Int) (w : World) : Option (Value × World) :=
  loopM Try.prog 37 15 g15_ann (cAt [1, 1, 1, 0, 1, 0, 0] (bodyOf Try.f15)) [0, 1, 0, 1, 1, 1] g15_K26 ((g15_l5_cs u1 u2 q3) ++ sputs [(7, .sl), (17, .i .i64)] s) w

/-- behind the loop, left by x0 -/
noncomputable def g15_l5_x0  (t27 : (Option Addr × Nat × Nat) × Int) (w28 : World) : Option (Value × World) :=
some (.slice t27.1.1 t27.1.2.1 t27.1.2.2, w28)

noncomputable def g15 (u0 : Option Addr) (u1 : Int) (u2 : Int) (w0 : World) : Option (Value × World) :=
if (u0.isNone) = true then
(some (.slice none 0 0, w0))
else
(u0.bind fun a1 =>
(World.cell? w0 (Addr.add a1 1)).bind fun v2 =>
(asSl v2).bind fun q3 =>
g15_l5 u1 u2 q3 ((none, 0, 0), 0) w0)

theorem g15_eq (u0 : Option Addr) (u1 : Int) (u2 : Int) (w0 : World) : evFn Try.prog 15 g15_ann #[.pointer u0, .int .i64 u1, .int .i64 u2] w0 = g15 u0 u1 u2 w0 := by kernel_rfl

theorem g15_call {u0 : Option Addr} {u1 : Int} {u2 : Int} {w0 : World} {r : Value × World} (h : g15 u0 u1 u2 w0 = some r) : callF Try.prog 15 #[.pointer u0, .int .i64 u1, .int .i64 u2] w0 = some r :=
  callF_of_evFn (ann := g15_ann) Try.call15 (by kernel_rfl) ((g15_eq u0 u1 u2 w0).trans h)

theorem g15_l5_x0_of {u1 : Int} {u2 : Int} {q3 : Option Addr × Nat × Nat} {s t : (Option Addr × Nat × Nat) × Int} {w w' : World} (h : loopS (g15_l5_b q3 u1 u2) s w = some (.exit 0, t, w')) : g15_l5 u1 u2 q3 s w = g15_l5_x0 t w' := by
  have h1 : g15_l5 u1 u2 q3 s w = loopM Try.prog 37 15 g15_ann (cAt [1, 1, 1, 0, 1, 0, 0] (bodyOf Try.f15)) [0, 1, 0, 1, 1, 1] g15_K26 ((g15_l5_cs u1 u2 q3) ++ sputs [(7, .sl), (17, .i .i64)] s) w := by kernel_rfl
  have h2 : loopM Try.prog 37 15 g15_ann (cAt [1, 1, 1, 0, 1, 0, 0] (bodyOf Try.f15)) [0, 1, 0, 1, 1, 1] g15_K26 ((g15_l5_cs u1 u2 q3) ++ sputs [(7, .sl), (17, .i .i64)] s) w = g15_K26 (.exit 0) (puts 37 ((g15_l5_cs u1 u2 q3) ++ sputs [(7, .sl), (17, .i .i64)] t)) w' :=
    loop_rule (P := Try.prog) (N := 37) (f := 15) (ann := g15_ann) (body := (cAt [1, 1, 1, 0, 1, 0, 0] (bodyOf Try.f15))) (pt := [0, 1, 0, 1, 1, 1]) (K := g15_K26) (g15_l5_cs u1 u2 q3) [(7, .sl), (17, .i .i64)] (b := g15_l5_b q3 u1 u2) (fun s w => by kernel_rfl) (by kernel_rfl) (by kernel_rfl) (by kernel_rfl) h
  have h3 : g15_K26 (.exit 0) (puts 37 ((g15_l5_cs u1 u2 q3) ++ sputs [(7, .sl), (17, .i .i64)] t)) w' = g15_l5_x0 t w' := by kernel_rfl
  exact h1.trans (h2.trans h3)

/-! 16: (*penstock/prod.Table).Pids (t: *prod.Table) -/
def g16_ann : List (List Nat × List Nat) := []

noncomputable def g16 (u0 : Option Addr) (w0 : World) : Option (Value × World) :=
if (u0.isNone) = true then
(some (.slice none 0 0, w0))
else
(u0.bind fun a1 =>
(World.cell? w0 a1).bind fun v2 =>
(asM v2).bind fun m3 =>
(callF Try.prog 22 #[.map m3] w0).bind fun r4 =>
(callF Try.prog 21 #[r4.1] r4.2).bind fun r5 =>
(asSl r5.1).bind fun q6 =>
some (.slice q6.1 q6.2.1 q6.2.2, r5.2))

theorem g16_eq (u0 : Option Addr) (w0 : World) : evFn Try.prog 16 g16_ann #[.pointer u0] w0 = g16 u0 w0 := by kernel_rfl

theorem g16_call {u0 : Option Addr} {w0 : World} {r : Value × World} (h : g16 u0 w0 = some r) : callF Try.prog 16 #[.pointer u0] w0 = some r :=
  callF_of_evFn (ann := g16_ann) Try.call16 (by kernel_rfl) ((g16_eq u0 w0).trans h)

end Go.Proofs.Ytliakpomlkgpnaa
