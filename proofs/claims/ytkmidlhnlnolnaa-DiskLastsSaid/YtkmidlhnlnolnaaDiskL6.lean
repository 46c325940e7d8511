/-
  DiskL6: lemmas on what Go functions of this seat come to (for whatever arguments, as each says). No condition but those that stand in each lemma.
-/
import Derived.Test.YtkmidlhnlnolnaaLb9
import Derived.Test.YtkmidlhnlnolnaaProg
namespace Go.Proofs.Ytkmidlhnlnolnaa
open Go Go.Ev
set_option maxRecDepth 100000
set_option linter.unusedVariables false
/-! 6: penstock/penstocklaw05.DiskLasts (script: []penstocklaw05.Op, keep: int, again: int) -/
def g6_ann : List (List Nat × List Nat) := [([0, 1, 0, 1, 1, 1], [1, 2, 6, 7, 8, 28, 29, 30]), ([0, 1, 0, 1, 1, 1, 1, 1, 1], [2, 7, 58, 59, 6, 60])]

def g6_l8_cs (u1 : Int) (u2 : Int) (p2 : Option Addr) (p4 : Option Addr) (u0 : Option Addr × Nat × Nat) : List (Nat × Value) := ([(1, .int .i64 u1), (2, .int .i64 u2), (6, .bool false), (7, .pointer p2), (8, .pointer p4), (28, .slice u0.1 u0.2.1 u0.2.2), (29, .int .i64 (u0.2.1 : Int))] : List (Nat × Value))

/-- the round of a loop (penstock/penstocklaw05.DiskLasts) -/
noncomputable def g6_l8_b (u0 : Option Addr × Nat × Nat) (p2 : Option Addr) (p4 : Option Addr) (u1 : Int) (u2 : Int) (s9 : Int) (w10 : World) : Option (Exit × (Int) × World) :=
if (decide ((s9 : Int) < (u0.2.1 : Int))) = true then
((idxA u0.1 u0.2.1 5 s9).bind fun a11 =>
(ldN w10 a11 0 5).bind fun l12 =>
(asI .i64 (l12.getD 0 undef)).bind fun n13 =>
(asS (l12.getD 1 undef)).bind fun s14 =>
(asS (l12.getD 2 undef)).bind fun s15 =>
(asSl (l12.getD 3 undef)).bind fun q16 =>
(asI .i64 (l12.getD 4 undef)).bind fun n17 =>
(stL (World.alloc w10 (.cells #[.int .i64 0, .string (⟨#[]⟩ : ByteArray), .string (⟨#[]⟩ : ByteArray), .slice none 0 0, .int .i64 0] 47)) (⟨w10.heap.size, 0, none⟩) [.int .i64 n13, .string s14, .string s15, .slice q16.1 q16.2.1 q16.2.2, .int .i64 n17] 0).bind fun w18 =>
(ldN w18 (⟨w10.heap.size, 0, none⟩) 0 5).bind fun l19 =>
(asI .i64 (l19.getD 0 undef)).bind fun n20 =>
(asS (l19.getD 1 undef)).bind fun s21 =>
(asS (l19.getD 2 undef)).bind fun s22 =>
(asSl (l19.getD 3 undef)).bind fun q23 =>
(asI .i64 (l19.getD 4 undef)).bind fun n24 =>
(callF Try.prog 22 #[.pointer p2, .pointer p4, .agg #[.int .i64 n20, .string s21, .string s22, .slice q23.1 q23.2.1 q23.2.2, .int .i64 n24]] w18).bind fun r25 =>
(asB r25.1).bind fun b26 =>
some (.normal, (IntKind.i64.wrap (s9 + 1)), r25.2))
else
(some ((.exit 0), s9, w10))

noncomputable def g6_K27  : Exit → Env → World → Option (Value × World) :=
  retK Try.prog Try.f6.results.toList

noncomputable def g6_K28  : Exit → Env → World → Option (Value × World) :=
  seqK (ev Try.prog 140 6 g6_ann (cAt [1, 1, 1, 1] (bodyOf Try.f6)) [1, 1, 1, 1] g6_K27) g6_K27

noncomputable def g6_K29  : Exit → Env → World → Option (Value × World) :=
  blkK 0 g6_K28

/-- the loop, from a state on -/
noncomputable def g6_l8 (u1 : Int) (u2 : Int) (p2 : Option Addr) (p4 : Option Addr) (u0 : Option Addr × Nat × Nat) (s : Int) (w : World) : Option (Value × World) :=
  loopM Try.prog 140 6 g6_ann (cAt [1, 1, 1, 0, 1, 0, 0] (bodyOf Try.f6)) [0, 1, 0, 1, 1, 1] g6_K29 ((g6_l8_cs u1 u2 p2 p4 u0) ++ sputs [(30, .i .i64)] s) w

noncomputable def g6_K118  : Exit → Env → World → Option (Value × World) :=
  seqK (ev Try.prog 140 6 g6_ann (cAt [1, 1, 1, 1, 1, 1, 1] (bodyOf Try.f6)) [1, 1, 1, 1, 1, 1, 1] g6_K27) g6_K27

noncomputable def g6_K119  : Exit → Env → World → Option (Value × World) :=
  blkK 2 g6_K118

def g6_l73_cs (u2 : Int) (p2 : Option Addr) (q71 : Option Addr × Nat × Nat) : List (Nat × Value) := ([(2, .int .i64 u2), (7, .pointer p2), (58, .slice q71.1 q71.2.1 q71.2.2), (59, .int .i64 (q71.2.1 : Int))] : List (Nat × Value))

/-- the loop, from a state on -/
noncomputable def g6_l73 (u2 : Int) (p2 : Option Addr) (q71 : Option Addr × Nat × Nat) (s : Bool × Int) (w : World) : Option (Value × World) :=
  loopM Try.prog 140 6 g6_ann (cAt [1, 1, 1, 1, 1, 1, 0, 1, 0, 0] (bodyOf Try.f6)) [0, 1, 0, 1, 1, 1, 1, 1, 1] g6_K119 ((g6_l73_cs u2 p2 q71) ++ sputs [(6, .b), (60, .i .i64)] s) w

noncomputable def g6_j66 (p4 : Option Addr) (u2 : Int) (p2 : Option Addr) (x67 : Bool) (w68 : World) : Option (Value × World) :=
if x67 = true then
(some (.bool false, w68))
else
(p4.bind fun a69 =>
(World.cell? w68 a69).bind fun v70 =>
(asSl v70).bind fun q71 =>
g6_l73 u2 p2 q71 (false, 0) w68)

noncomputable def g6_j59a (u2 : Int) (p2 : Option Addr) (p4 : Option Addr) (t30 : Int) (r34 : Value × World) (r32 : Value × World) : Option (Value × World) :=
g6_j66 p4 u2 p2 true r34.2

noncomputable def g6_j59b (u2 : Int) (p2 : Option Addr) (p4 : Option Addr) (t30 : Int) (r32 : Value × World) (x63 : Int) (x64 : Int) (w65 : World) : Option (Value × World) :=
g6_j66 p4 u2 p2 ((x63 : Int) != x64) w65

/-- the round of a loop (penstock/penstocklaw05.DiskLasts) -/
noncomputable def g6_l73_b (q71 : Option Addr × Nat × Nat) (p2 : Option Addr) (u2 : Int) (s74 : Bool × Int) (w75 : World) : Option (Exit × (Bool × Int) × World) :=
if (decide ((s74.2 : Int) < (q71.2.1 : Int))) = true then
((idxA q71.1 q71.2.1 3 s74.2).bind fun a76 =>
(ldN w75 a76 0 3).bind fun l77 =>
(asS (l77.getD 0 undef)).bind fun s78 =>
(asSl (l77.getD 1 undef)).bind fun q79 =>
(asI .i64 (l77.getD 2 undef)).bind fun n80 =>
(stL (World.alloc w75 (.cells #[.string (⟨#[]⟩ : ByteArray), .slice none 0 0, .int .i64 0] 53)) (⟨w75.heap.size, 0, none⟩) [.string s78, .slice q79.1 q79.2.1 q79.2.2, .int .i64 n80] 0).bind fun w81 =>
(World.cell? w81 (⟨w75.heap.size, 0, none⟩)).bind fun v82 =>
(asS v82).bind fun s83 =>
(callF Try.prog 15 #[.pointer p2, .string s83] w81).bind fun r84 =>
(asTup 2 r84.1).bind fun l85 =>
(asSl (l85.getD 0 undef)).bind fun q86 =>
(asI .i64 (l85.getD 1 undef)).bind fun n87 =>
(World.cell? r84.2 (⟨w75.heap.size, 0, none⟩)).bind fun v88 =>
(asS v88).bind fun s89 =>
(callF Try.prog 17 #[.pointer p2, .string s89] r84.2).bind fun r90 =>
(asTup 3 r90.1).bind fun l91 =>
(asI .i64 (l91.getD 0 undef)).bind fun n92 =>
(asI .i64 (l91.getD 1 undef)).bind fun n93 =>
(asI .i64 (l91.getD 2 undef)).bind fun n94 =>
if ((n87 : Int) != 0) = true then
(some (.ret, (false, s74.2), r90.2))
else
(if ((n94 : Int) != 0) = true then
(some (.ret, (false, s74.2), r90.2))
else
((World.cell? r90.2 (Addr.add (⟨w75.heap.size, 0, none⟩) 2)).bind fun v96 =>
(asI .i64 v96).bind fun n97 =>
if (decide (((q86.2.1 : Int) : Int) < n97)) = true then
(some (.ret, (false, s74.2), r90.2))
else
((World.cell? r90.2 (Addr.add (⟨w75.heap.size, 0, none⟩) 1)).bind fun v99 =>
(asSl v99).bind fun q100 =>
if (decide (((q86.2.1 : Int) : Int) > (q100.2.1 : Int))) = true then
(some (.ret, (false, s74.2), r90.2))
else
((World.cell? r90.2 (Addr.add (⟨w75.heap.size, 0, none⟩) 1)).bind fun v102 =>
(asSl v102).bind fun q103 =>
(slc q103.1 q103.2.1 q103.2.2 1 none (some (q86.2.1 : Int)) none).bind fun q105 =>
(callF Try.prog 20 #[.slice q86.1 q86.2.1 q86.2.2, .slice q105.1 q105.2.1 q105.2.2] r90.2).bind fun r106 =>
(asB r106.1).bind fun b107 =>
if (!b107) = true then
(some (.ret, (false, s74.2), r106.2))
else
(if ((n92 : Int) != n93) = true then
(some (.ret, (false, s74.2), r106.2))
else
(if ((n92 : Int) != (q86.2.1 : Int)) = true then
(some (.ret, (false, s74.2), r106.2))
else
((callF Try.prog 14 #[.pointer p2, .int .i64 u2] r106.2).bind fun r109 =>
(asTup 0 r109.1).bind fun _ =>
(World.cell? r109.2 (⟨w75.heap.size, 0, none⟩)).bind fun v110 =>
(asS v110).bind fun s111 =>
(callF Try.prog 15 #[.pointer p2, .string s111] r109.2).bind fun r112 =>
(asTup 2 r112.1).bind fun l113 =>
(asSl (l113.getD 0 undef)).bind fun q114 =>
(asI .i64 (l113.getD 1 undef)).bind fun n115 =>
if ((n115 : Int) != 0) = true then
(some (.ret, (false, s74.2), r112.2))
else
((callF Try.prog 20 #[.slice q86.1 q86.2.1 q86.2.2, .slice q114.1 q114.2.1 q114.2.2] r112.2).bind fun r116 =>
(asB r116.1).bind fun b117 =>
if (!b117) = true then
(some (.ret, (false, s74.2), r116.2))
else
(some (.normal, (s74.1, (IntKind.i64.wrap (s74.2 + 1))), r116.2)))))))))))
else
(some ((.exit 2), (s74.1, s74.2), w75))

/-- behind the loop, left by x2 -/
noncomputable def g6_l73_x2  (t120 : Bool × Int) (w121 : World) : Option (Value × World) :=
some (.bool true, w121)

/-- behind the loop, left by ret -/
noncomputable def g6_l73_ret  (t122 : Bool × Int) (w123 : World) : Option (Value × World) :=
some (.bool t122.1, w123)

/-- behind the loop, left by x0 -/
noncomputable def g6_l8_x0 (p2 : Option Addr) (u1 : Int) (u2 : Int) (p4 : Option Addr) (t30 : Int) (w31 : World) : Option (Value × World) :=
(callF Try.prog 14 #[.pointer p2, .int .i64 u1] w31).bind fun r32 =>
(asTup 0 r32.1).bind fun _ =>
(callF Try.prog 12 #[.pointer p2] (World.drew r32.2)).bind fun r34 =>
(asB r34.1).bind fun b35 =>
if b35 = true then
(if (ahd (Region.schedule true (opsOf (cAt [1, 1, 1, 1, 1, 0, 0] (bodyOf Try.f6))) (World.tape r32.2 (World.drawn r32.2) (.order 6 10))) 4 9 && true) = true then
(g6_j59a u2 p2 p4 t30 r34 r32)
else
(g6_j59a u2 p2 p4 t30 r34 r32))
else
(p4.bind fun a41 =>
if (ahd (Region.schedule true (opsOf (cAt [1, 1, 1, 1, 1, 0, 0] (bodyOf Try.f6))) (World.tape r32.2 (World.drawn r32.2) (.order 6 10))) 4 9 && true) = true then
((callF Try.prog 18 #[.pointer p2] r34.2).bind fun r45 =>
(asSl r45.1).bind fun q46 =>
(World.cell? r45.2 a41).bind fun v54 =>
(asSl v54).bind fun q55 =>
g6_j59b u2 p2 p4 t30 r32 (q46.2.1 : Int) (q55.2.1 : Int) r45.2)
else
((World.cell? r34.2 a41).bind fun v47 =>
(asSl v47).bind fun q48 =>
(callF Try.prog 18 #[.pointer p2] r34.2).bind fun r57 =>
(asSl r57.1).bind fun q58 =>
g6_j59b u2 p2 p4 t30 r32 (q58.2.1 : Int) (q48.2.1 : Int) r57.2))

noncomputable def g6 (u0 : Option Addr × Nat × Nat) (u1 : Int) (u2 : Int) (w0 : World) : Option (Value × World) :=
(callF Try.prog 8 #[] w0).bind fun r1 =>
(asP r1.1).bind fun p2 =>
(callF Try.prog 21 #[] r1.2).bind fun r3 =>
(asP r3.1).bind fun p4 =>
(callF Try.prog 9 #[] r3.2).bind fun r5 =>
(asB r5.1).bind fun b6 =>
if (!b6) = true then
(some (.bool false, r5.2))
else
(if (p2.isNone) = true then
(some (.bool false, r5.2))
else
(g6_l8 u1 u2 p2 p4 u0 0 r5.2))

theorem g6_eq (u0 : Option Addr × Nat × Nat) (u1 : Int) (u2 : Int) (w0 : World) : evFn Try.prog 6 g6_ann #[.slice u0.1 u0.2.1 u0.2.2, .int .i64 u1, .int .i64 u2] w0 = g6 u0 u1 u2 w0 := by kernel_rfl

theorem g6_call {u0 : Option Addr × Nat × Nat} {u1 : Int} {u2 : Int} {w0 : World} {r : Value × World} (h : g6 u0 u1 u2 w0 = some r) : callF Try.prog 6 #[.slice u0.1 u0.2.1 u0.2.2, .int .i64 u1, .int .i64 u2] w0 = some r :=
  callF_of_evFn (ann := g6_ann) Try.call6 (by kernel_rfl) ((g6_eq u0 u1 u2 w0).trans h)

theorem g6_l73_x2_of {u2 : Int} {p2 : Option Addr} {q71 : Option Addr × Nat × Nat} {s t : Bool × Int} {w w' : World} (h : loopS (g6_l73_b q71 p2 u2) s w = some (.exit 2, t, w')) : g6_l73 u2 p2 q71 s w = g6_l73_x2 t w' := by
  have h1 : g6_l73 u2 p2 q71 s w = loopM Try.prog 140 6 g6_ann (cAt [1, 1, 1, 1, 1, 1, 0, 1, 0, 0] (bodyOf Try.f6)) [0, 1, 0, 1, 1, 1, 1, 1, 1] g6_K119 ((g6_l73_cs u2 p2 q71) ++ sputs [(6, .b), (60, .i .i64)] s) w := by kernel_rfl
  have h2 : loopM Try.prog 140 6 g6_ann (cAt [1, 1, 1, 1, 1, 1, 0, 1, 0, 0] (bodyOf Try.f6)) [0, 1, 0, 1, 1, 1, 1, 1, 1] g6_K119 ((g6_l73_cs u2 p2 q71) ++ sputs [(6, .b), (60, .i .i64)] s) w = g6_K119 (.exit 2) (puts 140 ((g6_l73_cs u2 p2 q71) ++ sputs [(6, .b), (60, .i .i64)] t)) w' :=
    loop_rule (P := Try.prog) (N := 140) (f := 6) (ann := g6_ann) (body := (cAt [1, 1, 1, 1, 1, 1, 0, 1, 0, 0] (bodyOf Try.f6))) (pt := [0, 1, 0, 1, 1, 1, 1, 1, 1]) (K := g6_K119) (g6_l73_cs u2 p2 q71) [(6, .b), (60, .i .i64)] (b := g6_l73_b q71 p2 u2) (fun s w => by kernel_rfl) (by kernel_rfl) (by kernel_rfl) (by kernel_rfl) h
  have h3 : g6_K119 (.exit 2) (puts 140 ((g6_l73_cs u2 p2 q71) ++ sputs [(6, .b), (60, .i .i64)] t)) w' = g6_l73_x2 t w' := by kernel_rfl
  exact h1.trans (h2.trans h3)

theorem g6_l73_ret_of {u2 : Int} {p2 : Option Addr} {q71 : Option Addr × Nat × Nat} {s t : Bool × Int} {w w' : World} (h : loopS (g6_l73_b q71 p2 u2) s w = some (.ret, t, w')) : g6_l73 u2 p2 q71 s w = g6_l73_ret t w' := by
  have h1 : g6_l73 u2 p2 q71 s w = loopM Try.prog 140 6 g6_ann (cAt [1, 1, 1, 1, 1, 1, 0, 1, 0, 0] (bodyOf Try.f6)) [0, 1, 0, 1, 1, 1, 1, 1, 1] g6_K119 ((g6_l73_cs u2 p2 q71) ++ sputs [(6, .b), (60, .i .i64)] s) w := by kernel_rfl
  have h2 : loopM Try.prog 140 6 g6_ann (cAt [1, 1, 1, 1, 1, 1, 0, 1, 0, 0] (bodyOf Try.f6)) [0, 1, 0, 1, 1, 1, 1, 1, 1] g6_K119 ((g6_l73_cs u2 p2 q71) ++ sputs [(6, .b), (60, .i .i64)] s) w = g6_K119 (.ret) (puts 140 ((g6_l73_cs u2 p2 q71) ++ sputs [(6, .b), (60, .i .i64)] t)) w' :=
    loop_rule (P := Try.prog) (N := 140) (f := 6) (ann := g6_ann) (body := (cAt [1, 1, 1, 1, 1, 1, 0, 1, 0, 0] (bodyOf Try.f6))) (pt := [0, 1, 0, 1, 1, 1, 1, 1, 1]) (K := g6_K119) (g6_l73_cs u2 p2 q71) [(6, .b), (60, .i .i64)] (b := g6_l73_b q71 p2 u2) (fun s w => by kernel_rfl) (by kernel_rfl) (by kernel_rfl) (by kernel_rfl) h
  have h3 : g6_K119 (.ret) (puts 140 ((g6_l73_cs u2 p2 q71) ++ sputs [(6, .b), (60, .i .i64)] t)) w' = g6_l73_ret t w' := by kernel_rfl
  exact h1.trans (h2.trans h3)

theorem g6_l8_x0_of {u1 : Int} {u2 : Int} {p2 : Option Addr} {p4 : Option Addr} {u0 : Option Addr × Nat × Nat} {s t : Int} {w w' : World} (h : loopS (g6_l8_b u0 p2 p4 u1 u2) s w = some (.exit 0, t, w')) : g6_l8 u1 u2 p2 p4 u0 s w = g6_l8_x0 p2 u1 u2 p4 t w' := by
  have h1 : g6_l8 u1 u2 p2 p4 u0 s w = loopM Try.prog 140 6 g6_ann (cAt [1, 1, 1, 0, 1, 0, 0] (bodyOf Try.f6)) [0, 1, 0, 1, 1, 1] g6_K29 ((g6_l8_cs u1 u2 p2 p4 u0) ++ sputs [(30, .i .i64)] s) w := by kernel_rfl
  have h2 : loopM Try.prog 140 6 g6_ann (cAt [1, 1, 1, 0, 1, 0, 0] (bodyOf Try.f6)) [0, 1, 0, 1, 1, 1] g6_K29 ((g6_l8_cs u1 u2 p2 p4 u0) ++ sputs [(30, .i .i64)] s) w = g6_K29 (.exit 0) (puts 140 ((g6_l8_cs u1 u2 p2 p4 u0) ++ sputs [(30, .i .i64)] t)) w' :=
    loop_rule (P := Try.prog) (N := 140) (f := 6) (ann := g6_ann) (body := (cAt [1, 1, 1, 0, 1, 0, 0] (bodyOf Try.f6))) (pt := [0, 1, 0, 1, 1, 1]) (K := g6_K29) (g6_l8_cs u1 u2 p2 p4 u0) [(30, .i .i64)] (b := g6_l8_b u0 p2 p4 u1 u2) (fun s w => by kernel_rfl) (by kernel_rfl) (by kernel_rfl) (by kernel_rfl) h
  have h3 : g6_K29 (.exit 0) (puts 140 ((g6_l8_cs u1 u2 p2 p4 u0) ++ sputs [(30, .i .i64)] t)) w' = g6_l8_x0 p2 u1 u2 p4 t w' := by kernel_rfl
  exact h1.trans (h2.trans h3)

/-! 22: penstock/penstocklaw05.do (d: *disk.Disk, r: *penstockref05.Disk, o: penstocklaw05.Op) -/
def g22_ann : List (List Nat × List Nat) := [([0, 1, 0, 1, 1, 1, 0, 1, 0, 1, 0, 1], [1, 5, 6, 7, 8, 9, 30, 31])]

def g22_l16_cs (u1 : Option Addr) (w0 : World) (q6 : Option Addr × Nat × Nat) (n10 : Int) (b14 : Bool) : List (Nat × Value) := ([(1, .pointer u1), (5, .pointer (some (⟨w0.heap.size, 0, none⟩))), (6, .bool false), (7, .slice q6.1 q6.2.1 q6.2.2), (8, .int .i64 n10), (9, .bool b14), (30, .int .i64 (q6.2.1 : Int))] : List (Nat × Value))

/-- the round of a loop (penstock/penstocklaw05.do) -/
noncomputable def g22_l16_b (q6 : Option Addr × Nat × Nat) (u1 : Option Addr) (w0 : World) (n10 : Int) (b14 : Bool) (s17 : Int) (w18 : World) : Option (Exit × (Int) × World) :=
if (decide ((s17 : Int) < (q6.2.1 : Int))) = true then
((idxA q6.1 q6.2.1 1 s17).bind fun a19 =>
(st1 w18 a19 (.int .u8 1)).bind fun w20 =>
some (.normal, (IntKind.i64.wrap (s17 + 1)), w20))
else
(some ((.exit 1), s17, w18))

noncomputable def g22_K21  : Exit → Env → World → Option (Value × World) :=
  retK Try.prog Try.f22.results.toList

noncomputable def g22_K22  : Exit → Env → World → Option (Value × World) :=
  seqK (ev Try.prog 137 22 g22_ann (cAt [1, 1] (bodyOf Try.f22)) [1, 1] g22_K21) g22_K21

noncomputable def g22_K23  : Exit → Env → World → Option (Value × World) :=
  blkK 0 g22_K22

noncomputable def g22_K24  : Exit → Env → World → Option (Value × World) :=
  seqK (ev Try.prog 137 22 g22_ann (cAt [1, 0, 1, 0, 1, 0, 1, 1, 1, 1] (bodyOf Try.f22)) [1, 1, 1, 1, 0, 1, 0, 1, 0, 1] g22_K23) g22_K23

noncomputable def g22_K25  : Exit → Env → World → Option (Value × World) :=
  blkK 1 g22_K24

/-- the loop, from a state on -/
noncomputable def g22_l16 (u1 : Option Addr) (w0 : World) (q6 : Option Addr × Nat × Nat) (n10 : Int) (b14 : Bool) (s : Int) (w : World) : Option (Value × World) :=
  loopM Try.prog 137 22 g22_ann (cAt [1, 0, 1, 0, 1, 0, 1, 1, 1, 0, 1, 0, 0] (bodyOf Try.f22)) [0, 1, 0, 1, 1, 1, 0, 1, 0, 1, 0, 1] g22_K25 ((g22_l16_cs u1 w0 q6 n10 b14) ++ sputs [(31, .i .i64)] s) w

/-- behind the loop, left by x1 -/
noncomputable def g22_l16_x1 (b14 : Bool) (w0 : World) (u1 : Option Addr) (n10 : Int) (t26 : Int) (w27 : World) : Option (Value × World) :=
if b14 = true then
((World.cell? w27 (Addr.add (⟨w0.heap.size, 0, none⟩) 1)).bind fun v28 =>
(asS v28).bind fun s29 =>
(World.cell? w27 (Addr.add (⟨w0.heap.size, 0, none⟩) 3)).bind fun v30 =>
(asSl v30).bind fun q31 =>
(callF Try.prog 28 #[.pointer u1, .string s29, .slice q31.1 q31.2.1 q31.2.2] w27).bind fun r32 =>
(asI .i64 r32.1).bind fun n33 =>
some (.bool ((n10 : Int) == n33), r32.2))
else
(some (.bool false, w27))

noncomputable def g22_j49 (u1 : Option Addr) (w0 : World) (u2c0 : Int) (u2c1 : ByteArray) (u2c2 : ByteArray) (u2c3 : Option Addr × Nat × Nat) (u2c4 : Int) (x52 : Int) (x53 : ByteArray) (w54 : World) : Option (Value × World) :=
(callF Try.prog 29 #[.pointer u1, .string x53] w54).bind fun r55 =>
(asI .i64 r55.1).bind fun n56 =>
some (.bool ((x52 : Int) == n56), r55.2)

noncomputable def g22_j99 (u1 : Option Addr) (w0 : World) (u2c0 : Int) (u2c1 : ByteArray) (u2c2 : ByteArray) (u2c3 : Option Addr × Nat × Nat) (u2c4 : Int) (x106 : Int) (x107 : ByteArray) (x108 : Int) (w109 : World) : Option (Value × World) :=
(callF Try.prog 30 #[.pointer u1, .string x107, .int .i64 x108] w109).bind fun r110 =>
(asI .i64 r110.1).bind fun n111 =>
some (.bool ((x106 : Int) == n111), r110.2)

noncomputable def g22_j83 (w0 : World) (u1 : Option Addr) (u2c0 : Int) (u2c1 : ByteArray) (u2c2 : ByteArray) (u2c3 : Option Addr × Nat × Nat) (u2c4 : Int) (x94 : Int) (x95 : ByteArray) (w96 : World) : Option (Value × World) :=
(World.cell? w96 (Addr.add (⟨w0.heap.size, 0, none⟩) 4)).bind fun v97 =>
(asI .i64 v97).bind fun n98 =>
g22_j99 u1 w0 u2c0 u2c1 u2c2 u2c3 u2c4 x94 x95 n98 w96

noncomputable def g22_j88 (u0 : Option Addr) (s63 : ByteArray) (n67 : Int) (w0 : World) (u2c0 : Int) (u2c1 : ByteArray) (u2c2 : ByteArray) (u2c3 : Option Addr × Nat × Nat) (u2c4 : Int) (u1 : Option Addr) (x100 : ByteArray) (x101 : Int) : Option (Value × World) :=
(callF Try.prog 23 #[.pointer u0, .string s63, .int .i64 n67] (World.drew (World.alloc w0 (.cells #[.int .i64 u2c0, .string u2c1, .string u2c2, .slice u2c3.1 u2c3.2.1 u2c3.2.2, .int .i64 u2c4] 47)))).bind fun r102 =>
(asI .i64 r102.1).bind fun n103 =>
g22_j99 u1 w0 u2c0 u2c1 u2c2 u2c3 u2c4 n103 x100 x101 r102.2

noncomputable def g22_j130 (u1 : Option Addr) (w0 : World) (u2c0 : Int) (u2c1 : ByteArray) (u2c2 : ByteArray) (u2c3 : Option Addr × Nat × Nat) (u2c4 : Int) (x133 : Int) (x134 : ByteArray) (w135 : World) : Option (Value × World) :=
(callF Try.prog 31 #[.pointer u1, .string x134] w135).bind fun r136 =>
(asI .i64 r136.1).bind fun n137 =>
some (.bool ((x133 : Int) == n137), r136.2)

noncomputable def g22_j180 (u1 : Option Addr) (w0 : World) (u2c0 : Int) (u2c1 : ByteArray) (u2c2 : ByteArray) (u2c3 : Option Addr × Nat × Nat) (u2c4 : Int) (x187 : Int) (x188 : ByteArray) (x189 : ByteArray) (w190 : World) : Option (Value × World) :=
(callF Try.prog 32 #[.pointer u1, .string x188, .string x189] w190).bind fun r191 =>
(asI .i64 r191.1).bind fun n192 =>
some (.bool ((x187 : Int) == n192), r191.2)

noncomputable def g22_j164 (w0 : World) (u1 : Option Addr) (u2c0 : Int) (u2c1 : ByteArray) (u2c2 : ByteArray) (u2c3 : Option Addr × Nat × Nat) (u2c4 : Int) (x175 : Int) (x176 : ByteArray) (w177 : World) : Option (Value × World) :=
(World.cell? w177 (Addr.add (⟨w0.heap.size, 0, none⟩) 2)).bind fun v178 =>
(asS v178).bind fun s179 =>
g22_j180 u1 w0 u2c0 u2c1 u2c2 u2c3 u2c4 x175 x176 s179 w177

noncomputable def g22_j169 (u0 : Option Addr) (s144 : ByteArray) (s148 : ByteArray) (w0 : World) (u2c0 : Int) (u2c1 : ByteArray) (u2c2 : ByteArray) (u2c3 : Option Addr × Nat × Nat) (u2c4 : Int) (u1 : Option Addr) (x181 : ByteArray) (x182 : ByteArray) : Option (Value × World) :=
(callF Try.prog 19 #[.pointer u0, .string s144, .string s148] (World.drew (World.alloc w0 (.cells #[.int .i64 u2c0, .string u2c1, .string u2c2, .slice u2c3.1 u2c3.2.1 u2c3.2.2, .int .i64 u2c4] 47)))).bind fun r183 =>
(asI .i64 r183.1).bind fun n184 =>
g22_j180 u1 w0 u2c0 u2c1 u2c2 u2c3 u2c4 n184 x181 x182 r183.2

noncomputable def g22_j229 (u1 : Option Addr) (q211 : Option Addr × Nat × Nat) (r210 : Value × World) (x232 : Int) (x233 : ByteArray) (w234 : World) : Option (Value × World) :=
(callF Try.prog 28 #[.pointer u1, .string x233, .slice q211.1 q211.2.1 q211.2.2] w234).bind fun r235 =>
(asI .i64 r235.1).bind fun n236 =>
some (.bool ((x232 : Int) == n236), r235.2)

noncomputable def g22 (u0 : Option Addr) (u1 : Option Addr) (u2c0 : Int) (u2c1 : ByteArray) (u2c2 : ByteArray) (u2c3 : Option Addr × Nat × Nat) (u2c4 : Int) (w0 : World) : Option (Value × World) :=
(World.cell? (World.alloc w0 (.cells #[.int .i64 u2c0, .string u2c1, .string u2c2, .slice u2c3.1 u2c3.2.1 u2c3.2.2, .int .i64 u2c4] 47)) (⟨w0.heap.size, 0, none⟩)).bind fun v1 =>
(asI .i64 v1).bind fun n2 =>
if ((n2 : Int) == 0) = true then
((World.cell? (World.alloc (World.alloc w0 (.cells #[.int .i64 u2c0, .string u2c1, .string u2c2, .slice u2c3.1 u2c3.2.1 u2c3.2.2, .int .i64 u2c4] 47)) (.cells #[] 5)) (Addr.add (⟨w0.heap.size, 0, none⟩) 3)).bind fun v3 =>
(asSl v3).bind fun q4 =>
(callB Try.prog .append #[28, 28] 28 #[false, false] #[.slice (some (⟨(World.alloc w0 (.cells #[.int .i64 u2c0, .string u2c1, .string u2c2, .slice u2c3.1 u2c3.2.1 u2c3.2.2, .int .i64 u2c4] 47)).heap.size, 0, none⟩)) 0 0, .slice q4.1 q4.2.1 q4.2.2] (World.alloc (World.alloc w0 (.cells #[.int .i64 u2c0, .string u2c1, .string u2c2, .slice u2c3.1 u2c3.2.1 u2c3.2.2, .int .i64 u2c4] 47)) (.cells #[] 5))).bind fun r5 =>
(asSl r5.1).bind fun q6 =>
(World.cell? r5.2 (Addr.add (⟨w0.heap.size, 0, none⟩) 1)).bind fun v7 =>
(asS v7).bind fun s8 =>
(callF Try.prog 10 #[.pointer u0, .string s8, .slice q6.1 q6.2.1 q6.2.2] r5.2).bind fun r9 =>
(asI .i64 r9.1).bind fun n10 =>
(World.cell? r9.2 (Addr.add (⟨w0.heap.size, 0, none⟩) 3)).bind fun v11 =>
(asSl v11).bind fun q12 =>
(callF Try.prog 20 #[.slice q6.1 q6.2.1 q6.2.2, .slice q12.1 q12.2.1 q12.2.2] r9.2).bind fun r13 =>
(asB r13.1).bind fun b14 =>
g22_l16 u1 w0 q6 n10 b14 0 r13.2)
else
(if ((n2 : Int) == 1) = true then
((World.cell? (World.drew (World.alloc w0 (.cells #[.int .i64 u2c0, .string u2c1, .string u2c2, .slice u2c3.1 u2c3.2.1 u2c3.2.2, .int .i64 u2c4] 47))) (Addr.add (⟨w0.heap.size, 0, none⟩) 1)).bind fun v36 =>
(asS v36).bind fun s37 =>
if (ahd (Region.schedule true (opsOf (cAt [1, 0, 1, 0, 1, 1, 1, 0, 0] (bodyOf Try.f22))) (World.tape (World.alloc w0 (.cells #[.int .i64 u2c0, .string u2c1, .string u2c2, .slice u2c3.1 u2c3.2.1 u2c3.2.2, .int .i64 u2c4] 47)) (World.drawn (World.alloc w0 (.cells #[.int .i64 u2c0, .string u2c1, .string u2c2, .slice u2c3.1 u2c3.2.1 u2c3.2.2, .int .i64 u2c4] 47))) (.order 22 13))) 3 6 && true) = true then
((callF Try.prog 13 #[.pointer u0, .string s37] (World.drew (World.alloc w0 (.cells #[.int .i64 u2c0, .string u2c1, .string u2c2, .slice u2c3.1 u2c3.2.1 u2c3.2.2, .int .i64 u2c4] 47)))).bind fun r41 =>
(asI .i64 r41.1).bind fun n42 =>
(World.cell? r41.2 (Addr.add (⟨w0.heap.size, 0, none⟩) 1)).bind fun v47 =>
(asS v47).bind fun s48 =>
g22_j49 u1 w0 u2c0 u2c1 u2c2 u2c3 u2c4 n42 s48 r41.2)
else
((World.cell? (World.drew (World.alloc w0 (.cells #[.int .i64 u2c0, .string u2c1, .string u2c2, .slice u2c3.1 u2c3.2.1 u2c3.2.2, .int .i64 u2c4] 47))) (Addr.add (⟨w0.heap.size, 0, none⟩) 1)).bind fun v44 =>
(asS v44).bind fun s45 =>
(callF Try.prog 13 #[.pointer u0, .string s37] (World.drew (World.alloc w0 (.cells #[.int .i64 u2c0, .string u2c1, .string u2c2, .slice u2c3.1 u2c3.2.1 u2c3.2.2, .int .i64 u2c4] 47)))).bind fun r50 =>
(asI .i64 r50.1).bind fun n51 =>
g22_j49 u1 w0 u2c0 u2c1 u2c2 u2c3 u2c4 n51 s45 r50.2))
else
(if ((n2 : Int) == 2) = true then
((World.cell? (World.drew (World.alloc w0 (.cells #[.int .i64 u2c0, .string u2c1, .string u2c2, .slice u2c3.1 u2c3.2.1 u2c3.2.2, .int .i64 u2c4] 47))) (Addr.add (⟨w0.heap.size, 0, none⟩) 1)).bind fun v62 =>
(asS v62).bind fun s63 =>
(World.cell? (World.drew (World.alloc w0 (.cells #[.int .i64 u2c0, .string u2c1, .string u2c2, .slice u2c3.1 u2c3.2.1 u2c3.2.2, .int .i64 u2c4] 47))) (Addr.add (⟨w0.heap.size, 0, none⟩) 4)).bind fun v66 =>
(asI .i64 v66).bind fun n67 =>
if (ahd (Region.schedule true (opsOf (cAt [1, 0, 1, 0, 1, 1, 1, 1, 1, 0, 0] (bodyOf Try.f22))) (World.tape (World.alloc w0 (.cells #[.int .i64 u2c0, .string u2c1, .string u2c2, .slice u2c3.1 u2c3.2.1 u2c3.2.2, .int .i64 u2c4] 47)) (World.drawn (World.alloc w0 (.cells #[.int .i64 u2c0, .string u2c1, .string u2c2, .slice u2c3.1 u2c3.2.1 u2c3.2.2, .int .i64 u2c4] 47))) (.order 22 15))) 5 8 && (ahd (Region.schedule true (opsOf (cAt [1, 0, 1, 0, 1, 1, 1, 1, 1, 0, 0] (bodyOf Try.f22))) (World.tape (World.alloc w0 (.cells #[.int .i64 u2c0, .string u2c1, .string u2c2, .slice u2c3.1 u2c3.2.1 u2c3.2.2, .int .i64 u2c4] 47)) (World.drawn (World.alloc w0 (.cells #[.int .i64 u2c0, .string u2c1, .string u2c2, .slice u2c3.1 u2c3.2.1 u2c3.2.2, .int .i64 u2c4] 47))) (.order 22 15))) 5 10 && true)) = true then
((callF Try.prog 23 #[.pointer u0, .string s63, .int .i64 n67] (World.drew (World.alloc w0 (.cells #[.int .i64 u2c0, .string u2c1, .string u2c2, .slice u2c3.1 u2c3.2.1 u2c3.2.2, .int .i64 u2c4] 47)))).bind fun r72 =>
(asI .i64 r72.1).bind fun n73 =>
(World.cell? r72.2 (Addr.add (⟨w0.heap.size, 0, none⟩) 1)).bind fun v81 =>
(asS v81).bind fun s82 =>
g22_j83 w0 u1 u2c0 u2c1 u2c2 u2c3 u2c4 n73 s82 r72.2)
else
(if (ahd (Region.schedule true (opsOf (cAt [1, 0, 1, 0, 1, 1, 1, 1, 1, 0, 0] (bodyOf Try.f22))) (World.tape (World.alloc w0 (.cells #[.int .i64 u2c0, .string u2c1, .string u2c2, .slice u2c3.1 u2c3.2.1 u2c3.2.2, .int .i64 u2c4] 47)) (World.drawn (World.alloc w0 (.cells #[.int .i64 u2c0, .string u2c1, .string u2c2, .slice u2c3.1 u2c3.2.1 u2c3.2.2, .int .i64 u2c4] 47))) (.order 22 15))) 8 10 && true) = true then
((World.cell? (World.drew (World.alloc w0 (.cells #[.int .i64 u2c0, .string u2c1, .string u2c2, .slice u2c3.1 u2c3.2.1 u2c3.2.2, .int .i64 u2c4] 47))) (Addr.add (⟨w0.heap.size, 0, none⟩) 1)).bind fun v75 =>
(asS v75).bind fun s76 =>
if (ahd (Region.schedule true (opsOf (cAt [1, 0, 1, 0, 1, 1, 1, 1, 1, 0, 0] (bodyOf Try.f22))) (World.tape (World.alloc w0 (.cells #[.int .i64 u2c0, .string u2c1, .string u2c2, .slice u2c3.1 u2c3.2.1 u2c3.2.2, .int .i64 u2c4] 47)) (World.drawn (World.alloc w0 (.cells #[.int .i64 u2c0, .string u2c1, .string u2c2, .slice u2c3.1 u2c3.2.1 u2c3.2.2, .int .i64 u2c4] 47))) (.order 22 15))) 5 10 && true) = true then
((callF Try.prog 23 #[.pointer u0, .string s63, .int .i64 n67] (World.drew (World.alloc w0 (.cells #[.int .i64 u2c0, .string u2c1, .string u2c2, .slice u2c3.1 u2c3.2.1 u2c3.2.2, .int .i64 u2c4] 47)))).bind fun r84 =>
(asI .i64 r84.1).bind fun n85 =>
g22_j83 w0 u1 u2c0 u2c1 u2c2 u2c3 u2c4 n85 s76 r84.2)
else
((World.cell? (World.drew (World.alloc w0 (.cells #[.int .i64 u2c0, .string u2c1, .string u2c2, .slice u2c3.1 u2c3.2.1 u2c3.2.2, .int .i64 u2c4] 47))) (Addr.add (⟨w0.heap.size, 0, none⟩) 4)).bind fun v86 =>
(asI .i64 v86).bind fun n87 =>
g22_j88 u0 s63 n67 w0 u2c0 u2c1 u2c2 u2c3 u2c4 u1 s76 n87))
else
((World.cell? (World.drew (World.alloc w0 (.cells #[.int .i64 u2c0, .string u2c1, .string u2c2, .slice u2c3.1 u2c3.2.1 u2c3.2.2, .int .i64 u2c4] 47))) (Addr.add (⟨w0.heap.size, 0, none⟩) 4)).bind fun v78 =>
(asI .i64 v78).bind fun n79 =>
if (ahd (Region.schedule true (opsOf (cAt [1, 0, 1, 0, 1, 1, 1, 1, 1, 0, 0] (bodyOf Try.f22))) (World.tape (World.alloc w0 (.cells #[.int .i64 u2c0, .string u2c1, .string u2c2, .slice u2c3.1 u2c3.2.1 u2c3.2.2, .int .i64 u2c4] 47)) (World.drawn (World.alloc w0 (.cells #[.int .i64 u2c0, .string u2c1, .string u2c2, .slice u2c3.1 u2c3.2.1 u2c3.2.2, .int .i64 u2c4] 47))) (.order 22 15))) 5 8 && true) = true then
((callF Try.prog 23 #[.pointer u0, .string s63, .int .i64 n67] (World.drew (World.alloc w0 (.cells #[.int .i64 u2c0, .string u2c1, .string u2c2, .slice u2c3.1 u2c3.2.1 u2c3.2.2, .int .i64 u2c4] 47)))).bind fun r89 =>
(asI .i64 r89.1).bind fun n90 =>
(World.cell? r89.2 (Addr.add (⟨w0.heap.size, 0, none⟩) 1)).bind fun v104 =>
(asS v104).bind fun s105 =>
g22_j99 u1 w0 u2c0 u2c1 u2c2 u2c3 u2c4 n90 s105 n79 r89.2)
else
((World.cell? (World.drew (World.alloc w0 (.cells #[.int .i64 u2c0, .string u2c1, .string u2c2, .slice u2c3.1 u2c3.2.1 u2c3.2.2, .int .i64 u2c4] 47))) (Addr.add (⟨w0.heap.size, 0, none⟩) 1)).bind fun v92 =>
(asS v92).bind fun s93 =>
g22_j88 u0 s63 n67 w0 u2c0 u2c1 u2c2 u2c3 u2c4 u1 s93 n79))))
else
(if ((n2 : Int) == 3) = true then
((World.cell? (World.drew (World.alloc w0 (.cells #[.int .i64 u2c0, .string u2c1, .string u2c2, .slice u2c3.1 u2c3.2.1 u2c3.2.2, .int .i64 u2c4] 47))) (Addr.add (⟨w0.heap.size, 0, none⟩) 1)).bind fun v117 =>
(asS v117).bind fun s118 =>
if (ahd (Region.schedule true (opsOf (cAt [1, 0, 1, 0, 1, 1, 1, 1, 1, 1, 1, 0, 0] (bodyOf Try.f22))) (World.tape (World.alloc w0 (.cells #[.int .i64 u2c0, .string u2c1, .string u2c2, .slice u2c3.1 u2c3.2.1 u2c3.2.2, .int .i64 u2c4] 47)) (World.drawn (World.alloc w0 (.cells #[.int .i64 u2c0, .string u2c1, .string u2c2, .slice u2c3.1 u2c3.2.1 u2c3.2.2, .int .i64 u2c4] 47))) (.order 22 17))) 3 6 && true) = true then
((callF Try.prog 24 #[.pointer u0, .string s118] (World.drew (World.alloc w0 (.cells #[.int .i64 u2c0, .string u2c1, .string u2c2, .slice u2c3.1 u2c3.2.1 u2c3.2.2, .int .i64 u2c4] 47)))).bind fun r122 =>
(asI .i64 r122.1).bind fun n123 =>
(World.cell? r122.2 (Addr.add (⟨w0.heap.size, 0, none⟩) 1)).bind fun v128 =>
(asS v128).bind fun s129 =>
g22_j130 u1 w0 u2c0 u2c1 u2c2 u2c3 u2c4 n123 s129 r122.2)
else
((World.cell? (World.drew (World.alloc w0 (.cells #[.int .i64 u2c0, .string u2c1, .string u2c2, .slice u2c3.1 u2c3.2.1 u2c3.2.2, .int .i64 u2c4] 47))) (Addr.add (⟨w0.heap.size, 0, none⟩) 1)).bind fun v125 =>
(asS v125).bind fun s126 =>
(callF Try.prog 24 #[.pointer u0, .string s118] (World.drew (World.alloc w0 (.cells #[.int .i64 u2c0, .string u2c1, .string u2c2, .slice u2c3.1 u2c3.2.1 u2c3.2.2, .int .i64 u2c4] 47)))).bind fun r131 =>
(asI .i64 r131.1).bind fun n132 =>
g22_j130 u1 w0 u2c0 u2c1 u2c2 u2c3 u2c4 n132 s126 r131.2))
else
(if ((n2 : Int) == 4) = true then
((World.cell? (World.drew (World.alloc w0 (.cells #[.int .i64 u2c0, .string u2c1, .string u2c2, .slice u2c3.1 u2c3.2.1 u2c3.2.2, .int .i64 u2c4] 47))) (Addr.add (⟨w0.heap.size, 0, none⟩) 1)).bind fun v143 =>
(asS v143).bind fun s144 =>
(World.cell? (World.drew (World.alloc w0 (.cells #[.int .i64 u2c0, .string u2c1, .string u2c2, .slice u2c3.1 u2c3.2.1 u2c3.2.2, .int .i64 u2c4] 47))) (Addr.add (⟨w0.heap.size, 0, none⟩) 2)).bind fun v147 =>
(asS v147).bind fun s148 =>
if (ahd (Region.schedule true (opsOf (cAt [1, 0, 1, 0, 1, 1, 1, 1, 1, 1, 1, 1, 1, 0, 0] (bodyOf Try.f22))) (World.tape (World.alloc w0 (.cells #[.int .i64 u2c0, .string u2c1, .string u2c2, .slice u2c3.1 u2c3.2.1 u2c3.2.2, .int .i64 u2c4] 47)) (World.drawn (World.alloc w0 (.cells #[.int .i64 u2c0, .string u2c1, .string u2c2, .slice u2c3.1 u2c3.2.1 u2c3.2.2, .int .i64 u2c4] 47))) (.order 22 19))) 5 8 && (ahd (Region.schedule true (opsOf (cAt [1, 0, 1, 0, 1, 1, 1, 1, 1, 1, 1, 1, 1, 0, 0] (bodyOf Try.f22))) (World.tape (World.alloc w0 (.cells #[.int .i64 u2c0, .string u2c1, .string u2c2, .slice u2c3.1 u2c3.2.1 u2c3.2.2, .int .i64 u2c4] 47)) (World.drawn (World.alloc w0 (.cells #[.int .i64 u2c0, .string u2c1, .string u2c2, .slice u2c3.1 u2c3.2.1 u2c3.2.2, .int .i64 u2c4] 47))) (.order 22 19))) 5 10 && true)) = true then
((callF Try.prog 19 #[.pointer u0, .string s144, .string s148] (World.drew (World.alloc w0 (.cells #[.int .i64 u2c0, .string u2c1, .string u2c2, .slice u2c3.1 u2c3.2.1 u2c3.2.2, .int .i64 u2c4] 47)))).bind fun r153 =>
(asI .i64 r153.1).bind fun n154 =>
(World.cell? r153.2 (Addr.add (⟨w0.heap.size, 0, none⟩) 1)).bind fun v162 =>
(asS v162).bind fun s163 =>
g22_j164 w0 u1 u2c0 u2c1 u2c2 u2c3 u2c4 n154 s163 r153.2)
else
(if (ahd (Region.schedule true (opsOf (cAt [1, 0, 1, 0, 1, 1, 1, 1, 1, 1, 1, 1, 1, 0, 0] (bodyOf Try.f22))) (World.tape (World.alloc w0 (.cells #[.int .i64 u2c0, .string u2c1, .string u2c2, .slice u2c3.1 u2c3.2.1 u2c3.2.2, .int .i64 u2c4] 47)) (World.drawn (World.alloc w0 (.cells #[.int .i64 u2c0, .string u2c1, .string u2c2, .slice u2c3.1 u2c3.2.1 u2c3.2.2, .int .i64 u2c4] 47))) (.order 22 19))) 8 10 && true) = true then
((World.cell? (World.drew (World.alloc w0 (.cells #[.int .i64 u2c0, .string u2c1, .string u2c2, .slice u2c3.1 u2c3.2.1 u2c3.2.2, .int .i64 u2c4] 47))) (Addr.add (⟨w0.heap.size, 0, none⟩) 1)).bind fun v156 =>
(asS v156).bind fun s157 =>
if (ahd (Region.schedule true (opsOf (cAt [1, 0, 1, 0, 1, 1, 1, 1, 1, 1, 1, 1, 1, 0, 0] (bodyOf Try.f22))) (World.tape (World.alloc w0 (.cells #[.int .i64 u2c0, .string u2c1, .string u2c2, .slice u2c3.1 u2c3.2.1 u2c3.2.2, .int .i64 u2c4] 47)) (World.drawn (World.alloc w0 (.cells #[.int .i64 u2c0, .string u2c1, .string u2c2, .slice u2c3.1 u2c3.2.1 u2c3.2.2, .int .i64 u2c4] 47))) (.order 22 19))) 5 10 && true) = true then
((callF Try.prog 19 #[.pointer u0, .string s144, .string s148] (World.drew (World.alloc w0 (.cells #[.int .i64 u2c0, .string u2c1, .string u2c2, .slice u2c3.1 u2c3.2.1 u2c3.2.2, .int .i64 u2c4] 47)))).bind fun r165 =>
(asI .i64 r165.1).bind fun n166 =>
g22_j164 w0 u1 u2c0 u2c1 u2c2 u2c3 u2c4 n166 s157 r165.2)
else
((World.cell? (World.drew (World.alloc w0 (.cells #[.int .i64 u2c0, .string u2c1, .string u2c2, .slice u2c3.1 u2c3.2.1 u2c3.2.2, .int .i64 u2c4] 47))) (Addr.add (⟨w0.heap.size, 0, none⟩) 2)).bind fun v167 =>
(asS v167).bind fun s168 =>
g22_j169 u0 s144 s148 w0 u2c0 u2c1 u2c2 u2c3 u2c4 u1 s157 s168))
else
((World.cell? (World.drew (World.alloc w0 (.cells #[.int .i64 u2c0, .string u2c1, .string u2c2, .slice u2c3.1 u2c3.2.1 u2c3.2.2, .int .i64 u2c4] 47))) (Addr.add (⟨w0.heap.size, 0, none⟩) 2)).bind fun v159 =>
(asS v159).bind fun s160 =>
if (ahd (Region.schedule true (opsOf (cAt [1, 0, 1, 0, 1, 1, 1, 1, 1, 1, 1, 1, 1, 0, 0] (bodyOf Try.f22))) (World.tape (World.alloc w0 (.cells #[.int .i64 u2c0, .string u2c1, .string u2c2, .slice u2c3.1 u2c3.2.1 u2c3.2.2, .int .i64 u2c4] 47)) (World.drawn (World.alloc w0 (.cells #[.int .i64 u2c0, .string u2c1, .string u2c2, .slice u2c3.1 u2c3.2.1 u2c3.2.2, .int .i64 u2c4] 47))) (.order 22 19))) 5 8 && true) = true then
((callF Try.prog 19 #[.pointer u0, .string s144, .string s148] (World.drew (World.alloc w0 (.cells #[.int .i64 u2c0, .string u2c1, .string u2c2, .slice u2c3.1 u2c3.2.1 u2c3.2.2, .int .i64 u2c4] 47)))).bind fun r170 =>
(asI .i64 r170.1).bind fun n171 =>
(World.cell? r170.2 (Addr.add (⟨w0.heap.size, 0, none⟩) 1)).bind fun v185 =>
(asS v185).bind fun s186 =>
g22_j180 u1 w0 u2c0 u2c1 u2c2 u2c3 u2c4 n171 s186 s160 r170.2)
else
((World.cell? (World.drew (World.alloc w0 (.cells #[.int .i64 u2c0, .string u2c1, .string u2c2, .slice u2c3.1 u2c3.2.1 u2c3.2.2, .int .i64 u2c4] 47))) (Addr.add (⟨w0.heap.size, 0, none⟩) 1)).bind fun v173 =>
(asS v173).bind fun s174 =>
g22_j169 u0 s144 s148 w0 u2c0 u2c1 u2c2 u2c3 u2c4 u1 s174 s160))))
else
(if ((n2 : Int) == 5) = true then
((World.cell? (World.alloc w0 (.cells #[.int .i64 u2c0, .string u2c1, .string u2c2, .slice u2c3.1 u2c3.2.1 u2c3.2.2, .int .i64 u2c4] 47)) (Addr.add (⟨w0.heap.size, 0, none⟩) 4)).bind fun v196 =>
(asI .i64 v196).bind fun n197 =>
(callF Try.prog 11 #[.pointer u0, .int .i64 n197] (World.alloc w0 (.cells #[.int .i64 u2c0, .string u2c1, .string u2c2, .slice u2c3.1 u2c3.2.1 u2c3.2.2, .int .i64 u2c4] 47))).bind fun r198 =>
(asTup 0 r198.1).bind fun _ =>
(World.cell? r198.2 (Addr.add (⟨w0.heap.size, 0, none⟩) 4)).bind fun v199 =>
(asI .i64 v199).bind fun n200 =>
(callF Try.prog 33 #[.pointer u1, .int .i64 n200] r198.2).bind fun r201 =>
(asTup 0 r201.1).bind fun _ =>
some (.bool true, r201.2))
else
(if ((n2 : Int) == 6) = true then
((World.cell? (World.alloc w0 (.cells #[.int .i64 u2c0, .string u2c1, .string u2c2, .slice u2c3.1 u2c3.2.1 u2c3.2.2, .int .i64 u2c4] 47)) (Addr.add (⟨w0.heap.size, 0, none⟩) 4)).bind fun v202 =>
(asI .i64 v202).bind fun n203 =>
(callF Try.prog 14 #[.pointer u0, .int .i64 n203] (World.alloc w0 (.cells #[.int .i64 u2c0, .string u2c1, .string u2c2, .slice u2c3.1 u2c3.2.1 u2c3.2.2, .int .i64 u2c4] 47))).bind fun r204 =>
(asTup 0 r204.1).bind fun _ =>
(World.cell? r204.2 (Addr.add (⟨w0.heap.size, 0, none⟩) 4)).bind fun v205 =>
(asI .i64 v205).bind fun n206 =>
(callF Try.prog 34 #[.pointer u1, .int .i64 n206] r204.2).bind fun r207 =>
(asTup 0 r207.1).bind fun _ =>
some (.bool true, r207.2))
else
(if ((n2 : Int) == 7) = true then
((World.cell? (World.alloc w0 (.cells #[.int .i64 u2c0, .string u2c1, .string u2c2, .slice u2c3.1 u2c3.2.1 u2c3.2.2, .int .i64 u2c4] 47)) (Addr.add (⟨w0.heap.size, 0, none⟩) 4)).bind fun v208 =>
(asI .i64 v208).bind fun n209 =>
(callF Try.prog 16 #[.int .i64 n209] (World.alloc w0 (.cells #[.int .i64 u2c0, .string u2c1, .string u2c2, .slice u2c3.1 u2c3.2.1 u2c3.2.2, .int .i64 u2c4] 47))).bind fun r210 =>
(asSl r210.1).bind fun q211 =>
(World.cell? (World.drew r210.2) (Addr.add (⟨w0.heap.size, 0, none⟩) 1)).bind fun v214 =>
(asS v214).bind fun s215 =>
if (ahd (Region.schedule true (opsOf (cAt [1, 0, 1, 0, 1, 1, 1, 1, 1, 1, 1, 1, 1, 1, 1, 1, 1, 1, 1, 0, 1, 0] (bodyOf Try.f22))) (World.tape r210.2 (World.drawn r210.2) (.order 22 28))) 4 7 && true) = true then
((callF Try.prog 10 #[.pointer u0, .string s215, .slice q211.1 q211.2.1 q211.2.2] (World.drew r210.2)).bind fun r221 =>
(asI .i64 r221.1).bind fun n222 =>
(World.cell? r221.2 (Addr.add (⟨w0.heap.size, 0, none⟩) 1)).bind fun v227 =>
(asS v227).bind fun s228 =>
g22_j229 u1 q211 r210 n222 s228 r221.2)
else
((World.cell? (World.drew r210.2) (Addr.add (⟨w0.heap.size, 0, none⟩) 1)).bind fun v224 =>
(asS v224).bind fun s225 =>
(callF Try.prog 10 #[.pointer u0, .string s215, .slice q211.1 q211.2.1 q211.2.2] (World.drew r210.2)).bind fun r230 =>
(asI .i64 r230.1).bind fun n231 =>
g22_j229 u1 q211 r210 n231 s225 r230.2))
else
(some (.bool true, (World.alloc w0 (.cells #[.int .i64 u2c0, .string u2c1, .string u2c2, .slice u2c3.1 u2c3.2.1 u2c3.2.2, .int .i64 u2c4] 47)))))))))))

theorem g22_eq (u0 : Option Addr) (u1 : Option Addr) (u2c0 : Int) (u2c1 : ByteArray) (u2c2 : ByteArray) (u2c3 : Option Addr × Nat × Nat) (u2c4 : Int) (w0 : World) : evFn Try.prog 22 g22_ann #[.pointer u0, .pointer u1, .agg #[.int .i64 u2c0, .string u2c1, .string u2c2, .slice u2c3.1 u2c3.2.1 u2c3.2.2, .int .i64 u2c4]] w0 = g22 u0 u1 u2c0 u2c1 u2c2 u2c3 u2c4 w0 := by kernel_rfl

theorem g22_call {u0 : Option Addr} {u1 : Option Addr} {u2c0 : Int} {u2c1 : ByteArray} {u2c2 : ByteArray} {u2c3 : Option Addr × Nat × Nat} {u2c4 : Int} {w0 : World} {r : Value × World} (h : g22 u0 u1 u2c0 u2c1 u2c2 u2c3 u2c4 w0 = some r) : callF Try.prog 22 #[.pointer u0, .pointer u1, .agg #[.int .i64 u2c0, .string u2c1, .string u2c2, .slice u2c3.1 u2c3.2.1 u2c3.2.2, .int .i64 u2c4]] w0 = some r :=
  callF_of_evFn (ann := g22_ann) Try.call22 (by kernel_rfl) ((g22_eq u0 u1 u2c0 u2c1 u2c2 u2c3 u2c4 w0).trans h)

theorem g22_l16_x1_of {u1 : Option Addr} {w0 : World} {q6 : Option Addr × Nat × Nat} {n10 : Int} {b14 : Bool} {s t : Int} {w w' : World} (h : loopS (g22_l16_b q6 u1 w0 n10 b14) s w = some (.exit 1, t, w')) : g22_l16 u1 w0 q6 n10 b14 s w = g22_l16_x1 b14 w0 u1 n10 t w' := by
  have h1 : g22_l16 u1 w0 q6 n10 b14 s w = loopM Try.prog 137 22 g22_ann (cAt [1, 0, 1, 0, 1, 0, 1, 1, 1, 0, 1, 0, 0] (bodyOf Try.f22)) [0, 1, 0, 1, 1, 1, 0, 1, 0, 1, 0, 1] g22_K25 ((g22_l16_cs u1 w0 q6 n10 b14) ++ sputs [(31, .i .i64)] s) w := by kernel_rfl
  have h2 : loopM Try.prog 137 22 g22_ann (cAt [1, 0, 1, 0, 1, 0, 1, 1, 1, 0, 1, 0, 0] (bodyOf Try.f22)) [0, 1, 0, 1, 1, 1, 0, 1, 0, 1, 0, 1] g22_K25 ((g22_l16_cs u1 w0 q6 n10 b14) ++ sputs [(31, .i .i64)] s) w = g22_K25 (.exit 1) (puts 137 ((g22_l16_cs u1 w0 q6 n10 b14) ++ sputs [(31, .i .i64)] t)) w' :=
    loop_rule (P := Try.prog) (N := 137) (f := 22) (ann := g22_ann) (body := (cAt [1, 0, 1, 0, 1, 0, 1, 1, 1, 0, 1, 0, 0] (bodyOf Try.f22))) (pt := [0, 1, 0, 1, 1, 1, 0, 1, 0, 1, 0, 1]) (K := g22_K25) (g22_l16_cs u1 w0 q6 n10 b14) [(31, .i .i64)] (b := g22_l16_b q6 u1 w0 n10 b14) (fun s w => by kernel_rfl) (by kernel_rfl) (by kernel_rfl) (by kernel_rfl) h
  have h3 : g22_K25 (.exit 1) (puts 137 ((g22_l16_cs u1 w0 q6 n10 b14) ++ sputs [(31, .i .i64)] t)) w' = g22_l16_x1 b14 w0 u1 n10 t w' := by kernel_rfl
  exact h1.trans (h2.trans h3)

end Go.Proofs.Ytkmidlhnlnolnaa
