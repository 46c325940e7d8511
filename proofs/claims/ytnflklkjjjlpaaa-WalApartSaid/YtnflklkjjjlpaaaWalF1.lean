/-
  WalF1: lemmas on what Go functions of this seat come to (for whatever arguments, as each says). No condition but those that stand in each lemma.
-/
import Derived.Test.YtnflklkjjjlpaaaWalF0
namespace Go.Proofs.Ytnflklkjjjlpaaa
open Go Go.Ev
set_option maxRecDepth 100000
set_option linter.unusedVariables false
/-! 10: penstock/wal.Open (d: *disk.Disk, name: string) -/
def g10_ann : List (List Nat × List Nat) := []

noncomputable def g10_j19 (r1 : Value × World) (q16 : Option Addr × Nat × Nat) (w23 : World) : Option (Value × World) :=
(st1 w23 (Addr.add (⟨r1.2.heap.size, 0, none⟩) 3) (.int .i64 (q16.2.1 : Int))).bind fun w25 =>
some (.tuple #[.pointer (some (⟨r1.2.heap.size, 0, none⟩)), .slice q16.1 q16.2.1 q16.2.2, .int .i64 0], w25)

noncomputable def g10_j7 (r1 : Value × World) (q5 : Option Addr × Nat × Nat) (u0 : Option Addr) (u1 : ByteArray) (x10 : Int) (w11 : World) : Option (Value × World) :=
if ((x10 : Int) != 0) = true then
(some (.tuple #[.pointer none, .slice none 0 0, .int .i64 x10], w11))
else
((World.cell? w11 (Addr.add (⟨r1.2.heap.size, 0, none⟩) 2)).bind fun v12 =>
(asP v12).bind fun p13 =>
(callF Try.prog 31 #[.pointer p13, .slice q5.1 q5.2.1 q5.2.2] w11).bind fun r14 =>
(asTup 3 r14.1).bind fun l15 =>
(asSl (l15.getD 0 undef)).bind fun q16 =>
(asI .i64 (l15.getD 1 undef)).bind fun n17 =>
(asI .i64 (l15.getD 2 undef)).bind fun n18 =>
if (decide ((n17 : Int) < (q5.2.1 : Int))) = true then
((callF Try.prog 32 #[.pointer u0, .string u1, .int .i64 n17] r14.2).bind fun r21 =>
(asI .i64 r21.1).bind fun n22 =>
g10_j19 r1 q16 r21.2)
else
(g10_j19 r1 q16 r14.2))

noncomputable def g10 (u0 : Option Addr) (u1 : ByteArray) (w0 : World) : Option (Value × World) :=
(callF Try.prog 30 #[] w0).bind fun r1 =>
(asP r1.1).bind fun p2 =>
(callF Try.prog 15 #[.pointer u0, .string u1] (World.alloc r1.2 (.cells #[.pointer u0, .string u1, .pointer p2, .int .i64 0] 64))).bind fun r3 =>
(asTup 2 r3.1).bind fun l4 =>
(asSl (l4.getD 0 undef)).bind fun q5 =>
(asI .i64 (l4.getD 1 undef)).bind fun n6 =>
if ((n6 : Int) == 4) = true then
((callF Try.prog 19 #[.pointer u0, .string u1, .slice none 0 0] r3.2).bind fun r8 =>
(asI .i64 r8.1).bind fun n9 =>
g10_j7 r1 q5 u0 u1 n9 r8.2)
else
(if ((n6 : Int) == 0) = true then
(g10_j7 r1 q5 u0 u1 n6 r3.2)
else
(g10_j7 r1 q5 u0 u1 n6 r3.2))

theorem g10_eq (u0 : Option Addr) (u1 : ByteArray) (w0 : World) : evFn Try.prog 10 g10_ann #[.pointer u0, .string u1] w0 = g10 u0 u1 w0 := by kernel_rfl

theorem g10_call {u0 : Option Addr} {u1 : ByteArray} {w0 : World} {r : Value × World} (h : g10 u0 u1 w0 = some r) : callF Try.prog 10 #[.pointer u0, .string u1] w0 = some r :=
  callF_of_evFn (ann := g10_ann) Try.call10 (by kernel_rfl) ((g10_eq u0 u1 w0).trans h)

/-! 11: penstock/penstocklaw06.awake () -/
def g11_ann : List (List Nat × List Nat) := []

noncomputable def g11  (w0 : World) : Option (Value × World) :=
(callF Try.prog 9 #[] w0).bind fun r1 =>
(asP r1.1).bind fun p2 =>
(callF Try.prog 10 #[.pointer p2, .string (⟨#[119]⟩ : ByteArray)] r1.2).bind fun r3 =>
(asTup 3 r3.1).bind fun l4 =>
(asP (l4.getD 0 undef)).bind fun p5 =>
(asSl (l4.getD 1 undef)).bind fun q6 =>
(asI .i64 (l4.getD 2 undef)).bind fun n7 =>
if (p5.isNone) = true then
(some (.bool false, r3.2))
else
(if ((n7 : Int) != 0) = true then
(some (.bool false, r3.2))
else
(if (((q6.2.1 : Int) : Int) != 0) = true then
(some (.bool false, r3.2))
else
((semR Try.prog (convert 31 31 (.slice (some (⟨r3.2.heap.size, 0, none⟩)) 1 1)) (World.alloc r3.2 (.cells #[.int .u8 97] 5))).bind fun r9 =>
(asSl r9.1).bind fun q10 =>
(callF Try.prog 14 #[.pointer p5, .slice q10.1 q10.2.1 q10.2.2] r9.2).bind fun r11 =>
(asI .i64 r11.1).bind fun n12 =>
if ((n12 : Int) != 0) = true then
(some (.bool false, r11.2))
else
((callF Try.prog 23 #[.pointer p5] r11.2).bind fun r13 =>
(asI .i64 r13.1).bind fun n14 =>
if ((n14 : Int) != 0) = true then
(some (.bool false, r13.2))
else
((semR Try.prog (convert 31 31 (.slice (some (⟨r13.2.heap.size, 0, none⟩)) 1 1)) (World.alloc r13.2 (.cells #[.int .u8 98] 5))).bind fun r15 =>
(asSl r15.1).bind fun q16 =>
(callF Try.prog 14 #[.pointer p5, .slice q16.1 q16.2.1 q16.2.2] r15.2).bind fun r17 =>
(asI .i64 r17.1).bind fun n18 =>
if ((n18 : Int) != 0) = true then
(some (.bool false, r17.2))
else
((callF Try.prog 27 #[.pointer p2, .int .i64 3] r17.2).bind fun r19 =>
(asTup 0 r19.1).bind fun _ =>
(callF Try.prog 10 #[.pointer p2, .string (⟨#[119]⟩ : ByteArray)] r19.2).bind fun r20 =>
(asTup 3 r20.1).bind fun l21 =>
(asP (l21.getD 0 undef)).bind fun p22 =>
(asSl (l21.getD 1 undef)).bind fun q23 =>
(asI .i64 (l21.getD 2 undef)).bind fun n24 =>
if (!(p22.isNone)) = true then
(if ((n24 : Int) == 0) = true then
(if (((q23.2.1 : Int) : Int) == 1) = true then
((idxA q23.1 q23.2.1 1 0).bind fun a26 =>
(World.cell? r20.2 a26).bind fun v27 =>
(asSl v27).bind fun q28 =>
(semR Try.prog (convert 31 9 (.slice q28.1 q28.2.1 q28.2.2)) r20.2).bind fun r29 =>
(asS r29.1).bind fun s30 =>
if (s30.toList == (⟨#[97]⟩ : ByteArray).toList) = true then
((callF Try.prog 18 #[.pointer p22] r29.2).bind fun r31 =>
(asI .i64 r31.1).bind fun n32 =>
some (.bool ((n32 : Int) == 1), r31.2))
else
(some (.bool false, r29.2)))
else
(some (.bool false, r20.2)))
else
(some (.bool false, r20.2)))
else
(some (.bool false, r20.2))))))))

theorem g11_eq  (w0 : World) : evFn Try.prog 11 g11_ann #[] w0 = g11 w0 := by kernel_rfl

theorem g11_call  {w0 : World} {r : Value × World} (h : g11 w0 = some r) : callF Try.prog 11 #[] w0 = some r :=
  callF_of_evFn (ann := g11_ann) Try.call11 (by kernel_rfl) ((g11_eq  w0).trans h)

/-! 12: penstock/penstocklaw06.long (l: [][]uint8) -/
def g12_ann : List (List Nat × List Nat) := [([0, 1, 0, 1], [5, 6, 2, 7])]

def g12_l2_cs (u0 : Option Addr × Nat × Nat) : List (Nat × Value) := ([(5, .slice u0.1 u0.2.1 u0.2.2), (6, .int .i64 (u0.2.1 : Int))] : List (Nat × Value))

/-- the round of a loop (penstock/penstocklaw06.long) -/
noncomputable def g12_l2_b (u0 : Option Addr × Nat × Nat) (s3 : Bool × Int) (w4 : World) : Option (Exit × (Bool × Int) × World) :=
if (decide ((s3.2 : Int) < (u0.2.1 : Int))) = true then
((idxA u0.1 u0.2.1 1 s3.2).bind fun a5 =>
(World.cell? w4 a5).bind fun v6 =>
(asSl v6).bind fun q7 =>
if (decide (((q7.2.1 : Int) : Int) > 4096)) = true then
(some (.ret, (true, s3.2), w4))
else
(some (.normal, (s3.1, (IntKind.i64.wrap (s3.2 + 1))), w4)))
else
(some ((.exit 0), (s3.1, s3.2), w4))

noncomputable def g12_K9  : Exit → Env → World → Option (Value × World) :=
  retK Try.prog Try.f12.results.toList

noncomputable def g12_K10  : Exit → Env → World → Option (Value × World) :=
  seqK (ev Try.prog 15 12 g12_ann (cAt [1, 1] (bodyOf Try.f12)) [1, 1] g12_K9) g12_K9

noncomputable def g12_K11  : Exit → Env → World → Option (Value × World) :=
  blkK 0 g12_K10

/-- the loop, from a state on -/
noncomputable def g12_l2 (u0 : Option Addr × Nat × Nat) (s : Bool × Int) (w : World) : Option (Value × World) :=
  loopM Try.prog 15 12 g12_ann (cAt [1, 0, 1, 0, 0] (bodyOf Try.f12)) [0, 1, 0, 1] g12_K11 ((g12_l2_cs u0) ++ sputs [(2, .b), (7, .i .i64)] s) w

/-- behind the loop, left by x0 -/
noncomputable def g12_l2_x0  (t12 : Bool × Int) (w13 : World) : Option (Value × World) :=
some (.bool false, w13)

/-- behind the loop, left by ret -/
noncomputable def g12_l2_ret  (t14 : Bool × Int) (w15 : World) : Option (Value × World) :=
some (.bool t14.1, w15)

noncomputable def g12 (u0 : Option Addr × Nat × Nat) (w0 : World) : Option (Value × World) :=
g12_l2 u0 (false, 0) w0

theorem g12_eq (u0 : Option Addr × Nat × Nat) (w0 : World) : evFn Try.prog 12 g12_ann #[.slice u0.1 u0.2.1 u0.2.2] w0 = g12 u0 w0 := by kernel_rfl

theorem g12_call {u0 : Option Addr × Nat × Nat} {w0 : World} {r : Value × World} (h : g12 u0 w0 = some r) : callF Try.prog 12 #[.slice u0.1 u0.2.1 u0.2.2] w0 = some r :=
  callF_of_evFn (ann := g12_ann) Try.call12 (by kernel_rfl) ((g12_eq u0 w0).trans h)

theorem g12_l2_x0_of {u0 : Option Addr × Nat × Nat} {s t : Bool × Int} {w w' : World} (h : loopS (g12_l2_b u0) s w = some (.exit 0, t, w')) : g12_l2 u0 s w = g12_l2_x0 t w' := by
  have h1 : g12_l2 u0 s w = loopM Try.prog 15 12 g12_ann (cAt [1, 0, 1, 0, 0] (bodyOf Try.f12)) [0, 1, 0, 1] g12_K11 ((g12_l2_cs u0) ++ sputs [(2, .b), (7, .i .i64)] s) w := by kernel_rfl
  have h2 : loopM Try.prog 15 12 g12_ann (cAt [1, 0, 1, 0, 0] (bodyOf Try.f12)) [0, 1, 0, 1] g12_K11 ((g12_l2_cs u0) ++ sputs [(2, .b), (7, .i .i64)] s) w = g12_K11 (.exit 0) (puts 15 ((g12_l2_cs u0) ++ sputs [(2, .b), (7, .i .i64)] t)) w' :=
    loop_rule (P := Try.prog) (N := 15) (f := 12) (ann := g12_ann) (body := (cAt [1, 0, 1, 0, 0] (bodyOf Try.f12))) (pt := [0, 1, 0, 1]) (K := g12_K11) (g12_l2_cs u0) [(2, .b), (7, .i .i64)] (b := g12_l2_b u0) (fun s w => by kernel_rfl) (by kernel_rfl) (by kernel_rfl) (by kernel_rfl) h
  have h3 : g12_K11 (.exit 0) (puts 15 ((g12_l2_cs u0) ++ sputs [(2, .b), (7, .i .i64)] t)) w' = g12_l2_x0 t w' := by kernel_rfl
  exact h1.trans (h2.trans h3)

theorem g12_l2_ret_of {u0 : Option Addr × Nat × Nat} {s t : Bool × Int} {w w' : World} (h : loopS (g12_l2_b u0) s w = some (.ret, t, w')) : g12_l2 u0 s w = g12_l2_ret t w' := by
  have h1 : g12_l2 u0 s w = loopM Try.prog 15 12 g12_ann (cAt [1, 0, 1, 0, 0] (bodyOf Try.f12)) [0, 1, 0, 1] g12_K11 ((g12_l2_cs u0) ++ sputs [(2, .b), (7, .i .i64)] s) w := by kernel_rfl
  have h2 : loopM Try.prog 15 12 g12_ann (cAt [1, 0, 1, 0, 0] (bodyOf Try.f12)) [0, 1, 0, 1] g12_K11 ((g12_l2_cs u0) ++ sputs [(2, .b), (7, .i .i64)] s) w = g12_K11 (.ret) (puts 15 ((g12_l2_cs u0) ++ sputs [(2, .b), (7, .i .i64)] t)) w' :=
    loop_rule (P := Try.prog) (N := 15) (f := 12) (ann := g12_ann) (body := (cAt [1, 0, 1, 0, 0] (bodyOf Try.f12))) (pt := [0, 1, 0, 1]) (K := g12_K11) (g12_l2_cs u0) [(2, .b), (7, .i .i64)] (b := g12_l2_b u0) (fun s w => by kernel_rfl) (by kernel_rfl) (by kernel_rfl) (by kernel_rfl) h
  have h3 : g12_K11 (.ret) (puts 15 ((g12_l2_cs u0) ++ sputs [(2, .b), (7, .i .i64)] t)) w' = g12_l2_ret t w' := by kernel_rfl
  exact h1.trans (h2.trans h3)

/-! 14: (*penstock/wal.Wal).Append (w: *wal.Wal, payload: []uint8) -/
def g14_ann : List (List Nat × List Nat) := []

noncomputable def g14 (u0 : Option Addr) (u1 : Option Addr × Nat × Nat) (w0 : World) : Option (Value × World) :=
if (u0.isNone) = true then
(some (.int .i64 5, w0))
else
(u0.bind fun a1 =>
(World.cell? w0 (Addr.add a1 2)).bind fun v2 =>
(asP v2).bind fun p3 =>
(callF Try.prog 35 #[.pointer p3, .slice u1.1 u1.2.1 u1.2.2] w0).bind fun r4 =>
(asTup 2 r4.1).bind fun l5 =>
(asSl (l5.getD 0 undef)).bind fun q6 =>
(asI .i64 (l5.getD 1 undef)).bind fun n7 =>
if ((n7 : Int) != 0) = true then
(some (.int .i64 n7, r4.2))
else
(u0.bind fun a8 =>
(World.cell? (World.drew r4.2) a8).bind fun v9 =>
(asP v9).bind fun p10 =>
u0.bind fun a11 =>
(World.cell? (World.drew r4.2) (Addr.add a11 1)).bind fun v12 =>
(asS v12).bind fun s13 =>
(callF Try.prog 19 #[.pointer p10, .string s13, .slice q6.1 q6.2.1 q6.2.2] (World.drew r4.2)).bind fun r14 =>
(asI .i64 r14.1).bind fun n15 =>
if ((n15 : Int) == 0) = true then
(u0.bind fun a16 =>
(World.cell? r14.2 (Addr.add a16 3)).bind fun v17 =>
(asI .i64 v17).bind fun n18 =>
u0.bind fun a19 =>
(st1 r14.2 (Addr.add a19 3) (.int .i64 (IntKind.i64.wrap (n18 + 1)))).bind fun w20 =>
some (.int .i64 n15, w20))
else
(some (.int .i64 n15, r14.2))))

theorem g14_eq (u0 : Option Addr) (u1 : Option Addr × Nat × Nat) (w0 : World) : evFn Try.prog 14 g14_ann #[.pointer u0, .slice u1.1 u1.2.1 u1.2.2] w0 = g14 u0 u1 w0 := by kernel_rfl

theorem g14_call {u0 : Option Addr} {u1 : Option Addr × Nat × Nat} {w0 : World} {r : Value × World} (h : g14 u0 u1 w0 = some r) : callF Try.prog 14 #[.pointer u0, .slice u1.1 u1.2.1 u1.2.2] w0 = some r :=
  callF_of_evFn (ann := g14_ann) Try.call14 (by kernel_rfl) ((g14_eq u0 u1 w0).trans h)

/-! 18: (*penstock/wal.Wal).Count (w: *wal.Wal) -/
def g18_ann : List (List Nat × List Nat) := []

noncomputable def g18 (u0 : Option Addr) (w0 : World) : Option (Value × World) :=
if (u0.isNone) = true then
(some (.int .i64 0, w0))
else
(u0.bind fun a1 =>
(World.cell? w0 (Addr.add a1 3)).bind fun v2 =>
(asI .i64 v2).bind fun n3 =>
some (.int .i64 n3, w0))

theorem g18_eq (u0 : Option Addr) (w0 : World) : evFn Try.prog 18 g18_ann #[.pointer u0] w0 = g18 u0 w0 := by kernel_rfl

theorem g18_call {u0 : Option Addr} {w0 : World} {r : Value × World} (h : g18 u0 w0 = some r) : callF Try.prog 18 #[.pointer u0] w0 = some r :=
  callF_of_evFn (ann := g18_ann) Try.call18 (by kernel_rfl) ((g18_eq u0 w0).trans h)

/-! 23: (*penstock/wal.Wal).Sync (w: *wal.Wal) -/
def g23_ann : List (List Nat × List Nat) := []

noncomputable def g23 (u0 : Option Addr) (w0 : World) : Option (Value × World) :=
if (u0.isNone) = true then
(some (.int .i64 5, w0))
else
(u0.bind fun a1 =>
(World.cell? (World.drew w0) a1).bind fun v2 =>
(asP v2).bind fun p3 =>
u0.bind fun a4 =>
(World.cell? (World.drew w0) (Addr.add a4 1)).bind fun v5 =>
(asS v5).bind fun s6 =>
(callF Try.prog 20 #[.pointer p3, .string s6] (World.drew w0)).bind fun r7 =>
(asI .i64 r7.1).bind fun n8 =>
some (.int .i64 n8, r7.2))

theorem g23_eq (u0 : Option Addr) (w0 : World) : evFn Try.prog 23 g23_ann #[.pointer u0] w0 = g23 u0 w0 := by kernel_rfl

theorem g23_call {u0 : Option Addr} {w0 : World} {r : Value × World} (h : g23 u0 w0 = some r) : callF Try.prog 23 #[.pointer u0] w0 = some r :=
  callF_of_evFn (ann := g23_ann) Try.call23 (by kernel_rfl) ((g23_eq u0 w0).trans h)

/-! 24: (*penstock/wal.Wal).Rewrite (w: *wal.Wal, list: [][]uint8) -/
def g24_ann : List (List Nat × List Nat) := [([0, 1, 0, 1, 1, 1], [0, 1, 17, 18, 4, 5, 19])]

def g24_l2_cs (u0 : Option Addr) (u1 : Option Addr × Nat × Nat) : List (Nat × Value) := ([(0, .pointer u0), (1, .slice u1.1 u1.2.1 u1.2.2), (17, .slice u1.1 u1.2.1 u1.2.2), (18, .int .i64 (u1.2.1 : Int))] : List (Nat × Value))

/-- the round of a loop ((*penstock/wal.Wal).Rewrite) -/
noncomputable def g24_l2_b (u1 : Option Addr × Nat × Nat) (u0 : Option Addr) (s3 : Int × (Option Addr × Nat × Nat) × Int) (w4 : World) : Option (Exit × (Int × (Option Addr × Nat × Nat) × Int) × World) :=
if (decide ((s3.2.2 : Int) < (u1.2.1 : Int))) = true then
((idxA u1.1 u1.2.1 1 s3.2.2).bind fun a5 =>
(World.cell? w4 a5).bind fun v6 =>
(asSl v6).bind fun q7 =>
u0.bind fun a8 =>
(World.cell? w4 (Addr.add a8 2)).bind fun v9 =>
(asP v9).bind fun p10 =>
(callF Try.prog 35 #[.pointer p10, .slice q7.1 q7.2.1 q7.2.2] w4).bind fun r11 =>
(asTup 2 r11.1).bind fun l12 =>
(asSl (l12.getD 0 undef)).bind fun q13 =>
(asI .i64 (l12.getD 1 undef)).bind fun n14 =>
if ((n14 : Int) != 0) = true then
(some (.ret, (n14, (s3.2.1.1, s3.2.1.2.1, s3.2.1.2.2), s3.2.2), r11.2))
else
((callB Try.prog .append #[31, 31] 31 #[false, false] #[.slice s3.2.1.1 s3.2.1.2.1 s3.2.1.2.2, .slice q13.1 q13.2.1 q13.2.2] r11.2).bind fun r15 =>
(asSl r15.1).bind fun q16 =>
some (.normal, (s3.1, (q16.1, q16.2.1, q16.2.2), (IntKind.i64.wrap (s3.2.2 + 1))), r15.2)))
else
(some ((.exit 0), (s3.1, (s3.2.1.1, s3.2.1.2.1, s3.2.1.2.2), s3.2.2), w4))

noncomputable def g24_K17  : Exit → Env → World → Option (Value × World) :=
  retK Try.prog Try.f24.results.toList

noncomputable def g24_K18  : Exit → Env → World → Option (Value × World) :=
  seqK (ev Try.prog 94 24 g24_ann (cAt [1, 1, 1, 1] (bodyOf Try.f24)) [1, 1, 1, 1] g24_K17) g24_K17

noncomputable def g24_K19  : Exit → Env → World → Option (Value × World) :=
  blkK 0 g24_K18

/-- the loop, from a state on -/
noncomputable def g24_l2 (u0 : Option Addr) (u1 : Option Addr × Nat × Nat) (s : Int × (Option Addr × Nat × Nat) × Int) (w : World) : Option (Value × World) :=
  loopM Try.prog 94 24 g24_ann (cAt [1, 1, 1, 0, 1, 0, 0] (bodyOf Try.f24)) [0, 1, 0, 1, 1, 1] g24_K19 ((g24_l2_cs u0 u1) ++ sputs [(4, .i .i64), (5, .sl), (19, .i .i64)] s) w

/-- behind the loop, left by x0 -/
noncomputable def g24_l2_x0 (u0 : Option Addr) (u1 : Option Addr × Nat × Nat) (t20 : Int × (Option Addr × Nat × Nat) × Int) (w21 : World) : Option (Value × World) :=
u0.bind fun a22 =>
(World.cell? w21 (Addr.add a22 1)).bind fun v23 =>
(asS v23).bind fun s24 =>
if ((s24.size + (⟨#[126]⟩ : ByteArray).size : Nat) : Int) > IntKind.i64.max then
(none)
else
(u0.bind fun a25 =>
(World.cell? w21 a25).bind fun v26 =>
(asP v26).bind fun p27 =>
(callF Try.prog 39 #[.pointer p27, .string (s24 ++ (⟨#[126]⟩ : ByteArray))] w21).bind fun r28 =>
(asI .i64 r28.1).bind fun n29 =>
if ((n29 : Int) != 0) = true then
(if ((n29 : Int) != 4) = true then
(some (.int .i64 n29, r28.2))
else
(u0.bind fun a30 =>
(World.cell? r28.2 a30).bind fun v31 =>
(asP v31).bind fun p32 =>
(callF Try.prog 19 #[.pointer p32, .string (s24 ++ (⟨#[126]⟩ : ByteArray)), .slice t20.2.1.1 t20.2.1.2.1 t20.2.1.2.2] r28.2).bind fun r33 =>
(asI .i64 r33.1).bind fun n34 =>
if ((n34 : Int) != 0) = true then
(some (.int .i64 n34, r33.2))
else
(u0.bind fun a35 =>
(World.cell? r33.2 a35).bind fun v36 =>
(asP v36).bind fun p37 =>
(callF Try.prog 20 #[.pointer p37, .string (s24 ++ (⟨#[126]⟩ : ByteArray))] r33.2).bind fun r38 =>
(asI .i64 r38.1).bind fun n39 =>
if ((n39 : Int) != 0) = true then
(some (.int .i64 n39, r38.2))
else
(u0.bind fun a40 =>
(World.cell? (World.drew r38.2) a40).bind fun v41 =>
(asP v41).bind fun p42 =>
u0.bind fun a43 =>
(World.cell? (World.drew r38.2) (Addr.add a43 1)).bind fun v44 =>
(asS v44).bind fun s45 =>
(callF Try.prog 40 #[.pointer p42, .string (s24 ++ (⟨#[126]⟩ : ByteArray)), .string s45] (World.drew r38.2)).bind fun r46 =>
(asI .i64 r46.1).bind fun n47 =>
if ((n47 : Int) == 0) = true then
(u0.bind fun a49 =>
(st1 r46.2 (Addr.add a49 3) (.int .i64 (u1.2.1 : Int))).bind fun w50 =>
some (.int .i64 n47, w50))
else
(some (.int .i64 n47, r46.2))))))
else
(u0.bind fun a51 =>
(World.cell? r28.2 a51).bind fun v52 =>
(asP v52).bind fun p53 =>
(callF Try.prog 19 #[.pointer p53, .string (s24 ++ (⟨#[126]⟩ : ByteArray)), .slice t20.2.1.1 t20.2.1.2.1 t20.2.1.2.2] r28.2).bind fun r54 =>
(asI .i64 r54.1).bind fun n55 =>
if ((n55 : Int) != 0) = true then
(some (.int .i64 n55, r54.2))
else
(u0.bind fun a56 =>
(World.cell? r54.2 a56).bind fun v57 =>
(asP v57).bind fun p58 =>
(callF Try.prog 20 #[.pointer p58, .string (s24 ++ (⟨#[126]⟩ : ByteArray))] r54.2).bind fun r59 =>
(asI .i64 r59.1).bind fun n60 =>
if ((n60 : Int) != 0) = true then
(some (.int .i64 n60, r59.2))
else
(u0.bind fun a61 =>
(World.cell? (World.drew r59.2) a61).bind fun v62 =>
(asP v62).bind fun p63 =>
u0.bind fun a64 =>
(World.cell? (World.drew r59.2) (Addr.add a64 1)).bind fun v65 =>
(asS v65).bind fun s66 =>
(callF Try.prog 40 #[.pointer p63, .string (s24 ++ (⟨#[126]⟩ : ByteArray)), .string s66] (World.drew r59.2)).bind fun r67 =>
(asI .i64 r67.1).bind fun n68 =>
if ((n68 : Int) == 0) = true then
(u0.bind fun a70 =>
(st1 r67.2 (Addr.add a70 3) (.int .i64 (u1.2.1 : Int))).bind fun w71 =>
some (.int .i64 n68, w71))
else
(some (.int .i64 n68, r67.2))))))

/-- behind the loop, left by ret -/
noncomputable def g24_l2_ret  (t72 : Int × (Option Addr × Nat × Nat) × Int) (w73 : World) : Option (Value × World) :=
some (.int .i64 t72.1, w73)

noncomputable def g24 (u0 : Option Addr) (u1 : Option Addr × Nat × Nat) (w0 : World) : Option (Value × World) :=
if (u0.isNone) = true then
(some (.int .i64 5, w0))
else
(g24_l2 u0 u1 (0, (none, 0, 0), 0) w0)

theorem g24_eq (u0 : Option Addr) (u1 : Option Addr × Nat × Nat) (w0 : World) : evFn Try.prog 24 g24_ann #[.pointer u0, .slice u1.1 u1.2.1 u1.2.2] w0 = g24 u0 u1 w0 := by kernel_rfl

theorem g24_call {u0 : Option Addr} {u1 : Option Addr × Nat × Nat} {w0 : World} {r : Value × World} (h : g24 u0 u1 w0 = some r) : callF Try.prog 24 #[.pointer u0, .slice u1.1 u1.2.1 u1.2.2] w0 = some r :=
  callF_of_evFn (ann := g24_ann) Try.call24 (by kernel_rfl) ((g24_eq u0 u1 w0).trans h)

theorem g24_l2_x0_of {u0 : Option Addr} {u1 : Option Addr × Nat × Nat} {s t : Int × (Option Addr × Nat × Nat) × Int} {w w' : World} (h : loopS (g24_l2_b u1 u0) s w = some (.exit 0, t, w')) : g24_l2 u0 u1 s w = g24_l2_x0 u0 u1 t w' := by
  have h1 : g24_l2 u0 u1 s w = loopM Try.prog 94 24 g24_ann (cAt [1, 1, 1, 0, 1, 0, 0] (bodyOf Try.f24)) [0, 1, 0, 1, 1, 1] g24_K19 ((g24_l2_cs u0 u1) ++ sputs [(4, .i .i64), (5, .sl), (19, .i .i64)] s) w := by kernel_rfl
  have h2 : loopM Try.prog 94 24 g24_ann (cAt [1, 1, 1, 0, 1, 0, 0] (bodyOf Try.f24)) [0, 1, 0, 1, 1, 1] g24_K19 ((g24_l2_cs u0 u1) ++ sputs [(4, .i .i64), (5, .sl), (19, .i .i64)] s) w = g24_K19 (.exit 0) (puts 94 ((g24_l2_cs u0 u1) ++ sputs [(4, .i .i64), (5, .sl), (19, .i .i64)] t)) w' :=
    loop_rule (P := Try.prog) (N := 94) (f := 24) (ann := g24_ann) (body := (cAt [1, 1, 1, 0, 1, 0, 0] (bodyOf Try.f24))) (pt := [0, 1, 0, 1, 1, 1]) (K := g24_K19) (g24_l2_cs u0 u1) [(4, .i .i64), (5, .sl), (19, .i .i64)] (b := g24_l2_b u1 u0) (fun s w => by kernel_rfl) (by kernel_rfl) (by kernel_rfl) (by kernel_rfl) h
  have h3 : g24_K19 (.exit 0) (puts 94 ((g24_l2_cs u0 u1) ++ sputs [(4, .i .i64), (5, .sl), (19, .i .i64)] t)) w' = g24_l2_x0 u0 u1 t w' := by kernel_rfl
  exact h1.trans (h2.trans h3)

theorem g24_l2_ret_of {u0 : Option Addr} {u1 : Option Addr × Nat × Nat} {s t : Int × (Option Addr × Nat × Nat) × Int} {w w' : World} (h : loopS (g24_l2_b u1 u0) s w = some (.ret, t, w')) : g24_l2 u0 u1 s w = g24_l2_ret t w' := by
  have h1 : g24_l2 u0 u1 s w = loopM Try.prog 94 24 g24_ann (cAt [1, 1, 1, 0, 1, 0, 0] (bodyOf Try.f24)) [0, 1, 0, 1, 1, 1] g24_K19 ((g24_l2_cs u0 u1) ++ sputs [(4, .i .i64), (5, .sl), (19, .i .i64)] s) w := by kernel_rfl
  have h2 : loopM Try.prog 94 24 g24_ann (cAt [1, 1, 1, 0, 1, 0, 0] (bodyOf Try.f24)) [0, 1, 0, 1, 1, 1] g24_K19 ((g24_l2_cs u0 u1) ++ sputs [(4, .i .i64), (5, .sl), (19, .i .i64)] s) w = g24_K19 (.ret) (puts 94 ((g24_l2_cs u0 u1) ++ sputs [(4, .i .i64), (5, .sl), (19, .i .i64)] t)) w' :=
    loop_rule (P := Try.prog) (N := 94) (f := 24) (ann := g24_ann) (body := (cAt [1, 1, 1, 0, 1, 0, 0] (bodyOf Try.f24))) (pt := [0, 1, 0, 1, 1, 1]) (K := g24_K19) (g24_l2_cs u0 u1) [(4, .i .i64), (5, .sl), (19, .i .i64)] (b := g24_l2_b u1 u0) (fun s w => by kernel_rfl) (by kernel_rfl) (by kernel_rfl) (by kernel_rfl) h
  have h3 : g24_K19 (.ret) (puts 94 ((g24_l2_cs u0 u1) ++ sputs [(4, .i .i64), (5, .sl), (19, .i .i64)] t)) w' = g24_l2_ret t w' := by kernel_rfl
  exact h1.trans (h2.trans h3)

/-! 25: penstock/penstocklaw06.copied (l: [][]uint8) -/
def g25_ann : List (List Nat × List Nat) := [([0, 1, 0, 1, 1], [6, 7, 3, 8])]

def g25_l2_cs (u0 : Option Addr × Nat × Nat) : List (Nat × Value) := ([(6, .slice u0.1 u0.2.1 u0.2.2), (7, .int .i64 (u0.2.1 : Int))] : List (Nat × Value))

/-- the round of a loop (penstock/penstocklaw06.copied) -/
noncomputable def g25_l2_b (u0 : Option Addr × Nat × Nat) (s3 : (Option Addr × Nat × Nat) × Int) (w4 : World) : Option (Exit × ((Option Addr × Nat × Nat) × Int) × World) :=
if (decide ((s3.2 : Int) < (u0.2.1 : Int))) = true then
((idxA u0.1 u0.2.1 1 s3.2).bind fun a5 =>
(World.cell? w4 a5).bind fun v6 =>
(asSl v6).bind fun q7 =>
(callB Try.prog .append #[31, 31] 31 #[false, false] #[.slice (some (⟨w4.heap.size, 0, none⟩)) 0 0, .slice q7.1 q7.2.1 q7.2.2] (World.alloc w4 (.cells #[] 5))).bind fun r8 =>
(asSl r8.1).bind fun q9 =>
(callB Try.prog .append #[22, 22] 22 #[false, false] #[.slice s3.1.1 s3.1.2.1 s3.1.2.2, .slice (some (⟨r8.2.heap.size, 0, none⟩)) 1 1] (World.alloc r8.2 (.cells #[.slice q9.1 q9.2.1 q9.2.2] 31))).bind fun r10 =>
(asSl r10.1).bind fun q11 =>
some (.normal, ((q11.1, q11.2.1, q11.2.2), (IntKind.i64.wrap (s3.2 + 1))), r10.2))
else
(some ((.exit 0), ((s3.1.1, s3.1.2.1, s3.1.2.2), s3.2), w4))

noncomputable def g25_K12  : Exit → Env → World → Option (Value × World) :=
  retK Try.prog Try.f25.results.toList

noncomputable def g25_K13  : Exit → Env → World → Option (Value × World) :=
  seqK (ev Try.prog 20 25 g25_ann (cAt [1, 1, 1] (bodyOf Try.f25)) [1, 1, 1] g25_K12) g25_K12

noncomputable def g25_K14  : Exit → Env → World → Option (Value × World) :=
  blkK 0 g25_K13

/-- the loop, from a state on -/
noncomputable def g25_l2 (u0 : Option Addr × Nat × Nat) (s : (Option Addr × Nat × Nat) × Int) (w : World) : Option (Value × World) :=
  loopM Try.prog 20 25 g25_ann (cAt [1, 1, 0, 1, 0, 0] (bodyOf Try.f25)) [0, 1, 0, 1, 1] g25_K14 ((g25_l2_cs u0) ++ sputs [(3, .sl), (8, .i .i64)] s) w

/-- behind the loop, left by x0 -/
noncomputable def g25_l2_x0  (t15 : (Option Addr × Nat × Nat) × Int) (w16 : World) : Option (Value × World) :=
some (.slice t15.1.1 t15.1.2.1 t15.1.2.2, w16)

noncomputable def g25 (u0 : Option Addr × Nat × Nat) (w0 : World) : Option (Value × World) :=
g25_l2 u0 ((none, 0, 0), 0) w0

theorem g25_eq (u0 : Option Addr × Nat × Nat) (w0 : World) : evFn Try.prog 25 g25_ann #[.slice u0.1 u0.2.1 u0.2.2] w0 = g25 u0 w0 := by kernel_rfl

theorem g25_call {u0 : Option Addr × Nat × Nat} {w0 : World} {r : Value × World} (h : g25 u0 w0 = some r) : callF Try.prog 25 #[.slice u0.1 u0.2.1 u0.2.2] w0 = some r :=
  callF_of_evFn (ann := g25_ann) Try.call25 (by kernel_rfl) ((g25_eq u0 w0).trans h)

theorem g25_l2_x0_of {u0 : Option Addr × Nat × Nat} {s t : (Option Addr × Nat × Nat) × Int} {w w' : World} (h : loopS (g25_l2_b u0) s w = some (.exit 0, t, w')) : g25_l2 u0 s w = g25_l2_x0 t w' := by
  have h1 : g25_l2 u0 s w = loopM Try.prog 20 25 g25_ann (cAt [1, 1, 0, 1, 0, 0] (bodyOf Try.f25)) [0, 1, 0, 1, 1] g25_K14 ((g25_l2_cs u0) ++ sputs [(3, .sl), (8, .i .i64)] s) w := by kernel_rfl
  have h2 : loopM Try.prog 20 25 g25_ann (cAt [1, 1, 0, 1, 0, 0] (bodyOf Try.f25)) [0, 1, 0, 1, 1] g25_K14 ((g25_l2_cs u0) ++ sputs [(3, .sl), (8, .i .i64)] s) w = g25_K14 (.exit 0) (puts 20 ((g25_l2_cs u0) ++ sputs [(3, .sl), (8, .i .i64)] t)) w' :=
    loop_rule (P := Try.prog) (N := 20) (f := 25) (ann := g25_ann) (body := (cAt [1, 1, 0, 1, 0, 0] (bodyOf Try.f25))) (pt := [0, 1, 0, 1, 1]) (K := g25_K14) (g25_l2_cs u0) [(3, .sl), (8, .i .i64)] (b := g25_l2_b u0) (fun s w => by kernel_rfl) (by kernel_rfl) (by kernel_rfl) (by kernel_rfl) h
  have h3 : g25_K14 (.exit 0) (puts 20 ((g25_l2_cs u0) ++ sputs [(3, .sl), (8, .i .i64)] t)) w' = g25_l2_x0 t w' := by kernel_rfl
  exact h1.trans (h2.trans h3)

/-! 29: penstock/penstocklaw06.begins (l: [][]uint8, all: [][]uint8, least: int) -/
def g29_ann : List (List Nat × List Nat) := []

noncomputable def g29 (u0 : Option Addr × Nat × Nat) (u1 : Option Addr × Nat × Nat) (u2 : Int) (w0 : World) : Option (Value × World) :=
if (decide (((u0.2.1 : Int) : Int) ≥ u2)) = true then
(if (decide (((u0.2.1 : Int) : Int) ≤ (u1.2.1 : Int))) = true then
((slc u1.1 u1.2.1 u1.2.2 1 none (some (u0.2.1 : Int)) none).bind fun q5 =>
(callF Try.prog 17 #[.slice u0.1 u0.2.1 u0.2.2, .slice q5.1 q5.2.1 q5.2.2] w0).bind fun r6 =>
(asB r6.1).bind fun b7 =>
some (.bool b7, r6.2))
else
(some (.bool false, w0)))
else
(some (.bool false, w0))

theorem g29_eq (u0 : Option Addr × Nat × Nat) (u1 : Option Addr × Nat × Nat) (u2 : Int) (w0 : World) : evFn Try.prog 29 g29_ann #[.slice u0.1 u0.2.1 u0.2.2, .slice u1.1 u1.2.1 u1.2.2, .int .i64 u2] w0 = g29 u0 u1 u2 w0 := by kernel_rfl

theorem g29_call {u0 : Option Addr × Nat × Nat} {u1 : Option Addr × Nat × Nat} {u2 : Int} {w0 : World} {r : Value × World} (h : g29 u0 u1 u2 w0 = some r) : callF Try.prog 29 #[.slice u0.1 u0.2.1 u0.2.2, .slice u1.1 u1.2.1 u1.2.2, .int .i64 u2] w0 = some r :=
  callF_of_evFn (ann := g29_ann) Try.call29 (by kernel_rfl) ((g29_eq u0 u1 u2 w0).trans h)

end Go.Proofs.Ytnflklkjjjlpaaa
