/-
  DiskF2: lemmas on what Go functions of this seat come to (for whatever arguments, as each says). No condition but those that stand in each lemma.
-/
import Derived.Test.YtkmidlhnlnolnaaLb9
import Derived.Test.YtkmidlhnlnolnaaProg
namespace Go.Proofs.Ytkmidlhnlnolnaa
open Go Go.Ev
set_option maxRecDepth 100000
set_option linter.unusedVariables false
/-! 3: penstock/penstocklaw05.DiskFuse (pieces: [][]uint8, n: uint8) -/
def g3_ann : List (List Nat × List Nat) := [([0, 1, 0, 1, 1, 1, 1, 1], [5, 33, 34, 4, 6, 7, 35])]

def g3_l11_cs (p2 : Option Addr) (u0 : Option Addr × Nat × Nat) : List (Nat × Value) := ([(5, .pointer p2), (33, .slice u0.1 u0.2.1 u0.2.2), (34, .int .i64 (u0.2.1 : Int))] : List (Nat × Value))

/-- the round of a loop (penstock/penstocklaw05.DiskFuse) -/
noncomputable def g3_l11_b (u0 : Option Addr × Nat × Nat) (p2 : Option Addr) (s12 : Bool × Int × Int × Int) (w13 : World) : Option (Exit × (Bool × Int × Int × Int) × World) :=
if (decide ((s12.2.2.2 : Int) < (u0.2.1 : Int))) = true then
((idxA u0.1 u0.2.1 1 s12.2.2.2).bind fun a14 =>
(World.cell? w13 a14).bind fun v15 =>
(asSl v15).bind fun q16 =>
if (decide (((q16.2.1 : Int) : Int) > 5000)) = true then
(some (.ret, (true, s12.2.1, s12.2.2.1, s12.2.2.2), w13))
else
(if (decide ((s12.2.2.1 : Int) > 524288)) = true then
(some (.ret, (true, s12.2.1, s12.2.2.1, s12.2.2.2), w13))
else
((callF Try.prog 10 #[.pointer p2, .string (⟨#[97]⟩ : ByteArray), .slice q16.1 q16.2.1 q16.2.2] w13).bind fun r18 =>
(asI .i64 r18.1).bind fun n19 =>
if (decide (((q16.2.1 : Int) : Int) > s12.2.1)) = true then
(if ((n19 : Int) != 9) = true then
(some (.ret, (false, s12.2.1, (IntKind.i64.wrap (s12.2.2.1 + s12.2.1)), s12.2.2.2), r18.2))
else
((callF Try.prog 12 #[.pointer p2] r18.2).bind fun r21 =>
(asB r21.1).bind fun b22 =>
if (!b22) = true then
(some (.ret, (false, s12.2.1, (IntKind.i64.wrap (s12.2.2.1 + s12.2.1)), s12.2.2.2), r21.2))
else
((callF Try.prog 13 #[.pointer p2, .string (⟨#[98]⟩ : ByteArray)] r21.2).bind fun r23 =>
(asI .i64 r23.1).bind fun n24 =>
if ((n24 : Int) != 9) = true then
(some (.ret, (false, s12.2.1, (IntKind.i64.wrap (s12.2.2.1 + s12.2.1)), s12.2.2.2), r23.2))
else
((callF Try.prog 10 #[.pointer p2, .string (⟨#[99]⟩ : ByteArray), .slice none 0 0] r23.2).bind fun r25 =>
(asI .i64 r25.1).bind fun n26 =>
if ((n26 : Int) != 9) = true then
(some (.ret, (false, s12.2.1, (IntKind.i64.wrap (s12.2.2.1 + s12.2.1)), s12.2.2.2), r25.2))
else
((callF Try.prog 14 #[.pointer p2, .int .i64 (IntKind.i64.wrap (s12.2.2.1 + s12.2.1))] r25.2).bind fun r27 =>
(asTup 0 r27.1).bind fun _ =>
(callF Try.prog 15 #[.pointer p2, .string (⟨#[97]⟩ : ByteArray)] r27.2).bind fun r28 =>
(asTup 2 r28.1).bind fun l29 =>
(asSl (l29.getD 0 undef)).bind fun q30 =>
(asI .i64 (l29.getD 1 undef)).bind fun n31 =>
if ((n31 : Int) == 0) = true then
(if (decide (((q30.2.1 : Int) : Int) ≤ (IntKind.i64.wrap (s12.2.2.1 + s12.2.1)))) = true then
((semR Try.prog (convert 28 28 (.slice (some (⟨r28.2.heap.size, 0, none⟩)) 4 4)) (World.alloc r28.2 (.cells #[.int .u8 109, .int .u8 111, .int .u8 114, .int .u8 101] 5))).bind fun r33 =>
(asSl r33.1).bind fun q34 =>
(callF Try.prog 10 #[.pointer p2, .string (⟨#[97]⟩ : ByteArray), .slice q34.1 q34.2.1 q34.2.2] r33.2).bind fun r35 =>
(asI .i64 r35.1).bind fun n36 =>
if ((n36 : Int) == 0) = true then
((callF Try.prog 12 #[.pointer p2] r35.2).bind fun r37 =>
(asB r37.1).bind fun b38 =>
some (.ret, ((!b38), s12.2.1, (IntKind.i64.wrap (s12.2.2.1 + s12.2.1)), s12.2.2.2), r37.2))
else
(some (.ret, (false, s12.2.1, (IntKind.i64.wrap (s12.2.2.1 + s12.2.1)), s12.2.2.2), r35.2)))
else
(some (.ret, (false, s12.2.1, (IntKind.i64.wrap (s12.2.2.1 + s12.2.1)), s12.2.2.2), r28.2)))
else
(some (.ret, (false, s12.2.1, (IntKind.i64.wrap (s12.2.2.1 + s12.2.1)), s12.2.2.2), r28.2)))))))
else
(if ((n19 : Int) != 0) = true then
(some (.ret, (false, (IntKind.i64.wrap (s12.2.1 - (q16.2.1 : Int))), (IntKind.i64.wrap (s12.2.2.1 + (q16.2.1 : Int))), s12.2.2.2), r18.2))
else
((callF Try.prog 12 #[.pointer p2] r18.2).bind fun r41 =>
(asB r41.1).bind fun b42 =>
if b42 = true then
(some (.ret, (false, (IntKind.i64.wrap (s12.2.1 - (q16.2.1 : Int))), (IntKind.i64.wrap (s12.2.2.1 + (q16.2.1 : Int))), s12.2.2.2), r41.2))
else
(some (.normal, (s12.1, (IntKind.i64.wrap (s12.2.1 - (q16.2.1 : Int))), (IntKind.i64.wrap (s12.2.2.1 + (q16.2.1 : Int))), (IntKind.i64.wrap (s12.2.2.2 + 1))), r41.2)))))))
else
(some ((.exit 0), (s12.1, s12.2.1, s12.2.2.1, s12.2.2.2), w13))

noncomputable def g3_K43  : Exit → Env → World → Option (Value × World) :=
  retK Try.prog Try.f3.results.toList

noncomputable def g3_K44  : Exit → Env → World → Option (Value × World) :=
  seqK (ev Try.prog 119 3 g3_ann (cAt [1, 1, 1, 1, 1, 1] (bodyOf Try.f3)) [1, 1, 1, 1, 1, 1] g3_K43) g3_K43

noncomputable def g3_K45  : Exit → Env → World → Option (Value × World) :=
  blkK 0 g3_K44

/-- the loop, from a state on -/
noncomputable def g3_l11 (p2 : Option Addr) (u0 : Option Addr × Nat × Nat) (s : Bool × Int × Int × Int) (w : World) : Option (Value × World) :=
  loopM Try.prog 119 3 g3_ann (cAt [1, 1, 1, 1, 1, 0, 1, 0, 0] (bodyOf Try.f3)) [0, 1, 0, 1, 1, 1, 1, 1] g3_K45 ((g3_l11_cs p2 u0) ++ sputs [(4, .b), (6, .i .i64), (7, .i .i64), (35, .i .i64)] s) w

/-- behind the loop, left by x0 -/
noncomputable def g3_l11_x0 (p2 : Option Addr) (t46 : Bool × Int × Int × Int) (w47 : World) : Option (Value × World) :=
(callF Try.prog 12 #[.pointer p2] w47).bind fun r48 =>
(asB r48.1).bind fun b49 =>
some (.bool (!b49), r48.2)

/-- behind the loop, left by ret -/
noncomputable def g3_l11_ret  (t50 : Bool × Int × Int × Int) (w51 : World) : Option (Value × World) :=
some (.bool t50.1, w51)

noncomputable def g3 (u0 : Option Addr × Nat × Nat) (u1 : Int) (w0 : World) : Option (Value × World) :=
(callF Try.prog 8 #[] w0).bind fun r1 =>
(asP r1.1).bind fun p2 =>
(callF Try.prog 9 #[] r1.2).bind fun r3 =>
(asB r3.1).bind fun b4 =>
if (!b4) = true then
(some (.bool false, r3.2))
else
(if (p2.isNone) = true then
(some (.bool false, r3.2))
else
((semR Try.prog (convert 28 28 (.slice (some (⟨r3.2.heap.size, 0, none⟩)) 1 1)) (World.alloc r3.2 (.cells #[.int .u8 98] 5))).bind fun r5 =>
(asSl r5.1).bind fun q6 =>
(callF Try.prog 10 #[.pointer p2, .string (⟨#[98]⟩ : ByteArray), .slice q6.1 q6.2.1 q6.2.2] r5.2).bind fun r7 =>
(asI .i64 r7.1).bind fun n8 =>
if ((n8 : Int) != 0) = true then
(some (.bool false, r7.2))
else
((callF Try.prog 11 #[.pointer p2, .int .i64 (IntKind.i64.wrap u1)] r7.2).bind fun r9 =>
(asTup 0 r9.1).bind fun _ =>
g3_l11 p2 u0 (false, (IntKind.i64.wrap u1), 0, 0) r9.2)))

theorem g3_eq (u0 : Option Addr × Nat × Nat) (u1 : Int) (w0 : World) : evFn Try.prog 3 g3_ann #[.slice u0.1 u0.2.1 u0.2.2, .int .u8 u1] w0 = g3 u0 u1 w0 := by kernel_rfl

theorem g3_call {u0 : Option Addr × Nat × Nat} {u1 : Int} {w0 : World} {r : Value × World} (h : g3 u0 u1 w0 = some r) : callF Try.prog 3 #[.slice u0.1 u0.2.1 u0.2.2, .int .u8 u1] w0 = some r :=
  callF_of_evFn (ann := g3_ann) Try.call3 (by kernel_rfl) ((g3_eq u0 u1 w0).trans h)

theorem g3_l11_x0_of {p2 : Option Addr} {u0 : Option Addr × Nat × Nat} {s t : Bool × Int × Int × Int} {w w' : World} (h : loopS (g3_l11_b u0 p2) s w = some (.exit 0, t, w')) : g3_l11 p2 u0 s w = g3_l11_x0 p2 t w' := by
  have h1 : g3_l11 p2 u0 s w = loopM Try.prog 119 3 g3_ann (cAt [1, 1, 1, 1, 1, 0, 1, 0, 0] (bodyOf Try.f3)) [0, 1, 0, 1, 1, 1, 1, 1] g3_K45 ((g3_l11_cs p2 u0) ++ sputs [(4, .b), (6, .i .i64), (7, .i .i64), (35, .i .i64)] s) w := by kernel_rfl
  have h2 : loopM Try.prog 119 3 g3_ann (cAt [1, 1, 1, 1, 1, 0, 1, 0, 0] (bodyOf Try.f3)) [0, 1, 0, 1, 1, 1, 1, 1] g3_K45 ((g3_l11_cs p2 u0) ++ sputs [(4, .b), (6, .i .i64), (7, .i .i64), (35, .i .i64)] s) w = g3_K45 (.exit 0) (puts 119 ((g3_l11_cs p2 u0) ++ sputs [(4, .b), (6, .i .i64), (7, .i .i64), (35, .i .i64)] t)) w' :=
    loop_rule (P := Try.prog) (N := 119) (f := 3) (ann := g3_ann) (body := (cAt [1, 1, 1, 1, 1, 0, 1, 0, 0] (bodyOf Try.f3))) (pt := [0, 1, 0, 1, 1, 1, 1, 1]) (K := g3_K45) (g3_l11_cs p2 u0) [(4, .b), (6, .i .i64), (7, .i .i64), (35, .i .i64)] (b := g3_l11_b u0 p2) (fun s w => by kernel_rfl) (by kernel_rfl) (by kernel_rfl) (by kernel_rfl) h
  have h3 : g3_K45 (.exit 0) (puts 119 ((g3_l11_cs p2 u0) ++ sputs [(4, .b), (6, .i .i64), (7, .i .i64), (35, .i .i64)] t)) w' = g3_l11_x0 p2 t w' := by kernel_rfl
  exact h1.trans (h2.trans h3)

theorem g3_l11_ret_of {p2 : Option Addr} {u0 : Option Addr × Nat × Nat} {s t : Bool × Int × Int × Int} {w w' : World} (h : loopS (g3_l11_b u0 p2) s w = some (.ret, t, w')) : g3_l11 p2 u0 s w = g3_l11_ret t w' := by
  have h1 : g3_l11 p2 u0 s w = loopM Try.prog 119 3 g3_ann (cAt [1, 1, 1, 1, 1, 0, 1, 0, 0] (bodyOf Try.f3)) [0, 1, 0, 1, 1, 1, 1, 1] g3_K45 ((g3_l11_cs p2 u0) ++ sputs [(4, .b), (6, .i .i64), (7, .i .i64), (35, .i .i64)] s) w := by kernel_rfl
  have h2 : loopM Try.prog 119 3 g3_ann (cAt [1, 1, 1, 1, 1, 0, 1, 0, 0] (bodyOf Try.f3)) [0, 1, 0, 1, 1, 1, 1, 1] g3_K45 ((g3_l11_cs p2 u0) ++ sputs [(4, .b), (6, .i .i64), (7, .i .i64), (35, .i .i64)] s) w = g3_K45 (.ret) (puts 119 ((g3_l11_cs p2 u0) ++ sputs [(4, .b), (6, .i .i64), (7, .i .i64), (35, .i .i64)] t)) w' :=
    loop_rule (P := Try.prog) (N := 119) (f := 3) (ann := g3_ann) (body := (cAt [1, 1, 1, 1, 1, 0, 1, 0, 0] (bodyOf Try.f3))) (pt := [0, 1, 0, 1, 1, 1, 1, 1]) (K := g3_K45) (g3_l11_cs p2 u0) [(4, .b), (6, .i .i64), (7, .i .i64), (35, .i .i64)] (b := g3_l11_b u0 p2) (fun s w => by kernel_rfl) (by kernel_rfl) (by kernel_rfl) (by kernel_rfl) h
  have h3 : g3_K45 (.ret) (puts 119 ((g3_l11_cs p2 u0) ++ sputs [(4, .b), (6, .i .i64), (7, .i .i64), (35, .i .i64)] t)) w' = g3_l11_ret t w' := by kernel_rfl
  exact h1.trans (h2.trans h3)

/-! 4: penstock/penstocklaw05.DiskFull (n: int, names: uint8) -/
def g4_ann : List (List Nat × List Nat) := [([0, 1, 0, 1, 1, 1, 1, 1, 1, 1], [1, 5, 4, 7, 8])]

def g4_l21_cs (u1 : Int) (p2 : Option Addr) : List (Nat × Value) := ([(1, .int .u8 u1), (5, .pointer p2)] : List (Nat × Value))

/-- the round of a loop (penstock/penstocklaw05.DiskFull) -/
noncomputable def g4_l21_b (u1 : Int) (p2 : Option Addr) (s22 : Bool × Int × Int) (w23 : World) : Option (Exit × (Bool × Int × Int) × World) :=
if (decide ((s22.2.2 : Int) < (IntKind.i64.wrap (4056 + (IntKind.i64.wrap (Int.tmod u1 80)))))) = true then
((semR Try.prog (convert 28 9 (.slice (some (⟨w23.heap.size, 0, none⟩)) 3 3)) (World.alloc w23 (.cells #[.int .u8 (IntKind.u8.wrap (IntKind.i64.wrap (97 + (IntKind.i64.wrap (Int.tdiv s22.2.2 676))))), .int .u8 (IntKind.u8.wrap (IntKind.i64.wrap (97 + (Int.tmod (IntKind.i64.wrap (Int.tdiv s22.2.2 26)) 26)))), .int .u8 (IntKind.u8.wrap (IntKind.i64.wrap (97 + (Int.tmod s22.2.2 26))))] 5))).bind fun r24 =>
(asS r24.1).bind fun s25 =>
if (((⟨#[102]⟩ : ByteArray).size + s25.size : Nat) : Int) > IntKind.i64.max then
(none)
else
((callF Try.prog 10 #[.pointer p2, .string ((⟨#[102]⟩ : ByteArray) ++ s25), .slice none 0 0] r24.2).bind fun r26 =>
(asI .i64 r26.1).bind fun n27 =>
if (!(((n27 : Int) == 0) == (decide ((s22.2.1 : Int) < 4096)))) = true then
(some (.ret, (false, s22.2.1, s22.2.2), r26.2))
else
(if ((n27 : Int) != 0) = true then
(if ((n27 : Int) != 3) = true then
(some (.ret, (false, s22.2.1, s22.2.2), r26.2))
else
(if ((n27 : Int) == 0) = true then
(some (.normal, (s22.1, (IntKind.i64.wrap (s22.2.1 + 1)), (IntKind.i64.wrap (s22.2.2 + 1))), r26.2))
else
(some (.normal, (s22.1, s22.2.1, (IntKind.i64.wrap (s22.2.2 + 1))), r26.2))))
else
(if ((n27 : Int) == 0) = true then
(some (.normal, (s22.1, (IntKind.i64.wrap (s22.2.1 + 1)), (IntKind.i64.wrap (s22.2.2 + 1))), r26.2))
else
(some (.normal, (s22.1, s22.2.1, (IntKind.i64.wrap (s22.2.2 + 1))), r26.2))))))
else
(some ((.exit 0), (s22.1, s22.2.1, s22.2.2), w23))

noncomputable def g4_K28  : Exit → Env → World → Option (Value × World) :=
  retK Try.prog Try.f4.results.toList

noncomputable def g4_K29  : Exit → Env → World → Option (Value × World) :=
  seqK (ev Try.prog 115 4 g4_ann (cAt [1, 1, 1, 1, 1, 1, 1, 1] (bodyOf Try.f4)) [1, 1, 1, 1, 1, 1, 1, 1] g4_K28) g4_K28

noncomputable def g4_K30  : Exit → Env → World → Option (Value × World) :=
  blkK 0 g4_K29

/-- the loop, from a state on -/
noncomputable def g4_l21 (u1 : Int) (p2 : Option Addr) (s : Bool × Int × Int) (w : World) : Option (Value × World) :=
  loopM Try.prog 115 4 g4_ann (cAt [1, 1, 1, 1, 1, 1, 1, 0, 1, 0, 0] (bodyOf Try.f4)) [0, 1, 0, 1, 1, 1, 1, 1, 1, 1] g4_K30 ((g4_l21_cs u1 p2) ++ sputs [(4, .b), (7, .i .i64), (8, .i .i64)] s) w

/-- behind the loop, left by x0 -/
noncomputable def g4_l21_x0 (p2 : Option Addr) (t31 : Bool × Int × Int) (w32 : World) : Option (Value × World) :=
(callF Try.prog 17 #[.pointer p2, .string (⟨#[98, 105, 103]⟩ : ByteArray)] w32).bind fun r33 =>
(asTup 3 r33.1).bind fun l34 =>
(asI .i64 (l34.getD 0 undef)).bind fun n35 =>
(asI .i64 (l34.getD 1 undef)).bind fun n36 =>
(asI .i64 (l34.getD 2 undef)).bind fun n37 =>
if ((n37 : Int) == 0) = true then
(if ((n35 : Int) == 4194304) = true then
((callF Try.prog 18 #[.pointer p2] r33.2).bind fun r38 =>
(asSl r38.1).bind fun q39 =>
some (.bool (((q39.2.1 : Int) : Int) == t31.2.1), r38.2))
else
(some (.bool false, r33.2)))
else
(some (.bool false, r33.2))

/-- behind the loop, left by ret -/
noncomputable def g4_l21_ret  (t41 : Bool × Int × Int) (w42 : World) : Option (Value × World) :=
some (.bool t41.1, w42)

noncomputable def g4 (u0 : Int) (u1 : Int) (w0 : World) : Option (Value × World) :=
(callF Try.prog 8 #[] w0).bind fun r1 =>
(asP r1.1).bind fun p2 =>
(callF Try.prog 9 #[] r1.2).bind fun r3 =>
(asB r3.1).bind fun b4 =>
if (!b4) = true then
(some (.bool false, r3.2))
else
(if (p2.isNone) = true then
(some (.bool false, r3.2))
else
((callF Try.prog 16 #[.int .i64 (IntKind.i64.wrap (4194304 - (Int.tmod (IntKind.i64.wrap ((Int.tmod u0 4096) + 4096)) 4096)))] r3.2).bind fun r5 =>
(asSl r5.1).bind fun q6 =>
(callF Try.prog 10 #[.pointer p2, .string (⟨#[98, 105, 103]⟩ : ByteArray), .slice q6.1 q6.2.1 q6.2.2] r5.2).bind fun r7 =>
(asI .i64 r7.1).bind fun n8 =>
if ((n8 : Int) != 0) = true then
(some (.bool false, r7.2))
else
((callF Try.prog 16 #[.int .i64 (IntKind.i64.wrap ((Int.tmod (IntKind.i64.wrap ((Int.tmod u0 4096) + 4096)) 4096) + 1))] r7.2).bind fun r9 =>
(asSl r9.1).bind fun q10 =>
(callF Try.prog 10 #[.pointer p2, .string (⟨#[98, 105, 103]⟩ : ByteArray), .slice q10.1 q10.2.1 q10.2.2] r9.2).bind fun r11 =>
(asI .i64 r11.1).bind fun n12 =>
if ((n12 : Int) != 3) = true then
(some (.bool false, r11.2))
else
((callF Try.prog 16 #[.int .i64 (Int.tmod (IntKind.i64.wrap ((Int.tmod u0 4096) + 4096)) 4096)] r11.2).bind fun r13 =>
(asSl r13.1).bind fun q14 =>
(callF Try.prog 10 #[.pointer p2, .string (⟨#[98, 105, 103]⟩ : ByteArray), .slice q14.1 q14.2.1 q14.2.2] r13.2).bind fun r15 =>
(asI .i64 r15.1).bind fun n16 =>
if ((n16 : Int) != 0) = true then
(some (.bool false, r15.2))
else
((semR Try.prog (convert 28 28 (.slice (some (⟨r15.2.heap.size, 0, none⟩)) 1 1)) (World.alloc r15.2 (.cells #[.int .u8 120] 5))).bind fun r17 =>
(asSl r17.1).bind fun q18 =>
(callF Try.prog 10 #[.pointer p2, .string (⟨#[98, 105, 103]⟩ : ByteArray), .slice q18.1 q18.2.1 q18.2.2] r17.2).bind fun r19 =>
(asI .i64 r19.1).bind fun n20 =>
if ((n20 : Int) != 3) = true then
(some (.bool false, r19.2))
else
(g4_l21 u1 p2 (false, 1, 0) r19.2))))))

theorem g4_eq (u0 : Int) (u1 : Int) (w0 : World) : evFn Try.prog 4 g4_ann #[.int .i64 u0, .int .u8 u1] w0 = g4 u0 u1 w0 := by kernel_rfl

theorem g4_call {u0 : Int} {u1 : Int} {w0 : World} {r : Value × World} (h : g4 u0 u1 w0 = some r) : callF Try.prog 4 #[.int .i64 u0, .int .u8 u1] w0 = some r :=
  callF_of_evFn (ann := g4_ann) Try.call4 (by kernel_rfl) ((g4_eq u0 u1 w0).trans h)

theorem g4_l21_x0_of {u1 : Int} {p2 : Option Addr} {s t : Bool × Int × Int} {w w' : World} (h : loopS (g4_l21_b u1 p2) s w = some (.exit 0, t, w')) : g4_l21 u1 p2 s w = g4_l21_x0 p2 t w' := by
  have h1 : g4_l21 u1 p2 s w = loopM Try.prog 115 4 g4_ann (cAt [1, 1, 1, 1, 1, 1, 1, 0, 1, 0, 0] (bodyOf Try.f4)) [0, 1, 0, 1, 1, 1, 1, 1, 1, 1] g4_K30 ((g4_l21_cs u1 p2) ++ sputs [(4, .b), (7, .i .i64), (8, .i .i64)] s) w := by kernel_rfl
  have h2 : loopM Try.prog 115 4 g4_ann (cAt [1, 1, 1, 1, 1, 1, 1, 0, 1, 0, 0] (bodyOf Try.f4)) [0, 1, 0, 1, 1, 1, 1, 1, 1, 1] g4_K30 ((g4_l21_cs u1 p2) ++ sputs [(4, .b), (7, .i .i64), (8, .i .i64)] s) w = g4_K30 (.exit 0) (puts 115 ((g4_l21_cs u1 p2) ++ sputs [(4, .b), (7, .i .i64), (8, .i .i64)] t)) w' :=
    loop_rule (P := Try.prog) (N := 115) (f := 4) (ann := g4_ann) (body := (cAt [1, 1, 1, 1, 1, 1, 1, 0, 1, 0, 0] (bodyOf Try.f4))) (pt := [0, 1, 0, 1, 1, 1, 1, 1, 1, 1]) (K := g4_K30) (g4_l21_cs u1 p2) [(4, .b), (7, .i .i64), (8, .i .i64)] (b := g4_l21_b u1 p2) (fun s w => by kernel_rfl) (by kernel_rfl) (by kernel_rfl) (by kernel_rfl) h
  have h3 : g4_K30 (.exit 0) (puts 115 ((g4_l21_cs u1 p2) ++ sputs [(4, .b), (7, .i .i64), (8, .i .i64)] t)) w' = g4_l21_x0 p2 t w' := by kernel_rfl
  exact h1.trans (h2.trans h3)

theorem g4_l21_ret_of {u1 : Int} {p2 : Option Addr} {s t : Bool × Int × Int} {w w' : World} (h : loopS (g4_l21_b u1 p2) s w = some (.ret, t, w')) : g4_l21 u1 p2 s w = g4_l21_ret t w' := by
  have h1 : g4_l21 u1 p2 s w = loopM Try.prog 115 4 g4_ann (cAt [1, 1, 1, 1, 1, 1, 1, 0, 1, 0, 0] (bodyOf Try.f4)) [0, 1, 0, 1, 1, 1, 1, 1, 1, 1] g4_K30 ((g4_l21_cs u1 p2) ++ sputs [(4, .b), (7, .i .i64), (8, .i .i64)] s) w := by kernel_rfl
  have h2 : loopM Try.prog 115 4 g4_ann (cAt [1, 1, 1, 1, 1, 1, 1, 0, 1, 0, 0] (bodyOf Try.f4)) [0, 1, 0, 1, 1, 1, 1, 1, 1, 1] g4_K30 ((g4_l21_cs u1 p2) ++ sputs [(4, .b), (7, .i .i64), (8, .i .i64)] s) w = g4_K30 (.ret) (puts 115 ((g4_l21_cs u1 p2) ++ sputs [(4, .b), (7, .i .i64), (8, .i .i64)] t)) w' :=
    loop_rule (P := Try.prog) (N := 115) (f := 4) (ann := g4_ann) (body := (cAt [1, 1, 1, 1, 1, 1, 1, 0, 1, 0, 0] (bodyOf Try.f4))) (pt := [0, 1, 0, 1, 1, 1, 1, 1, 1, 1]) (K := g4_K30) (g4_l21_cs u1 p2) [(4, .b), (7, .i .i64), (8, .i .i64)] (b := g4_l21_b u1 p2) (fun s w => by kernel_rfl) (by kernel_rfl) (by kernel_rfl) (by kernel_rfl) h
  have h3 : g4_K30 (.ret) (puts 115 ((g4_l21_cs u1 p2) ++ sputs [(4, .b), (7, .i .i64), (8, .i .i64)] t)) w' = g4_l21_ret t w' := by kernel_rfl
  exact h1.trans (h2.trans h3)

/-! 5: penstock/penstocklaw05.DiskRenames (a: []uint8, b: []uint8, synced: bool, keep: int) -/
def g5_ann : List (List Nat × List Nat) := []

noncomputable def g5_j17 (n14 : Int) (n16 : Int) (p2 : Option Addr) (u3 : Int) (u1 : Option Addr × Nat × Nat) (w20 : World) : Option (Value × World) :=
if ((n14 : Int) != 0) = true then
(some (.bool false, w20))
else
(if ((n16 : Int) != 0) = true then
(some (.bool false, w20))
else
((callF Try.prog 19 #[.pointer p2, .string (⟨#[110, 101, 119]⟩ : ByteArray), .string (⟨#[111, 108, 100]⟩ : ByteArray)] w20).bind fun r21 =>
(asI .i64 r21.1).bind fun n22 =>
if ((n22 : Int) != 0) = true then
(some (.bool false, r21.2))
else
((callF Try.prog 14 #[.pointer p2, .int .i64 u3] r21.2).bind fun r23 =>
(asTup 0 r23.1).bind fun _ =>
(callF Try.prog 15 #[.pointer p2, .string (⟨#[111, 108, 100]⟩ : ByteArray)] r23.2).bind fun r24 =>
(asTup 2 r24.1).bind fun l25 =>
(asSl (l25.getD 0 undef)).bind fun q26 =>
(asI .i64 (l25.getD 1 undef)).bind fun n27 =>
(callF Try.prog 18 #[.pointer p2] r24.2).bind fun r28 =>
(asSl r28.1).bind fun q29 =>
if ((n27 : Int) == 0) = true then
((callF Try.prog 20 #[.slice q26.1 q26.2.1 q26.2.2, .slice u1.1 u1.2.1 u1.2.2] r28.2).bind fun r30 =>
(asB r30.1).bind fun b31 =>
if b31 = true then
(if (((q29.2.1 : Int) : Int) == 1) = true then
((idxA q29.1 q29.2.1 1 0).bind fun a33 =>
(World.cell? r30.2 a33).bind fun v34 =>
(asS v34).bind fun s35 =>
some (.bool (s35.toList == (⟨#[111, 108, 100]⟩ : ByteArray).toList), r30.2))
else
(some (.bool false, r30.2)))
else
(some (.bool false, r30.2)))
else
(some (.bool false, r28.2)))))

noncomputable def g5 (u0 : Option Addr × Nat × Nat) (u1 : Option Addr × Nat × Nat) (u2 : Bool) (u3 : Int) (w0 : World) : Option (Value × World) :=
(callF Try.prog 8 #[] w0).bind fun r1 =>
(asP r1.1).bind fun p2 =>
(callF Try.prog 9 #[] r1.2).bind fun r3 =>
(asB r3.1).bind fun b4 =>
if (!b4) = true then
((callF Try.prog 9 #[] r3.2).bind fun r5 =>
(asB r5.1).bind fun b6 =>
some (.bool b6, r5.2))
else
(if (p2.isNone) = true then
((callF Try.prog 9 #[] r3.2).bind fun r7 =>
(asB r7.1).bind fun b8 =>
some (.bool b8, r7.2))
else
(if (decide (((IntKind.i64.wrap ((u0.2.1 : Int) + (u1.2.1 : Int))) : Int) > 524288)) = true then
((callF Try.prog 9 #[] r3.2).bind fun r11 =>
(asB r11.1).bind fun b12 =>
some (.bool b12, r11.2))
else
((callF Try.prog 10 #[.pointer p2, .string (⟨#[111, 108, 100]⟩ : ByteArray), .slice u0.1 u0.2.1 u0.2.2] r3.2).bind fun r13 =>
(asI .i64 r13.1).bind fun n14 =>
(callF Try.prog 10 #[.pointer p2, .string (⟨#[110, 101, 119]⟩ : ByteArray), .slice u1.1 u1.2.1 u1.2.2] r13.2).bind fun r15 =>
(asI .i64 r15.1).bind fun n16 =>
if u2 = true then
((callF Try.prog 13 #[.pointer p2, .string (⟨#[111, 108, 100]⟩ : ByteArray)] r15.2).bind fun r18 =>
(asI .i64 r18.1).bind fun n19 =>
g5_j17 n14 n16 p2 u3 u1 r18.2)
else
(g5_j17 n14 n16 p2 u3 u1 r15.2))))

theorem g5_eq (u0 : Option Addr × Nat × Nat) (u1 : Option Addr × Nat × Nat) (u2 : Bool) (u3 : Int) (w0 : World) : evFn Try.prog 5 g5_ann #[.slice u0.1 u0.2.1 u0.2.2, .slice u1.1 u1.2.1 u1.2.2, .bool u2, .int .i64 u3] w0 = g5 u0 u1 u2 u3 w0 := by kernel_rfl

theorem g5_call {u0 : Option Addr × Nat × Nat} {u1 : Option Addr × Nat × Nat} {u2 : Bool} {u3 : Int} {w0 : World} {r : Value × World} (h : g5 u0 u1 u2 u3 w0 = some r) : callF Try.prog 5 #[.slice u0.1 u0.2.1 u0.2.2, .slice u1.1 u1.2.1 u1.2.2, .bool u2, .int .i64 u3] w0 = some r :=
  callF_of_evFn (ann := g5_ann) Try.call5 (by kernel_rfl) ((g5_eq u0 u1 u2 u3 w0).trans h)

/-! 7: penstock/penstocklaw05.DiskNone (o: penstocklaw05.Op) -/
def g7_ann : List (List Nat × List Nat) := []

noncomputable def g7 (u0c0 : Int) (u0c1 : ByteArray) (u0c2 : ByteArray) (u0c3 : Option Addr × Nat × Nat) (u0c4 : Int) (w0 : World) : Option (Value × World) :=
(World.cell? (World.alloc w0 (.cells #[.int .i64 u0c0, .string u0c1, .string u0c2, .slice u0c3.1 u0c3.2.1 u0c3.2.2, .int .i64 u0c4] 47)) (Addr.add (⟨w0.heap.size, 0, none⟩) 1)).bind fun v1 =>
(asS v1).bind fun s2 =>
(callF Try.prog 15 #[.pointer none, .string s2] (World.alloc w0 (.cells #[.int .i64 u0c0, .string u0c1, .string u0c2, .slice u0c3.1 u0c3.2.1 u0c3.2.2, .int .i64 u0c4] 47))).bind fun r3 =>
(asTup 2 r3.1).bind fun l4 =>
(asSl (l4.getD 0 undef)).bind fun q5 =>
(asI .i64 (l4.getD 1 undef)).bind fun n6 =>
(World.cell? r3.2 (Addr.add (⟨w0.heap.size, 0, none⟩) 1)).bind fun v7 =>
(asS v7).bind fun s8 =>
(callF Try.prog 17 #[.pointer none, .string s8] r3.2).bind fun r9 =>
(asTup 3 r9.1).bind fun l10 =>
(asI .i64 (l10.getD 0 undef)).bind fun n11 =>
(asI .i64 (l10.getD 1 undef)).bind fun n12 =>
(asI .i64 (l10.getD 2 undef)).bind fun n13 =>
(World.cell? r9.2 (Addr.add (⟨w0.heap.size, 0, none⟩) 4)).bind fun v14 =>
(asI .i64 v14).bind fun n15 =>
(callF Try.prog 11 #[.pointer none, .int .i64 n15] r9.2).bind fun r16 =>
(asTup 0 r16.1).bind fun _ =>
(World.cell? r16.2 (Addr.add (⟨w0.heap.size, 0, none⟩) 4)).bind fun v17 =>
(asI .i64 v17).bind fun n18 =>
(callF Try.prog 14 #[.pointer none, .int .i64 n18] r16.2).bind fun r19 =>
(asTup 0 r19.1).bind fun _ =>
(callF Try.prog 9 #[] r19.2).bind fun r20 =>
(asB r20.1).bind fun b21 =>
if b21 = true then
(if (((q5.2.1 : Int) : Int) == 0) = true then
(if ((n6 : Int) == 5) = true then
(if ((n11 : Int) == 0) = true then
(if ((n12 : Int) == 0) = true then
(if ((n13 : Int) == 5) = true then
((World.cell? r20.2 (Addr.add (⟨w0.heap.size, 0, none⟩) 1)).bind fun v23 =>
(asS v23).bind fun s24 =>
(World.cell? r20.2 (Addr.add (⟨w0.heap.size, 0, none⟩) 3)).bind fun v25 =>
(asSl v25).bind fun q26 =>
(callF Try.prog 10 #[.pointer none, .string s24, .slice q26.1 q26.2.1 q26.2.2] r20.2).bind fun r27 =>
(asI .i64 r27.1).bind fun n28 =>
if ((n28 : Int) == 5) = true then
((World.cell? r27.2 (Addr.add (⟨w0.heap.size, 0, none⟩) 1)).bind fun v29 =>
(asS v29).bind fun s30 =>
(callF Try.prog 13 #[.pointer none, .string s30] r27.2).bind fun r31 =>
(asI .i64 r31.1).bind fun n32 =>
if ((n32 : Int) == 5) = true then
((World.cell? r31.2 (Addr.add (⟨w0.heap.size, 0, none⟩) 1)).bind fun v33 =>
(asS v33).bind fun s34 =>
(World.cell? r31.2 (Addr.add (⟨w0.heap.size, 0, none⟩) 4)).bind fun v35 =>
(asI .i64 v35).bind fun n36 =>
(callF Try.prog 23 #[.pointer none, .string s34, .int .i64 n36] r31.2).bind fun r37 =>
(asI .i64 r37.1).bind fun n38 =>
if ((n38 : Int) == 5) = true then
((World.cell? r37.2 (Addr.add (⟨w0.heap.size, 0, none⟩) 1)).bind fun v39 =>
(asS v39).bind fun s40 =>
(callF Try.prog 24 #[.pointer none, .string s40] r37.2).bind fun r41 =>
(asI .i64 r41.1).bind fun n42 =>
if ((n42 : Int) == 5) = true then
((World.cell? r41.2 (Addr.add (⟨w0.heap.size, 0, none⟩) 1)).bind fun v43 =>
(asS v43).bind fun s44 =>
(World.cell? r41.2 (Addr.add (⟨w0.heap.size, 0, none⟩) 2)).bind fun v45 =>
(asS v45).bind fun s46 =>
(callF Try.prog 19 #[.pointer none, .string s44, .string s46] r41.2).bind fun r47 =>
(asI .i64 r47.1).bind fun n48 =>
if ((n48 : Int) == 5) = true then
((callF Try.prog 18 #[.pointer none] r47.2).bind fun r49 =>
(asSl r49.1).bind fun q50 =>
if (((q50.2.1 : Int) : Int) == 0) = true then
((callF Try.prog 12 #[.pointer none] r49.2).bind fun r52 =>
(asB r52.1).bind fun b53 =>
some (.bool (!b53), r52.2))
else
(some (.bool false, r49.2)))
else
(some (.bool false, r47.2)))
else
(some (.bool false, r41.2)))
else
(some (.bool false, r37.2)))
else
(some (.bool false, r31.2)))
else
(some (.bool false, r27.2)))
else
(some (.bool false, r20.2)))
else
(some (.bool false, r20.2)))
else
(some (.bool false, r20.2)))
else
(some (.bool false, r20.2)))
else
(some (.bool false, r20.2)))
else
(some (.bool false, r20.2))

theorem g7_eq (u0c0 : Int) (u0c1 : ByteArray) (u0c2 : ByteArray) (u0c3 : Option Addr × Nat × Nat) (u0c4 : Int) (w0 : World) : evFn Try.prog 7 g7_ann #[.agg #[.int .i64 u0c0, .string u0c1, .string u0c2, .slice u0c3.1 u0c3.2.1 u0c3.2.2, .int .i64 u0c4]] w0 = g7 u0c0 u0c1 u0c2 u0c3 u0c4 w0 := by kernel_rfl

theorem g7_call {u0c0 : Int} {u0c1 : ByteArray} {u0c2 : ByteArray} {u0c3 : Option Addr × Nat × Nat} {u0c4 : Int} {w0 : World} {r : Value × World} (h : g7 u0c0 u0c1 u0c2 u0c3 u0c4 w0 = some r) : callF Try.prog 7 #[.agg #[.int .i64 u0c0, .string u0c1, .string u0c2, .slice u0c3.1 u0c3.2.1 u0c3.2.2, .int .i64 u0c4]] w0 = some r :=
  callF_of_evFn (ann := g7_ann) Try.call7 (by kernel_rfl) ((g7_eq u0c0 u0c1 u0c2 u0c3 u0c4 w0).trans h)

end Go.Proofs.Ytkmidlhnlnolnaa
