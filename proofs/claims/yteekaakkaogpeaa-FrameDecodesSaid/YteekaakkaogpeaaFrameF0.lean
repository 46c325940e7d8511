/-
  FrameF0: lemmas on what Go functions of this seat come to (for whatever arguments, as each says). No condition but those that stand in each lemma.
-/
import Derived.Test.YteekaakkaogpeaaLb5
import Derived.Test.YteekaakkaogpeaaProg
namespace Go.Proofs.Yteekaakkaogpeaa
open Go Go.Ev
set_option maxRecDepth 100000
set_option linter.unusedVariables false
/-! 21: penstock/crc.New () -/
def g21_ann : List (List Nat × List Nat) := []

noncomputable def g21  (w0 : World) : Option (Value × World) :=
some (.pointer (some (⟨w0.heap.size, 0, none⟩)), (World.alloc w0 (.cells #[.int .u32 0, .int .i32 0, .int .u32 0, .int .u32 0, .int .u32 0, .int .u32 0, .int .u32 0, .int .u32 0, .int .u32 0, .int .u32 0, .int .u32 0, .int .u32 0, .int .u32 0, .int .u32 0, .int .u32 0, .int .u32 0, .int .u32 0, .int .u32 0, .int .u32 0, .int .u32 0, .int .u32 0, .int .u32 0, .int .u32 0, .int .u32 0, .int .u32 0, .int .u32 0, .int .u32 0, .int .u32 0, .int .u32 0, .int .u32 0, .int .u32 0, .int .u32 0, .int .u32 0, .int .u32 0, .int .u32 0, .int .u32 0, .int .u32 0, .int .u32 0, .int .u32 0, .int .u32 0, .int .u32 0, .int .u32 0, .int .u32 0, .int .u32 0, .int .u32 0, .int .u32 0, .int .u32 0, .int .u32 0, .int .u32 0, .int .u32 0, .int .u32 0, .int .u32 0, .int .u32 0, .int .u32 0, .int .u32 0, .int .u32 0, .int .u32 0, .int .u32 0, .int .u32 0, .int .u32 0, .int .u32 0, .int .u32 0, .int .u32 0, .int .u32 0, .int .u32 0, .int .u32 0, .int .u32 0, .int .u32 0, .int .u32 0, .int .u32 0, .int .u32 0, .int .u32 0, .int .u32 0, .int .u32 0, .int .u32 0, .int .u32 0, .int .u32 0, .int .u32 0, .int .u32 0, .int .u32 0, .int .u32 0, .int .u32 0, .int .u32 0, .int .u32 0, .int .u32 0, .int .u32 0, .int .u32 0, .int .u32 0, .int .u32 0, .int .u32 0, .int .u32 0, .int .u32 0, .int .u32 0, .int .u32 0, .int .u32 0, .int .u32 0, .int .u32 0, .int .u32 0, .int .u32 0, .int .u32 0, .int .u32 0, .int .u32 0, .int .u32 0, .int .u32 0, .int .u32 0, .int .u32 0, .int .u32 0, .int .u32 0, .int .u32 0, .int .u32 0, .int .u32 0, .int .u32 0, .int .u32 0, .int .u32 0, .int .u32 0, .int .u32 0, .int .u32 0, .int .u32 0, .int .u32 0, .int .u32 0, .int .u32 0, .int .u32 0, .int .u32 0, .int .u32 0, .int .u32 0, .int .u32 0, .int .u32 0, .int .u32 0, .int .u32 0, .int .u32 0, .int .u32 0, .int .u32 0, .int .u32 0, .int .u32 0, .int .u32 0, .int .u32 0, .int .u32 0, .int .u32 0, .int .u32 0, .int .u32 0, .int .u32 0, .int .u32 0, .int .u32 0, .int .u32 0, .int .u32 0, .int .u32 0, .int .u32 0, .int .u32 0, .int .u32 0, .int .u32 0, .int .u32 0, .int .u32 0, .int .u32 0, .int .u32 0, .int .u32 0, .int .u32 0, .int .u32 0, .int .u32 0, .int .u32 0, .int .u32 0, .int .u32 0, .int .u32 0, .int .u32 0, .int .u32 0, .int .u32 0, .int .u32 0, .int .u32 0, .int .u32 0, .int .u32 0, .int .u32 0, .int .u32 0, .int .u32 0, .int .u32 0, .int .u32 0, .int .u32 0, .int .u32 0, .int .u32 0, .int .u32 0, .int .u32 0, .int .u32 0, .int .u32 0, .int .u32 0, .int .u32 0, .int .u32 0, .int .u32 0, .int .u32 0, .int .u32 0, .int .u32 0, .int .u32 0, .int .u32 0, .int .u32 0, .int .u32 0, .int .u32 0, .int .u32 0, .int .u32 0, .int .u32 0, .int .u32 0, .int .u32 0, .int .u32 0, .int .u32 0, .int .u32 0, .int .u32 0, .int .u32 0, .int .u32 0, .int .u32 0, .int .u32 0, .int .u32 0, .int .u32 0, .int .u32 0, .int .u32 0, .int .u32 0, .int .u32 0, .int .u32 0, .int .u32 0, .int .u32 0, .int .u32 0, .int .u32 0, .int .u32 0, .int .u32 0, .int .u32 0, .int .u32 0, .int .u32 0, .int .u32 0, .int .u32 0, .int .u32 0, .int .u32 0, .int .u32 0, .int .u32 0, .int .u32 0, .int .u32 0, .int .u32 0, .int .u32 0, .int .u32 0, .int .u32 0, .int .u32 0, .int .u32 0, .int .u32 0, .int .u32 0, .int .u32 0, .int .u32 0, .int .u32 0, .int .u32 0, .int .u32 0, .int .u32 0, .int .u32 0, .int .u32 0, .int .u32 0, .int .u32 0, .int .u32 0, .int .u32 0, .int .u32 0, .int .u32 0, .int .u32 0, .int .u32 0, .int .u32 0, .int .u32 0, .int .u32 0, .int .u32 0, .int .u32 0] 83)))

theorem g21_eq  (w0 : World) : evFn Try.prog 21 g21_ann #[] w0 = g21 w0 := by kernel_rfl

theorem g21_call  {w0 : World} {r : Value × World} (h : g21 w0 = some r) : callF Try.prog 21 #[] w0 = some r :=
  callF_of_evFn (ann := g21_ann) Try.call21 (by kernel_rfl) ((g21_eq  w0).trans h)

/-! 22: penstock/penstockref03.Fixed (n: uint32) -/
def g22_ann : List (List Nat × List Nat) := []

noncomputable def g22 (u0 : Int) (w0 : World) : Option (Value × World) :=
some (.slice (some (⟨w0.heap.size, 0, none⟩)) 4 4, (World.alloc w0 (.cells #[.int .u8 (IntKind.u8.wrap (Int.tmod u0 256)), .int .u8 (IntKind.u8.wrap (Int.tmod (IntKind.u32.wrap (Int.tdiv u0 256)) 256)), .int .u8 (IntKind.u8.wrap (Int.tmod (IntKind.u32.wrap (Int.tdiv u0 65536)) 256)), .int .u8 (IntKind.u8.wrap (IntKind.u32.wrap (Int.tdiv u0 16777216)))] 5)))

theorem g22_eq (u0 : Int) (w0 : World) : evFn Try.prog 22 g22_ann #[.int .u32 u0] w0 = g22 u0 w0 := by kernel_rfl

theorem g22_call {u0 : Int} {w0 : World} {r : Value × World} (h : g22 u0 w0 = some r) : callF Try.prog 22 #[.int .u32 u0] w0 = some r :=
  callF_of_evFn (ann := g22_ann) Try.call22 (by kernel_rfl) ((g22_eq u0 w0).trans h)

/-! 23: penstock/penstockref02.More (sum: uint32, b: []uint8) -/
def g23_ann : List (List Nat × List Nat) := [([0, 1, 0, 1, 1], [1, 5, 6]), ([0, 1, 0, 0, 1, 0, 0, 1, 0, 1, 1], [1, 6, 5, 7])]

def g23_l1_cs (u1 : Option Addr × Nat × Nat) : List (Nat × Value) := ([(1, .slice u1.1 u1.2.1 u1.2.2)] : List (Nat × Value))

def g23_l5_cs (u1 : Option Addr × Nat × Nat) (s2 : Int × Int) : List (Nat × Value) := ([(1, .slice u1.1 u1.2.1 u1.2.2), (6, .int .i64 s2.2)] : List (Nat × Value))

/-- the round of a loop (penstock/penstockref02.More) -/
noncomputable def g23_l5_b (u1 : Option Addr × Nat × Nat) (s2 : Int × Int) (s6 : Int × Int) (w7 : World) : Option (Exit × (Int × Int) × World) :=
if (decide ((s6.2 : Int) < 8)) = true then
((idxA u1.1 u1.2.1 1 s2.2).bind fun a8 =>
(World.cell? w7 a8).bind fun v9 =>
(asI .u8 v9).bind fun n10 =>
if ((IntKind.u64.wrap s6.2) : Int) < 0 then
(none)
else
(if (((IntKind.u32.wrap ((BitVec.ofInt 32 (IntKind.u32.wrap ((BitVec.ofInt 32 s6.1 &&& BitVec.ofInt 32 1).toNat : Nat)) ^^^ BitVec.ofInt 32 (IntKind.u32.wrap ((BitVec.ofInt 32 (IntKind.u32.wrap (Int.fdiv n10 (2 ^ (min (Int.toNat (IntKind.u64.wrap s6.2)) 8)))) &&& BitVec.ofInt 32 1).toNat : Nat))).toNat : Nat)) : Int) == 1) = true then
(some (.normal, ((IntKind.u32.wrap ((BitVec.ofInt 32 (Int.fdiv s6.1 (2 ^ (min (Int.toNat 1) 32))) ^^^ BitVec.ofInt 32 2197175160).toNat : Nat)), (IntKind.i64.wrap (s6.2 + 1))), w7))
else
(some (.normal, ((Int.fdiv s6.1 (2 ^ (min (Int.toNat 1) 32))), (IntKind.i64.wrap (s6.2 + 1))), w7))))
else
(some ((.exit 2), (s6.1, s6.2), w7))

noncomputable def g23_K11 (u1 : Option Addr × Nat × Nat) : Exit → Env → World → Option (Exit × (Int × Int) × World) :=
  fun e ρ w => ((List.map (·.1) (g23_l1_cs u1)).mapM ρ).bind fun _ => loopK [(5, .i .u32), (6, .i .i64)] e ρ w

noncomputable def g23_K12 (u1 : Option Addr × Nat × Nat) : Exit → Env → World → Option (Exit × (Int × Int) × World) :=
  seqK (ev Try.prog 43 23 g23_ann (cAt [1, 1, 0, 1, 0, 0, 1, 1] (bodyOf Try.f23)) [1, 1, 0, 0, 1, 0, 1, 1] (g23_K11 u1)) (g23_K11 u1)

noncomputable def g23_K13 (u1 : Option Addr × Nat × Nat) : Exit → Env → World → Option (Exit × (Int × Int) × World) :=
  blkK 1 (g23_K12 u1)

noncomputable def g23_K14 (u1 : Option Addr × Nat × Nat) : Exit → Env → World → Option (Exit × (Int × Int) × World) :=
  blkK 2 (g23_K13 u1)

/-- the loop, from a state on -/
noncomputable def g23_l5 (u1 : Option Addr × Nat × Nat) (s2 : Int × Int) (s : Int × Int) (w : World) : Option (Exit × (Int × Int) × World) :=
  loopM Try.prog 43 23 g23_ann (cAt [1, 1, 0, 1, 0, 0, 1, 0, 0, 1, 0, 0] (bodyOf Try.f23)) [0, 1, 0, 0, 1, 0, 0, 1, 0, 1, 1] (g23_K14 u1) ((g23_l5_cs u1 s2) ++ sputs [(5, .i .u32), (7, .i .i64)] s) w

/-- behind the loop, left by x2 -/
noncomputable def g23_l5_x2 (s2 : Int × Int) (t15 : Int × Int) (w16 : World) : Option (Exit × (Int × Int) × World) :=
some (.normal, (t15.1, (IntKind.i64.wrap (s2.2 + 1))), w16)

/-- the round of a loop (penstock/penstockref02.More) -/
noncomputable def g23_l1_b (u1 : Option Addr × Nat × Nat) (s2 : Int × Int) (w3 : World) : Option (Exit × (Int × Int) × World) :=
if (decide ((s2.2 : Int) < (u1.2.1 : Int))) = true then
(g23_l5 u1 s2 (s2.1, 0) w3)
else
(some ((.exit 0), (s2.1, s2.2), w3))

noncomputable def g23_K17  : Exit → Env → World → Option (Value × World) :=
  retK Try.prog Try.f23.results.toList

noncomputable def g23_K18  : Exit → Env → World → Option (Value × World) :=
  seqK (ev Try.prog 43 23 g23_ann (cAt [1, 1, 1] (bodyOf Try.f23)) [1, 1, 1] g23_K17) g23_K17

noncomputable def g23_K19  : Exit → Env → World → Option (Value × World) :=
  blkK 0 g23_K18

/-- the loop, from a state on -/
noncomputable def g23_l1 (u1 : Option Addr × Nat × Nat) (s : Int × Int) (w : World) : Option (Value × World) :=
  loopM Try.prog 43 23 g23_ann (cAt [1, 1, 0, 1, 0, 0] (bodyOf Try.f23)) [0, 1, 0, 1, 1] g23_K19 ((g23_l1_cs u1) ++ sputs [(5, .i .u32), (6, .i .i64)] s) w

/-- behind the loop, left by x0 -/
noncomputable def g23_l1_x0  (t20 : Int × Int) (w21 : World) : Option (Value × World) :=
some (.int .u32 (IntKind.u32.wrap ((BitVec.ofInt 32 IntKind.u32.max ^^^ BitVec.ofInt 32 t20.1).toNat : Nat)), w21)

noncomputable def g23 (u0 : Int) (u1 : Option Addr × Nat × Nat) (w0 : World) : Option (Value × World) :=
g23_l1 u1 ((IntKind.u32.wrap ((BitVec.ofInt 32 IntKind.u32.max ^^^ BitVec.ofInt 32 u0).toNat : Nat)), 0) w0

theorem g23_eq (u0 : Int) (u1 : Option Addr × Nat × Nat) (w0 : World) : evFn Try.prog 23 g23_ann #[.int .u32 u0, .slice u1.1 u1.2.1 u1.2.2] w0 = g23 u0 u1 w0 := by kernel_rfl

theorem g23_call {u0 : Int} {u1 : Option Addr × Nat × Nat} {w0 : World} {r : Value × World} (h : g23 u0 u1 w0 = some r) : callF Try.prog 23 #[.int .u32 u0, .slice u1.1 u1.2.1 u1.2.2] w0 = some r :=
  callF_of_evFn (ann := g23_ann) Try.call23 (by kernel_rfl) ((g23_eq u0 u1 w0).trans h)

theorem g23_l5_x2_of {u1 : Option Addr × Nat × Nat} {s2 : Int × Int} {s t : Int × Int} {w w' : World} (h : loopS (g23_l5_b u1 s2) s w = some (.exit 2, t, w')) : g23_l5 u1 s2 s w = g23_l5_x2 s2 t w' := by
  have h1 : g23_l5 u1 s2 s w = loopM Try.prog 43 23 g23_ann (cAt [1, 1, 0, 1, 0, 0, 1, 0, 0, 1, 0, 0] (bodyOf Try.f23)) [0, 1, 0, 0, 1, 0, 0, 1, 0, 1, 1] (g23_K14 u1) ((g23_l5_cs u1 s2) ++ sputs [(5, .i .u32), (7, .i .i64)] s) w := by kernel_rfl
  have h2 : loopM Try.prog 43 23 g23_ann (cAt [1, 1, 0, 1, 0, 0, 1, 0, 0, 1, 0, 0] (bodyOf Try.f23)) [0, 1, 0, 0, 1, 0, 0, 1, 0, 1, 1] (g23_K14 u1) ((g23_l5_cs u1 s2) ++ sputs [(5, .i .u32), (7, .i .i64)] s) w = (g23_K14 u1) (.exit 2) (puts 43 ((g23_l5_cs u1 s2) ++ sputs [(5, .i .u32), (7, .i .i64)] t)) w' :=
    loop_rule (P := Try.prog) (N := 43) (f := 23) (ann := g23_ann) (body := (cAt [1, 1, 0, 1, 0, 0, 1, 0, 0, 1, 0, 0] (bodyOf Try.f23))) (pt := [0, 1, 0, 0, 1, 0, 0, 1, 0, 1, 1]) (K := (g23_K14 u1)) (g23_l5_cs u1 s2) [(5, .i .u32), (7, .i .i64)] (b := g23_l5_b u1 s2) (fun s w => by kernel_rfl) (by kernel_rfl) (by kernel_rfl) (by kernel_rfl) h
  have h3 : (g23_K14 u1) (.exit 2) (puts 43 ((g23_l5_cs u1 s2) ++ sputs [(5, .i .u32), (7, .i .i64)] t)) w' = g23_l5_x2 s2 t w' := by kernel_rfl
  exact h1.trans (h2.trans h3)

theorem g23_l1_x0_of {u1 : Option Addr × Nat × Nat} {s t : Int × Int} {w w' : World} (h : loopS (g23_l1_b u1) s w = some (.exit 0, t, w')) : g23_l1 u1 s w = g23_l1_x0 t w' := by
  have h1 : g23_l1 u1 s w = loopM Try.prog 43 23 g23_ann (cAt [1, 1, 0, 1, 0, 0] (bodyOf Try.f23)) [0, 1, 0, 1, 1] g23_K19 ((g23_l1_cs u1) ++ sputs [(5, .i .u32), (6, .i .i64)] s) w := by kernel_rfl
  have h2 : loopM Try.prog 43 23 g23_ann (cAt [1, 1, 0, 1, 0, 0] (bodyOf Try.f23)) [0, 1, 0, 1, 1] g23_K19 ((g23_l1_cs u1) ++ sputs [(5, .i .u32), (6, .i .i64)] s) w = g23_K19 (.exit 0) (puts 43 ((g23_l1_cs u1) ++ sputs [(5, .i .u32), (6, .i .i64)] t)) w' :=
    loop_rule (P := Try.prog) (N := 43) (f := 23) (ann := g23_ann) (body := (cAt [1, 1, 0, 1, 0, 0] (bodyOf Try.f23))) (pt := [0, 1, 0, 1, 1]) (K := g23_K19) (g23_l1_cs u1) [(5, .i .u32), (6, .i .i64)] (b := g23_l1_b u1) (fun s w => by kernel_rfl) (by kernel_rfl) (by kernel_rfl) (by kernel_rfl) h
  have h3 : g23_K19 (.exit 0) (puts 43 ((g23_l1_cs u1) ++ sputs [(5, .i .u32), (6, .i .i64)] t)) w' = g23_l1_x0 t w' := by kernel_rfl
  exact h1.trans (h2.trans h3)

/-! 24: penstock/codec.NewWriter () -/
def g24_ann : List (List Nat × List Nat) := []

noncomputable def g24  (w0 : World) : Option (Value × World) :=
some (.pointer (some (⟨w0.heap.size, 0, none⟩)), (World.alloc w0 (.cells #[.slice none 0 0, .int .i64 0] 85)))

theorem g24_eq  (w0 : World) : evFn Try.prog 24 g24_ann #[] w0 = g24 w0 := by kernel_rfl

theorem g24_call  {w0 : World} {r : Value × World} (h : g24 w0 = some r) : callF Try.prog 24 #[] w0 = some r :=
  callF_of_evFn (ann := g24_ann) Try.call24 (by kernel_rfl) ((g24_eq  w0).trans h)

/-! 25: (*penstock/codec.Writer).Fixed (w: *codec.Writer, n: uint32) -/
def g25_ann : List (List Nat × List Nat) := []

noncomputable def g25 (u0 : Option Addr) (u1 : Int) (w0 : World) : Option (Value × World) :=
if (!(u0.isNone)) = true then
(u0.bind fun a1 =>
(World.cell? w0 a1).bind fun v2 =>
(asSl v2).bind fun q3 =>
(callB Try.prog .append #[22, 22] 22 #[false, false] #[.slice q3.1 q3.2.1 q3.2.2, .slice (some (⟨w0.heap.size, 0, none⟩)) 4 4] (World.alloc w0 (.cells #[.int .u8 (IntKind.u8.wrap u1), .int .u8 (IntKind.u8.wrap (Int.fdiv u1 (2 ^ (min (Int.toNat 8) 32)))), .int .u8 (IntKind.u8.wrap (Int.fdiv u1 (2 ^ (min (Int.toNat 16) 32)))), .int .u8 (IntKind.u8.wrap (Int.fdiv u1 (2 ^ (min (Int.toNat 24) 32))))] 5))).bind fun r4 =>
(asSl r4.1).bind fun q5 =>
u0.bind fun a6 =>
(st1 r4.2 a6 (.slice q5.1 q5.2.1 q5.2.2)).bind fun w7 =>
some (.tuple #[], w7))
else
(some (.tuple #[], w0))

theorem g25_eq (u0 : Option Addr) (u1 : Int) (w0 : World) : evFn Try.prog 25 g25_ann #[.pointer u0, .int .u32 u1] w0 = g25 u0 u1 w0 := by kernel_rfl

theorem g25_call {u0 : Option Addr} {u1 : Int} {w0 : World} {r : Value × World} (h : g25 u0 u1 w0 = some r) : callF Try.prog 25 #[.pointer u0, .int .u32 u1] w0 = some r :=
  callF_of_evFn (ann := g25_ann) Try.call25 (by kernel_rfl) ((g25_eq u0 u1 w0).trans h)

/-! 26: (*penstock/crc.Table).Sum (t: *crc.Table, b: []uint8) -/
def g26_ann : List (List Nat × List Nat) := []

noncomputable def g26 (u0 : Option Addr) (u1 : Option Addr × Nat × Nat) (w0 : World) : Option (Value × World) :=
(callF Try.prog 32 #[.pointer u0, .int .u32 0, .slice u1.1 u1.2.1 u1.2.2] w0).bind fun r1 =>
(asI .u32 r1.1).bind fun n2 =>
some (.int .u32 n2, r1.2)

theorem g26_eq (u0 : Option Addr) (u1 : Option Addr × Nat × Nat) (w0 : World) : evFn Try.prog 26 g26_ann #[.pointer u0, .slice u1.1 u1.2.1 u1.2.2] w0 = g26 u0 u1 w0 := by kernel_rfl

theorem g26_call {u0 : Option Addr} {u1 : Option Addr × Nat × Nat} {w0 : World} {r : Value × World} (h : g26 u0 u1 w0 = some r) : callF Try.prog 26 #[.pointer u0, .slice u1.1 u1.2.1 u1.2.2] w0 = some r :=
  callF_of_evFn (ann := g26_ann) Try.call26 (by kernel_rfl) ((g26_eq u0 u1 w0).trans h)

/-! 27: (*penstock/codec.Writer).Out (w: *codec.Writer) -/
def g27_ann : List (List Nat × List Nat) := []

noncomputable def g27 (u0 : Option Addr) (w0 : World) : Option (Value × World) :=
if (u0.isNone) = true then
(some (.tuple #[.slice none 0 0, .int .i64 5], w0))
else
(u0.bind fun a1 =>
(World.cell? w0 (Addr.add a1 1)).bind fun v2 =>
(asI .i64 v2).bind fun n3 =>
if ((n3 : Int) != 0) = true then
(u0.bind fun a4 =>
(World.cell? (World.drew w0) (Addr.add a4 1)).bind fun v5 =>
(asI .i64 v5).bind fun n6 =>
some (.tuple #[.slice none 0 0, .int .i64 n6], (World.drew w0)))
else
(u0.bind fun a7 =>
(World.cell? w0 a7).bind fun v8 =>
(asSl v8).bind fun q9 =>
(callB Try.prog .append #[22, 22] 22 #[true, false] #[.slice none 0 0, .slice q9.1 q9.2.1 q9.2.2] w0).bind fun r10 =>
(asSl r10.1).bind fun q11 =>
some (.tuple #[.slice q11.1 q11.2.1 q11.2.2, .int .i64 0], r10.2)))

theorem g27_eq (u0 : Option Addr) (w0 : World) : evFn Try.prog 27 g27_ann #[.pointer u0] w0 = g27 u0 w0 := by kernel_rfl

theorem g27_call {u0 : Option Addr} {w0 : World} {r : Value × World} (h : g27 u0 w0 = some r) : callF Try.prog 27 #[.pointer u0] w0 = some r :=
  callF_of_evFn (ann := g27_ann) Try.call27 (by kernel_rfl) ((g27_eq u0 w0).trans h)

/-! 28: (*penstock/penstockref03.Reader).Fixed (r: *penstockref03.Reader) -/
def g28_ann : List (List Nat × List Nat) := [([0, 1, 0, 1, 1, 1, 1], [0, 3, 4])]

def g28_l12_cs (u0 : Option Addr) : List (Nat × Value) := ([(0, .pointer u0)] : List (Nat × Value))

/-- the round of a loop ((*penstock/penstockref03.Reader).Fixed) -/
noncomputable def g28_l12_b (u0 : Option Addr) (s13 : Int × Int) (w14 : World) : Option (Exit × (Int × Int) × World) :=
if (decide ((s13.2 : Int) ≥ 0)) = true then
(u0.bind fun a15 =>
(World.cell? (World.drew w14) a15).bind fun v16 =>
(asSl v16).bind fun q17 =>
u0.bind fun a18 =>
(World.cell? (World.drew w14) (Addr.add a18 1)).bind fun v19 =>
(asI .i64 v19).bind fun n20 =>
(idxA q17.1 q17.2.1 1 (IntKind.i64.wrap (n20 + s13.2))).bind fun a21 =>
(World.cell? (World.drew w14) a21).bind fun v22 =>
(asI .u8 v22).bind fun n23 =>
some (.normal, ((IntKind.u32.wrap ((IntKind.u32.wrap (256 * s13.1)) + (IntKind.u32.wrap n23))), (IntKind.i64.wrap (s13.2 - 1))), (World.drew w14)))
else
(some ((.exit 0), (s13.1, s13.2), w14))

noncomputable def g28_K24  : Exit → Env → World → Option (Value × World) :=
  retK Try.prog Try.f28.results.toList

noncomputable def g28_K25  : Exit → Env → World → Option (Value × World) :=
  seqK (ev Try.prog 52 28 g28_ann (cAt [1, 1, 1, 1, 1] (bodyOf Try.f28)) [1, 1, 1, 1, 1] g28_K24) g28_K24

noncomputable def g28_K26  : Exit → Env → World → Option (Value × World) :=
  blkK 0 g28_K25

/-- the loop, from a state on -/
noncomputable def g28_l12 (u0 : Option Addr) (s : Int × Int) (w : World) : Option (Value × World) :=
  loopM Try.prog 52 28 g28_ann (cAt [1, 1, 1, 1, 0, 1, 0, 0] (bodyOf Try.f28)) [0, 1, 0, 1, 1, 1, 1] g28_K26 ((g28_l12_cs u0) ++ sputs [(3, .i .u32), (4, .i .i64)] s) w

/-- behind the loop, left by x0 -/
noncomputable def g28_l12_x0 (u0 : Option Addr) (t27 : Int × Int) (w28 : World) : Option (Value × World) :=
u0.bind fun a29 =>
(World.cell? w28 (Addr.add a29 1)).bind fun v30 =>
(asI .i64 v30).bind fun n31 =>
u0.bind fun a32 =>
(st1 w28 (Addr.add a32 1) (.int .i64 (IntKind.i64.wrap (n31 + 4)))).bind fun w33 =>
some (.int .u32 t27.1, w33)

noncomputable def g28 (u0 : Option Addr) (w0 : World) : Option (Value × World) :=
u0.bind fun a1 =>
(World.cell? w0 (Addr.add a1 2)).bind fun v2 =>
(asI .i64 v2).bind fun n3 =>
if ((n3 : Int) != 0) = true then
(some (.int .u32 0, w0))
else
(u0.bind fun a4 =>
(World.cell? (World.drew w0) (Addr.add a4 1)).bind fun v5 =>
(asI .i64 v5).bind fun n6 =>
u0.bind fun a7 =>
(World.cell? (World.drew w0) a7).bind fun v8 =>
(asSl v8).bind fun q9 =>
if (decide (((IntKind.i64.wrap (n6 + 4)) : Int) > (q9.2.1 : Int))) = true then
((callF Try.prog 33 #[.pointer u0, .int .i64 6] (World.drew w0)).bind fun r11 =>
(asTup 0 r11.1).bind fun _ =>
some (.int .u32 0, r11.2))
else
(g28_l12 u0 (0, 3) (World.drew w0)))

theorem g28_eq (u0 : Option Addr) (w0 : World) : evFn Try.prog 28 g28_ann #[.pointer u0] w0 = g28 u0 w0 := by kernel_rfl

theorem g28_call {u0 : Option Addr} {w0 : World} {r : Value × World} (h : g28 u0 w0 = some r) : callF Try.prog 28 #[.pointer u0] w0 = some r :=
  callF_of_evFn (ann := g28_ann) Try.call28 (by kernel_rfl) ((g28_eq u0 w0).trans h)

theorem g28_l12_x0_of {u0 : Option Addr} {s t : Int × Int} {w w' : World} (h : loopS (g28_l12_b u0) s w = some (.exit 0, t, w')) : g28_l12 u0 s w = g28_l12_x0 u0 t w' := by
  have h1 : g28_l12 u0 s w = loopM Try.prog 52 28 g28_ann (cAt [1, 1, 1, 1, 0, 1, 0, 0] (bodyOf Try.f28)) [0, 1, 0, 1, 1, 1, 1] g28_K26 ((g28_l12_cs u0) ++ sputs [(3, .i .u32), (4, .i .i64)] s) w := by kernel_rfl
  have h2 : loopM Try.prog 52 28 g28_ann (cAt [1, 1, 1, 1, 0, 1, 0, 0] (bodyOf Try.f28)) [0, 1, 0, 1, 1, 1, 1] g28_K26 ((g28_l12_cs u0) ++ sputs [(3, .i .u32), (4, .i .i64)] s) w = g28_K26 (.exit 0) (puts 52 ((g28_l12_cs u0) ++ sputs [(3, .i .u32), (4, .i .i64)] t)) w' :=
    loop_rule (P := Try.prog) (N := 52) (f := 28) (ann := g28_ann) (body := (cAt [1, 1, 1, 1, 0, 1, 0, 0] (bodyOf Try.f28))) (pt := [0, 1, 0, 1, 1, 1, 1]) (K := g28_K26) (g28_l12_cs u0) [(3, .i .u32), (4, .i .i64)] (b := g28_l12_b u0) (fun s w => by kernel_rfl) (by kernel_rfl) (by kernel_rfl) (by kernel_rfl) h
  have h3 : g28_K26 (.exit 0) (puts 52 ((g28_l12_cs u0) ++ sputs [(3, .i .u32), (4, .i .i64)] t)) w' = g28_l12_x0 u0 t w' := by kernel_rfl
  exact h1.trans (h2.trans h3)

/-! 29: penstock/codec.NewReader (b: []uint8) -/
def g29_ann : List (List Nat × List Nat) := []

noncomputable def g29 (u0 : Option Addr × Nat × Nat) (w0 : World) : Option (Value × World) :=
(callB Try.prog .append #[22, 22] 22 #[true, false] #[.slice none 0 0, .slice u0.1 u0.2.1 u0.2.2] w0).bind fun r1 =>
(asSl r1.1).bind fun q2 =>
some (.pointer (some (⟨r1.2.heap.size, 0, none⟩)), (World.alloc r1.2 (.cells #[.slice q2.1 q2.2.1 q2.2.2, .int .i64 0, .int .i64 0] 88)))

theorem g29_eq (u0 : Option Addr × Nat × Nat) (w0 : World) : evFn Try.prog 29 g29_ann #[.slice u0.1 u0.2.1 u0.2.2] w0 = g29 u0 w0 := by kernel_rfl

theorem g29_call {u0 : Option Addr × Nat × Nat} {w0 : World} {r : Value × World} (h : g29 u0 w0 = some r) : callF Try.prog 29 #[.slice u0.1 u0.2.1 u0.2.2] w0 = some r :=
  callF_of_evFn (ann := g29_ann) Try.call29 (by kernel_rfl) ((g29_eq u0 w0).trans h)

/-! 30: (*penstock/codec.Reader).Fixed (r: *codec.Reader) -/
def g30_ann : List (List Nat × List Nat) := []

noncomputable def g30 (u0 : Option Addr) (w0 : World) : Option (Value × World) :=
if (u0.isNone) = true then
(some (.int .u32 0, w0))
else
(u0.bind fun a1 =>
(World.cell? w0 (Addr.add a1 2)).bind fun v2 =>
(asI .i64 v2).bind fun n3 =>
if ((n3 : Int) != 0) = true then
(some (.int .u32 0, w0))
else
(u0.bind fun a4 =>
(World.cell? (World.drew w0) a4).bind fun v5 =>
(asSl v5).bind fun q6 =>
u0.bind fun a8 =>
(World.cell? (World.drew w0) (Addr.add a8 1)).bind fun v9 =>
(asI .i64 v9).bind fun n10 =>
if (decide (((IntKind.i64.wrap ((q6.2.1 : Int) - n10)) : Int) < 4)) = true then
((callF Try.prog 34 #[.pointer u0, .int .i64 6] (World.drew w0)).bind fun r11 =>
(asTup 0 r11.1).bind fun _ =>
some (.int .u32 0, r11.2))
else
(u0.bind fun a12 =>
(World.cell? (World.drew (World.drew w0)) a12).bind fun v13 =>
(asSl v13).bind fun q14 =>
u0.bind fun a15 =>
(World.cell? (World.drew (World.drew w0)) (Addr.add a15 1)).bind fun v16 =>
(asI .i64 v16).bind fun n17 =>
(slc q14.1 q14.2.1 q14.2.2 1 (some n17) none none).bind fun q18 =>
u0.bind fun a19 =>
(World.cell? (World.drew (World.drew w0)) (Addr.add a19 1)).bind fun v20 =>
(asI .i64 v20).bind fun n21 =>
u0.bind fun a22 =>
(st1 (World.drew (World.drew w0)) (Addr.add a22 1) (.int .i64 (IntKind.i64.wrap (n21 + 4)))).bind fun w23 =>
(idxA q18.1 q18.2.1 1 0).bind fun a24 =>
(World.cell? (World.drew w23) a24).bind fun v25 =>
(asI .u8 v25).bind fun n26 =>
(idxA q18.1 q18.2.1 1 1).bind fun a27 =>
(World.cell? (World.drew w23) a27).bind fun v28 =>
(asI .u8 v28).bind fun n29 =>
(idxA q18.1 q18.2.1 1 2).bind fun a30 =>
(World.cell? (World.drew w23) a30).bind fun v31 =>
(asI .u8 v31).bind fun n32 =>
(idxA q18.1 q18.2.1 1 3).bind fun a33 =>
(World.cell? (World.drew w23) a33).bind fun v34 =>
(asI .u8 v34).bind fun n35 =>
some (.int .u32 (IntKind.u32.wrap ((BitVec.ofInt 32 (IntKind.u32.wrap ((BitVec.ofInt 32 (IntKind.u32.wrap ((BitVec.ofInt 32 (IntKind.u32.wrap n26) ||| BitVec.ofInt 32 (IntKind.u32.wrap ((IntKind.u32.wrap n29) * 2 ^ (min (Int.toNat 8) 32)))).toNat : Nat)) ||| BitVec.ofInt 32 (IntKind.u32.wrap ((IntKind.u32.wrap n32) * 2 ^ (min (Int.toNat 16) 32)))).toNat : Nat)) ||| BitVec.ofInt 32 (IntKind.u32.wrap ((IntKind.u32.wrap n35) * 2 ^ (min (Int.toNat 24) 32)))).toNat : Nat)), (World.drew w23)))))

theorem g30_eq (u0 : Option Addr) (w0 : World) : evFn Try.prog 30 g30_ann #[.pointer u0] w0 = g30 u0 w0 := by kernel_rfl

theorem g30_call {u0 : Option Addr} {w0 : World} {r : Value × World} (h : g30 u0 w0 = some r) : callF Try.prog 30 #[.pointer u0] w0 = some r :=
  callF_of_evFn (ann := g30_ann) Try.call30 (by kernel_rfl) ((g30_eq u0 w0).trans h)

/-! 31: (*penstock/codec.Reader).State (r: *codec.Reader) -/
def g31_ann : List (List Nat × List Nat) := []

noncomputable def g31 (u0 : Option Addr) (w0 : World) : Option (Value × World) :=
if (u0.isNone) = true then
(some (.tuple #[.int .i64 0, .int .i64 0, .int .i64 5], w0))
else
(u0.bind fun a1 =>
(World.cell? (World.drew w0) (Addr.add a1 1)).bind fun v2 =>
(asI .i64 v2).bind fun n3 =>
u0.bind fun a4 =>
(World.cell? (World.drew w0) a4).bind fun v5 =>
(asSl v5).bind fun q6 =>
u0.bind fun a8 =>
(World.cell? (World.drew w0) (Addr.add a8 1)).bind fun v9 =>
(asI .i64 v9).bind fun n10 =>
u0.bind fun a11 =>
(World.cell? (World.drew w0) (Addr.add a11 2)).bind fun v12 =>
(asI .i64 v12).bind fun n13 =>
some (.tuple #[.int .i64 n3, .int .i64 (IntKind.i64.wrap ((q6.2.1 : Int) - n10)), .int .i64 n13], (World.drew w0)))

theorem g31_eq (u0 : Option Addr) (w0 : World) : evFn Try.prog 31 g31_ann #[.pointer u0] w0 = g31 u0 w0 := by kernel_rfl

theorem g31_call {u0 : Option Addr} {w0 : World} {r : Value × World} (h : g31 u0 w0 = some r) : callF Try.prog 31 #[.pointer u0] w0 = some r :=
  callF_of_evFn (ann := g31_ann) Try.call31 (by kernel_rfl) ((g31_eq u0 w0).trans h)

/-! 32: (*penstock/crc.Table).More (t: *crc.Table, sum: uint32, b: []uint8) -/
def g32_ann : List (List Nat × List Nat) := [([0, 1, 0, 1, 1, 1, 1], [0, 20, 21, 7, 22])]

def g32_l4_cs (u0 : Option Addr) (u2 : Option Addr × Nat × Nat) : List (Nat × Value) := ([(0, .pointer u0), (20, .slice u2.1 u2.2.1 u2.2.2), (21, .int .i64 (u2.2.1 : Int))] : List (Nat × Value))

/-- the round of a loop ((*penstock/crc.Table).More) -/
noncomputable def g32_l4_b (u2 : Option Addr × Nat × Nat) (u0 : Option Addr) (s5 : Int × Int) (w6 : World) : Option (Exit × (Int × Int) × World) :=
if (decide ((s5.2 : Int) < (u2.2.1 : Int))) = true then
((idxA u2.1 u2.2.1 1 s5.2).bind fun a7 =>
(World.cell? w6 a7).bind fun v8 =>
(asI .u8 v8).bind fun n9 =>
u0.bind fun a10 =>
(idxA (some (Addr.add a10 3)) 256 1 (IntKind.u8.wrap ((BitVec.ofInt 8 (IntKind.u8.wrap s5.1) ^^^ BitVec.ofInt 8 n9).toNat : Nat))).bind fun a11 =>
(World.cell? w6 a11).bind fun v12 =>
(asI .u32 v12).bind fun n13 =>
some (.normal, ((IntKind.u32.wrap ((BitVec.ofInt 32 n13 ^^^ BitVec.ofInt 32 (Int.fdiv s5.1 (2 ^ (min (Int.toNat 8) 32)))).toNat : Nat)), (IntKind.i64.wrap (s5.2 + 1))), w6))
else
(some ((.exit 0), (s5.1, s5.2), w6))

noncomputable def g32_K14  : Exit → Env → World → Option (Value × World) :=
  retK Try.prog Try.f32.results.toList

noncomputable def g32_K15  : Exit → Env → World → Option (Value × World) :=
  seqK (ev Try.prog 41 32 g32_ann (cAt [1, 1, 1, 1, 1] (bodyOf Try.f32)) [1, 1, 1, 1, 1] g32_K14) g32_K14

noncomputable def g32_K16  : Exit → Env → World → Option (Value × World) :=
  blkK 0 g32_K15

/-- the loop, from a state on -/
noncomputable def g32_l4 (u0 : Option Addr) (u2 : Option Addr × Nat × Nat) (s : Int × Int) (w : World) : Option (Value × World) :=
  loopM Try.prog 41 32 g32_ann (cAt [1, 1, 1, 1, 0, 1, 0, 0] (bodyOf Try.f32)) [0, 1, 0, 1, 1, 1, 1] g32_K16 ((g32_l4_cs u0 u2) ++ sputs [(7, .i .u32), (22, .i .i64)] s) w

/-- behind the loop, left by x0 -/
noncomputable def g32_l4_x0  (t17 : Int × Int) (w18 : World) : Option (Value × World) :=
some (.int .u32 (IntKind.u32.wrap ((BitVec.ofInt 32 IntKind.u32.max ^^^ BitVec.ofInt 32 t17.1).toNat : Nat)), w18)

noncomputable def g32 (u0 : Option Addr) (u1 : Int) (u2 : Option Addr × Nat × Nat) (w0 : World) : Option (Value × World) :=
if (u0.isNone) = true then
(some (.int .u32 0, w0))
else
(u0.bind fun a1 =>
(callF Try.prog 35 #[.pointer (some a1), .func (.func 36) #[.pointer u0] #[]] w0).bind fun r2 =>
(asTup 0 r2.1).bind fun _ =>
g32_l4 u0 u2 ((IntKind.u32.wrap ((BitVec.ofInt 32 IntKind.u32.max ^^^ BitVec.ofInt 32 u1).toNat : Nat)), 0) r2.2)

theorem g32_eq (u0 : Option Addr) (u1 : Int) (u2 : Option Addr × Nat × Nat) (w0 : World) : evFn Try.prog 32 g32_ann #[.pointer u0, .int .u32 u1, .slice u2.1 u2.2.1 u2.2.2] w0 = g32 u0 u1 u2 w0 := by kernel_rfl

theorem g32_call {u0 : Option Addr} {u1 : Int} {u2 : Option Addr × Nat × Nat} {w0 : World} {r : Value × World} (h : g32 u0 u1 u2 w0 = some r) : callF Try.prog 32 #[.pointer u0, .int .u32 u1, .slice u2.1 u2.2.1 u2.2.2] w0 = some r :=
  callF_of_evFn (ann := g32_ann) Try.call32 (by kernel_rfl) ((g32_eq u0 u1 u2 w0).trans h)

theorem g32_l4_x0_of {u0 : Option Addr} {u2 : Option Addr × Nat × Nat} {s t : Int × Int} {w w' : World} (h : loopS (g32_l4_b u2 u0) s w = some (.exit 0, t, w')) : g32_l4 u0 u2 s w = g32_l4_x0 t w' := by
  have h1 : g32_l4 u0 u2 s w = loopM Try.prog 41 32 g32_ann (cAt [1, 1, 1, 1, 0, 1, 0, 0] (bodyOf Try.f32)) [0, 1, 0, 1, 1, 1, 1] g32_K16 ((g32_l4_cs u0 u2) ++ sputs [(7, .i .u32), (22, .i .i64)] s) w := by kernel_rfl
  have h2 : loopM Try.prog 41 32 g32_ann (cAt [1, 1, 1, 1, 0, 1, 0, 0] (bodyOf Try.f32)) [0, 1, 0, 1, 1, 1, 1] g32_K16 ((g32_l4_cs u0 u2) ++ sputs [(7, .i .u32), (22, .i .i64)] s) w = g32_K16 (.exit 0) (puts 41 ((g32_l4_cs u0 u2) ++ sputs [(7, .i .u32), (22, .i .i64)] t)) w' :=
    loop_rule (P := Try.prog) (N := 41) (f := 32) (ann := g32_ann) (body := (cAt [1, 1, 1, 1, 0, 1, 0, 0] (bodyOf Try.f32))) (pt := [0, 1, 0, 1, 1, 1, 1]) (K := g32_K16) (g32_l4_cs u0 u2) [(7, .i .u32), (22, .i .i64)] (b := g32_l4_b u2 u0) (fun s w => by kernel_rfl) (by kernel_rfl) (by kernel_rfl) (by kernel_rfl) h
  have h3 : g32_K16 (.exit 0) (puts 41 ((g32_l4_cs u0 u2) ++ sputs [(7, .i .u32), (22, .i .i64)] t)) w' = g32_l4_x0 t w' := by kernel_rfl
  exact h1.trans (h2.trans h3)

/-! 33: (*penstock/penstockref03.Reader).fail (r: *penstockref03.Reader, e: int) -/
def g33_ann : List (List Nat × List Nat) := []

noncomputable def g33 (u0 : Option Addr) (u1 : Int) (w0 : World) : Option (Value × World) :=
u0.bind fun a1 =>
(World.cell? w0 (Addr.add a1 2)).bind fun v2 =>
(asI .i64 v2).bind fun n3 =>
if ((n3 : Int) == 0) = true then
(u0.bind fun a4 =>
(st1 w0 (Addr.add a4 2) (.int .i64 u1)).bind fun w5 =>
some (.tuple #[], w5))
else
(some (.tuple #[], w0))

theorem g33_eq (u0 : Option Addr) (u1 : Int) (w0 : World) : evFn Try.prog 33 g33_ann #[.pointer u0, .int .i64 u1] w0 = g33 u0 u1 w0 := by kernel_rfl

theorem g33_call {u0 : Option Addr} {u1 : Int} {w0 : World} {r : Value × World} (h : g33 u0 u1 w0 = some r) : callF Try.prog 33 #[.pointer u0, .int .i64 u1] w0 = some r :=
  callF_of_evFn (ann := g33_ann) Try.call33 (by kernel_rfl) ((g33_eq u0 u1 w0).trans h)

/-! 34: (*penstock/codec.Reader).fail (r: *codec.Reader, e: api.Errno) -/
def g34_ann : List (List Nat × List Nat) := []

noncomputable def g34 (u0 : Option Addr) (u1 : Int) (w0 : World) : Option (Value × World) :=
u0.bind fun a1 =>
(World.cell? w0 (Addr.add a1 2)).bind fun v2 =>
(asI .i64 v2).bind fun n3 =>
if ((n3 : Int) == 0) = true then
(u0.bind fun a4 =>
(st1 w0 (Addr.add a4 2) (.int .i64 u1)).bind fun w5 =>
some (.tuple #[], w5))
else
(some (.tuple #[], w0))

theorem g34_eq (u0 : Option Addr) (u1 : Int) (w0 : World) : evFn Try.prog 34 g34_ann #[.pointer u0, .int .i64 u1] w0 = g34 u0 u1 w0 := by kernel_rfl

theorem g34_call {u0 : Option Addr} {u1 : Int} {w0 : World} {r : Value × World} (h : g34 u0 u1 w0 = some r) : callF Try.prog 34 #[.pointer u0, .int .i64 u1] w0 = some r :=
  callF_of_evFn (ann := g34_ann) Try.call34 (by kernel_rfl) ((g34_eq u0 u1 w0).trans h)

/-! 35: (*sync.Once).Do (o: *sync.Once, f: func()) -/
def g35_ann : List (List Nat × List Nat) := []

noncomputable def g35 (u0 : Option Addr) (u1 : Value) (w0 : World) : Option (Value × World) :=
u0.bind fun a1 =>
(callF Try.prog 37 #[.pointer (some a1)] w0).bind fun r2 =>
(asB r2.1).bind fun b3 =>
if (!b3) = true then
((callF Try.prog 38 #[.pointer u0, u1] r2.2).bind fun r4 =>
(asTup 0 r4.1).bind fun _ =>
some (.tuple #[], r4.2))
else
(some (.tuple #[], r2.2))

theorem g35_eq (u0 : Option Addr) (u1 : Value) (w0 : World) : evFn Try.prog 35 g35_ann #[.pointer u0, u1] w0 = g35 u0 u1 w0 := by kernel_rfl

theorem g35_call {u0 : Option Addr} {u1 : Value} {w0 : World} {r : Value × World} (h : g35 u0 u1 w0 = some r) : callF Try.prog 35 #[.pointer u0, u1] w0 = some r :=
  callF_of_evFn (ann := g35_ann) Try.call35 (by kernel_rfl) ((g35_eq u0 u1 w0).trans h)

/-! 36: (*penstock/crc.Table).fill (t: *crc.Table) -/
def g36_ann : List (List Nat × List Nat) := [([0, 1], [0, 4]), ([0, 1, 0, 1, 1, 0, 0, 1, 1, 0, 0, 1], [0, 2, 4, 3, 9])]

def g36_l1_cs (u0 : Option Addr) : List (Nat × Value) := ([(0, .pointer u0)] : List (Nat × Value))

def g36_l4_cs (u0 : Option Addr) (s2 : Int) : List (Nat × Value) := ([(0, .pointer u0), (2, .int .i64 s2), (4, .int .i64 s2)] : List (Nat × Value))

/-- the round of a loop ((*penstock/crc.Table).fill) -/
noncomputable def g36_l4_b (u0 : Option Addr) (s2 : Int) (s5 : Int × Int) (w6 : World) : Option (Exit × (Int × Int) × World) :=
if (decide ((s5.2 : Int) < 8)) = true then
(if (((IntKind.u32.wrap ((BitVec.ofInt 32 s5.1 &&& BitVec.ofInt 32 1).toNat : Nat)) : Int) == 1) = true then
(some (.normal, ((IntKind.u32.wrap ((BitVec.ofInt 32 (Int.fdiv s5.1 (2 ^ (min (Int.toNat 1) 32))) ^^^ BitVec.ofInt 32 2197175160).toNat : Nat)), (IntKind.i64.wrap (s5.2 + 1))), w6))
else
(some (.normal, ((Int.fdiv s5.1 (2 ^ (min (Int.toNat 1) 32))), (IntKind.i64.wrap (s5.2 + 1))), w6)))
else
(some ((.exit 2), (s5.1, s5.2), w6))

noncomputable def g36_K7 (u0 : Option Addr) : Exit → Env → World → Option (Exit × (Int) × World) :=
  fun e ρ w => ((List.map (·.1) (g36_l1_cs u0)).mapM ρ).bind fun _ => loopK [(4, .i .i64)] e ρ w

noncomputable def g36_K8 (u0 : Option Addr) : Exit → Env → World → Option (Exit × (Int) × World) :=
  seqK (ev Try.prog 27 36 g36_ann (cAt [1, 0, 0, 1, 1, 1] (bodyOf Try.f36)) [1, 1, 1, 0, 0, 1] (g36_K7 u0)) (g36_K7 u0)

noncomputable def g36_K9 (u0 : Option Addr) : Exit → Env → World → Option (Exit × (Int) × World) :=
  blkK 1 (g36_K8 u0)

noncomputable def g36_K10 (u0 : Option Addr) : Exit → Env → World → Option (Exit × (Int) × World) :=
  seqK (ev Try.prog 27 36 g36_ann (cAt [1, 0, 0, 1, 1, 0, 0, 1, 1, 1] (bodyOf Try.f36)) [1, 1, 1, 0, 0, 1, 1, 0, 0, 1] (g36_K9 u0)) (g36_K9 u0)

noncomputable def g36_K11 (u0 : Option Addr) : Exit → Env → World → Option (Exit × (Int) × World) :=
  blkK 2 (g36_K10 u0)

/-- the loop, from a state on -/
noncomputable def g36_l4 (u0 : Option Addr) (s2 : Int) (s : Int × Int) (w : World) : Option (Exit × (Int) × World) :=
  loopM Try.prog 27 36 g36_ann (cAt [1, 0, 0, 1, 1, 0, 0, 1, 1, 0, 1, 0, 0] (bodyOf Try.f36)) [0, 1, 0, 1, 1, 0, 0, 1, 1, 0, 0, 1] (g36_K11 u0) ((g36_l4_cs u0 s2) ++ sputs [(3, .i .u32), (9, .i .i64)] s) w

/-- behind the loop, left by x2 -/
noncomputable def g36_l4_x2 (u0 : Option Addr) (s2 : Int) (t12 : Int × Int) (w13 : World) : Option (Exit × (Int) × World) :=
u0.bind fun a14 =>
(idxA (some (Addr.add a14 3)) 256 1 s2).bind fun a15 =>
(st1 w13 a15 (.int .u32 t12.1)).bind fun w16 =>
some (.normal, (IntKind.i64.wrap (s2 + 1)), w16)

/-- the round of a loop ((*penstock/crc.Table).fill) -/
noncomputable def g36_l1_b (u0 : Option Addr) (s2 : Int) (w3 : World) : Option (Exit × (Int) × World) :=
if (decide ((s2 : Int) < 256)) = true then
(g36_l4 u0 s2 ((IntKind.u32.wrap s2), 0) w3)
else
(some ((.exit 0), s2, w3))

noncomputable def g36_K17  : Exit → Env → World → Option (Value × World) :=
  retK Try.prog Try.f36.results.toList

noncomputable def g36_K18  : Exit → Env → World → Option (Value × World) :=
  blkK 0 g36_K17

/-- the loop, from a state on -/
noncomputable def g36_l1 (u0 : Option Addr) (s : Int) (w : World) : Option (Value × World) :=
  loopM Try.prog 27 36 g36_ann (cAt [1, 0, 0] (bodyOf Try.f36)) [0, 1] g36_K18 ((g36_l1_cs u0) ++ sputs [(4, .i .i64)] s) w

/-- behind the loop, left by x0 -/
noncomputable def g36_l1_x0  (t19 : Int) (w20 : World) : Option (Value × World) :=
some (.tuple #[], w20)

noncomputable def g36 (u0 : Option Addr) (w0 : World) : Option (Value × World) :=
g36_l1 u0 0 w0

theorem g36_eq (u0 : Option Addr) (w0 : World) : evFn Try.prog 36 g36_ann #[.pointer u0] w0 = g36 u0 w0 := by kernel_rfl

theorem g36_call {u0 : Option Addr} {w0 : World} {r : Value × World} (h : g36 u0 w0 = some r) : callF Try.prog 36 #[.pointer u0] w0 = some r :=
  callF_of_evFn (ann := g36_ann) Try.call36 (by kernel_rfl) ((g36_eq u0 w0).trans h)

theorem g36_l4_x2_of {u0 : Option Addr} {s2 : Int} {s t : Int × Int} {w w' : World} (h : loopS (g36_l4_b u0 s2) s w = some (.exit 2, t, w')) : g36_l4 u0 s2 s w = g36_l4_x2 u0 s2 t w' := by
  have h1 : g36_l4 u0 s2 s w = loopM Try.prog 27 36 g36_ann (cAt [1, 0, 0, 1, 1, 0, 0, 1, 1, 0, 1, 0, 0] (bodyOf Try.f36)) [0, 1, 0, 1, 1, 0, 0, 1, 1, 0, 0, 1] (g36_K11 u0) ((g36_l4_cs u0 s2) ++ sputs [(3, .i .u32), (9, .i .i64)] s) w := by kernel_rfl
  have h2 : loopM Try.prog 27 36 g36_ann (cAt [1, 0, 0, 1, 1, 0, 0, 1, 1, 0, 1, 0, 0] (bodyOf Try.f36)) [0, 1, 0, 1, 1, 0, 0, 1, 1, 0, 0, 1] (g36_K11 u0) ((g36_l4_cs u0 s2) ++ sputs [(3, .i .u32), (9, .i .i64)] s) w = (g36_K11 u0) (.exit 2) (puts 27 ((g36_l4_cs u0 s2) ++ sputs [(3, .i .u32), (9, .i .i64)] t)) w' :=
    loop_rule (P := Try.prog) (N := 27) (f := 36) (ann := g36_ann) (body := (cAt [1, 0, 0, 1, 1, 0, 0, 1, 1, 0, 1, 0, 0] (bodyOf Try.f36))) (pt := [0, 1, 0, 1, 1, 0, 0, 1, 1, 0, 0, 1]) (K := (g36_K11 u0)) (g36_l4_cs u0 s2) [(3, .i .u32), (9, .i .i64)] (b := g36_l4_b u0 s2) (fun s w => by kernel_rfl) (by kernel_rfl) (by kernel_rfl) (by kernel_rfl) h
  have h3 : (g36_K11 u0) (.exit 2) (puts 27 ((g36_l4_cs u0 s2) ++ sputs [(3, .i .u32), (9, .i .i64)] t)) w' = g36_l4_x2 u0 s2 t w' := by kernel_rfl
  exact h1.trans (h2.trans h3)

theorem g36_l1_x0_of {u0 : Option Addr} {s t : Int} {w w' : World} (h : loopS (g36_l1_b u0) s w = some (.exit 0, t, w')) : g36_l1 u0 s w = g36_l1_x0 t w' := by
  have h1 : g36_l1 u0 s w = loopM Try.prog 27 36 g36_ann (cAt [1, 0, 0] (bodyOf Try.f36)) [0, 1] g36_K18 ((g36_l1_cs u0) ++ sputs [(4, .i .i64)] s) w := by kernel_rfl
  have h2 : loopM Try.prog 27 36 g36_ann (cAt [1, 0, 0] (bodyOf Try.f36)) [0, 1] g36_K18 ((g36_l1_cs u0) ++ sputs [(4, .i .i64)] s) w = g36_K18 (.exit 0) (puts 27 ((g36_l1_cs u0) ++ sputs [(4, .i .i64)] t)) w' :=
    loop_rule (P := Try.prog) (N := 27) (f := 36) (ann := g36_ann) (body := (cAt [1, 0, 0] (bodyOf Try.f36))) (pt := [0, 1]) (K := g36_K18) (g36_l1_cs u0) [(4, .i .i64)] (b := g36_l1_b u0) (fun s w => by kernel_rfl) (by kernel_rfl) (by kernel_rfl) (by kernel_rfl) h
  have h3 : g36_K18 (.exit 0) (puts 27 ((g36_l1_cs u0) ++ sputs [(4, .i .i64)] t)) w' = g36_l1_x0 t w' := by kernel_rfl
  exact h1.trans (h2.trans h3)

/-! 37: (*sync/atomic.Bool).Load (x: *atomic.Bool) -/
def g37_ann : List (List Nat × List Nat) := []

noncomputable def g37 (u0 : Option Addr) (w0 : World) : Option (Value × World) :=
u0.bind fun a1 =>
(callF Try.prog 39 #[.pointer (some a1)] w0).bind fun r2 =>
(asI .u32 r2.1).bind fun n3 =>
some (.bool ((n3 : Int) != 0), r2.2)

theorem g37_eq (u0 : Option Addr) (w0 : World) : evFn Try.prog 37 g37_ann #[.pointer u0] w0 = g37 u0 w0 := by kernel_rfl

theorem g37_call {u0 : Option Addr} {w0 : World} {r : Value × World} (h : g37 u0 w0 = some r) : callF Try.prog 37 #[.pointer u0] w0 = some r :=
  callF_of_evFn (ann := g37_ann) Try.call37 (by kernel_rfl) ((g37_eq u0 w0).trans h)

end Go.Proofs.Yteekaakkaogpeaa
