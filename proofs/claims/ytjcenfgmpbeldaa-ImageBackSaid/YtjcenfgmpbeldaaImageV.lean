/-
  ImageV: lemmas on what Go functions of this seat come to (for whatever arguments, as each says). No condition but those that stand in each lemma.
-/
import Derived.Test.YtjcenfgmpbeldaaLb9
import Derived.Test.YtjcenfgmpbeldaaProg
namespace Go.Proofs.Ytjcenfgmpbeldaa
open Go Go.Ev
set_option maxRecDepth 100000
set_option linter.unusedVariables false
/-! 25: penstock/penstockref13.DocEncode (c: api.Cmd) -/
/-! 26: penstock/penstockref13.DocDecode (text: []uint8) -/
/-! 27: penstock/image.Encode (c: api.Cmd) -/
/-! 28: penstock/penstockref03.Same (a: []uint8, b: []uint8) -/
def g28_ann : List (List Nat × List Nat) := [([0, 1, 0, 1, 1], [0, 1, 4, 5])]

def g28_l3_cs (u0 : Option Addr × Nat × Nat) (u1 : Option Addr × Nat × Nat) : List (Nat × Value) := ([(0, .slice u0.1 u0.2.1 u0.2.2), (1, .slice u1.1 u1.2.1 u1.2.2)] : List (Nat × Value))

/-- the round of a loop (penstock/penstockref03.Same) -/
noncomputable def g28_l3_b (u0 : Option Addr × Nat × Nat) (u1 : Option Addr × Nat × Nat) (s4 : Bool × Int) (w5 : World) : Option (Exit × (Bool × Int) × World) :=
if (decide ((s4.2 : Int) < (u0.2.1 : Int))) = true then
((idxA u0.1 u0.2.1 1 s4.2).bind fun a7 =>
(World.cell? (World.drew w5) a7).bind fun v8 =>
(asI .u8 v8).bind fun n9 =>
(idxA u1.1 u1.2.1 1 s4.2).bind fun a10 =>
(World.cell? (World.drew w5) a10).bind fun v11 =>
(asI .u8 v11).bind fun n12 =>
if ((n9 : Int) != n12) = true then
(some (.ret, (false, s4.2), (World.drew w5)))
else
(some (.normal, (s4.1, (IntKind.i64.wrap (s4.2 + 1))), (World.drew w5))))
else
(some ((.exit 0), (s4.1, s4.2), w5))

noncomputable def g28_K13  : Exit → Env → World → Option (Value × World) :=
  retK Try.prog Try.f28.results.toList

noncomputable def g28_K14  : Exit → Env → World → Option (Value × World) :=
  seqK (ev Try.prog 26 28 g28_ann (cAt [1, 1, 1] (bodyOf Try.f28)) [1, 1, 1] g28_K13) g28_K13

noncomputable def g28_K15  : Exit → Env → World → Option (Value × World) :=
  blkK 0 g28_K14

/-- the loop, from a state on -/
noncomputable def g28_l3 (u0 : Option Addr × Nat × Nat) (u1 : Option Addr × Nat × Nat) (s : Bool × Int) (w : World) : Option (Value × World) :=
  loopM Try.prog 26 28 g28_ann (cAt [1, 1, 0, 1, 0, 0] (bodyOf Try.f28)) [0, 1, 0, 1, 1] g28_K15 ((g28_l3_cs u0 u1) ++ sputs [(4, .b), (5, .i .i64)] s) w

/-- behind the loop, left by x0 -/
noncomputable def g28_l3_x0  (t16 : Bool × Int) (w17 : World) : Option (Value × World) :=
some (.bool true, w17)

noncomputable def g28 (u0 : Option Addr × Nat × Nat) (u1 : Option Addr × Nat × Nat) (w0 : World) : Option (Value × World) :=
if (((u0.2.1 : Int) : Int) != (u1.2.1 : Int)) = true then
(some (.bool false, w0))
else
(g28_l3 u0 u1 (false, 0) w0)

theorem g28_eq (u0 : Option Addr × Nat × Nat) (u1 : Option Addr × Nat × Nat) (w0 : World) : evFn Try.prog 28 g28_ann #[.slice u0.1 u0.2.1 u0.2.2, .slice u1.1 u1.2.1 u1.2.2] w0 = g28 u0 u1 w0 := by kernel_rfl

theorem g28_call {u0 : Option Addr × Nat × Nat} {u1 : Option Addr × Nat × Nat} {w0 : World} {r : Value × World} (h : g28 u0 u1 w0 = some r) : callF Try.prog 28 #[.slice u0.1 u0.2.1 u0.2.2, .slice u1.1 u1.2.1 u1.2.2] w0 = some r :=
  callF_of_evFn (ann := g28_ann) Try.call28 (by kernel_rfl) ((g28_eq u0 u1 w0).trans h)

theorem g28_l3_x0_of {u0 : Option Addr × Nat × Nat} {u1 : Option Addr × Nat × Nat} {s t : Bool × Int} {w w' : World} (h : loopS (g28_l3_b u0 u1) s w = some (.exit 0, t, w')) : g28_l3 u0 u1 s w = g28_l3_x0 t w' := by
  have h1 : g28_l3 u0 u1 s w = loopM Try.prog 26 28 g28_ann (cAt [1, 1, 0, 1, 0, 0] (bodyOf Try.f28)) [0, 1, 0, 1, 1] g28_K15 ((g28_l3_cs u0 u1) ++ sputs [(4, .b), (5, .i .i64)] s) w := by kernel_rfl
  have h2 : loopM Try.prog 26 28 g28_ann (cAt [1, 1, 0, 1, 0, 0] (bodyOf Try.f28)) [0, 1, 0, 1, 1] g28_K15 ((g28_l3_cs u0 u1) ++ sputs [(4, .b), (5, .i .i64)] s) w = g28_K15 (.exit 0) (puts 26 ((g28_l3_cs u0 u1) ++ sputs [(4, .b), (5, .i .i64)] t)) w' :=
    loop_rule (P := Try.prog) (N := 26) (f := 28) (ann := g28_ann) (body := (cAt [1, 1, 0, 1, 0, 0] (bodyOf Try.f28))) (pt := [0, 1, 0, 1, 1]) (K := g28_K15) (g28_l3_cs u0 u1) [(4, .b), (5, .i .i64)] (b := g28_l3_b u0 u1) (fun s w => by kernel_rfl) (by kernel_rfl) (by kernel_rfl) (by kernel_rfl) h
  have h3 : g28_K15 (.exit 0) (puts 26 ((g28_l3_cs u0 u1) ++ sputs [(4, .b), (5, .i .i64)] t)) w' = g28_l3_x0 t w' := by kernel_rfl
  exact h1.trans (h2.trans h3)

/-! 29: penstock/penstockref13.SameCmd (a: api.Cmd, b: api.Cmd) -/
/-! 30: penstock/image.Decode (b: []uint8) -/
/-! 44: penstock/codec.NewWriter () -/
def g44_ann : List (List Nat × List Nat) := []

noncomputable def g44  (w0 : World) : Option (Value × World) :=
some (.pointer (some (⟨w0.heap.size, 0, none⟩)), (World.alloc w0 (.cells #[.slice none 0 0, .int .i64 0] 130)))

theorem g44_eq  (w0 : World) : evFn Try.prog 44 g44_ann #[] w0 = g44 w0 := by kernel_rfl

theorem g44_call  {w0 : World} {r : Value × World} (h : g44 w0 = some r) : callF Try.prog 44 #[] w0 = some r :=
  callF_of_evFn (ann := g44_ann) Try.call44 (by kernel_rfl) ((g44_eq  w0).trans h)

/-! 45: (*penstock/codec.Writer).Uint (w: *codec.Writer, n: uint64) -/
def g45_ann : List (List Nat × List Nat) := [([0, 0, 1], [0, 1])]

def g45_l1_cs (u0 : Option Addr) : List (Nat × Value) := ([(0, .pointer u0)] : List (Nat × Value))

/-- the round of a loop ((*penstock/codec.Writer).Uint) -/
noncomputable def g45_l1_b (u0 : Option Addr) (s2 : Int) (w3 : World) : Option (Exit × (Int) × World) :=
if (decide ((s2 : Int) > 127)) = true then
(u0.bind fun a4 =>
(World.cell? w3 a4).bind fun v5 =>
(asSl v5).bind fun q6 =>
(callB Try.prog .append #[43, 43] 43 #[false, false] #[.slice q6.1 q6.2.1 q6.2.2, .slice (some (⟨w3.heap.size, 0, none⟩)) 1 1] (World.alloc w3 (.cells #[.int .u8 (IntKind.u8.wrap ((BitVec.ofInt 8 (IntKind.u8.wrap s2) ||| BitVec.ofInt 8 128).toNat : Nat))] 5))).bind fun r7 =>
(asSl r7.1).bind fun q8 =>
u0.bind fun a9 =>
(st1 r7.2 a9 (.slice q8.1 q8.2.1 q8.2.2)).bind fun w10 =>
some (.normal, (Int.fdiv s2 (2 ^ (min (Int.toNat 7) 64))), w10))
else
(some ((.exit 0), s2, w3))

noncomputable def g45_K11  : Exit → Env → World → Option (Value × World) :=
  retK Try.prog Try.f45.results.toList

noncomputable def g45_K12  : Exit → Env → World → Option (Value × World) :=
  seqK (ev Try.prog 33 45 g45_ann (cAt [1, 1] (bodyOf Try.f45)) [1, 1] g45_K11) g45_K11

noncomputable def g45_K13  : Exit → Env → World → Option (Value × World) :=
  blkK 0 g45_K12

/-- the loop, from a state on -/
noncomputable def g45_l1 (u0 : Option Addr) (s : Int) (w : World) : Option (Value × World) :=
  loopM Try.prog 33 45 g45_ann (cAt [1, 0, 0, 0] (bodyOf Try.f45)) [0, 0, 1] g45_K13 ((g45_l1_cs u0) ++ sputs [(1, .i .u64)] s) w

/-- behind the loop, left by x0 -/
noncomputable def g45_l1_x0 (u0 : Option Addr) (t14 : Int) (w15 : World) : Option (Value × World) :=
u0.bind fun a16 =>
(World.cell? w15 a16).bind fun v17 =>
(asSl v17).bind fun q18 =>
(callB Try.prog .append #[43, 43] 43 #[false, false] #[.slice q18.1 q18.2.1 q18.2.2, .slice (some (⟨w15.heap.size, 0, none⟩)) 1 1] (World.alloc w15 (.cells #[.int .u8 (IntKind.u8.wrap t14)] 5))).bind fun r19 =>
(asSl r19.1).bind fun q20 =>
u0.bind fun a21 =>
(st1 r19.2 a21 (.slice q20.1 q20.2.1 q20.2.2)).bind fun w22 =>
some (.tuple #[], w22)

noncomputable def g45 (u0 : Option Addr) (u1 : Int) (w0 : World) : Option (Value × World) :=
if (u0.isNone) = true then
(some (.tuple #[], w0))
else
(g45_l1 u0 u1 w0)

theorem g45_eq (u0 : Option Addr) (u1 : Int) (w0 : World) : evFn Try.prog 45 g45_ann #[.pointer u0, .int .u64 u1] w0 = g45 u0 u1 w0 := by kernel_rfl

theorem g45_call {u0 : Option Addr} {u1 : Int} {w0 : World} {r : Value × World} (h : g45 u0 u1 w0 = some r) : callF Try.prog 45 #[.pointer u0, .int .u64 u1] w0 = some r :=
  callF_of_evFn (ann := g45_ann) Try.call45 (by kernel_rfl) ((g45_eq u0 u1 w0).trans h)

theorem g45_l1_x0_of {u0 : Option Addr} {s t : Int} {w w' : World} (h : loopS (g45_l1_b u0) s w = some (.exit 0, t, w')) : g45_l1 u0 s w = g45_l1_x0 u0 t w' := by
  have h1 : g45_l1 u0 s w = loopM Try.prog 33 45 g45_ann (cAt [1, 0, 0, 0] (bodyOf Try.f45)) [0, 0, 1] g45_K13 ((g45_l1_cs u0) ++ sputs [(1, .i .u64)] s) w := by kernel_rfl
  have h2 : loopM Try.prog 33 45 g45_ann (cAt [1, 0, 0, 0] (bodyOf Try.f45)) [0, 0, 1] g45_K13 ((g45_l1_cs u0) ++ sputs [(1, .i .u64)] s) w = g45_K13 (.exit 0) (puts 33 ((g45_l1_cs u0) ++ sputs [(1, .i .u64)] t)) w' :=
    loop_rule (P := Try.prog) (N := 33) (f := 45) (ann := g45_ann) (body := (cAt [1, 0, 0, 0] (bodyOf Try.f45))) (pt := [0, 0, 1]) (K := g45_K13) (g45_l1_cs u0) [(1, .i .u64)] (b := g45_l1_b u0) (fun s w => by kernel_rfl) (by kernel_rfl) (by kernel_rfl) (by kernel_rfl) h
  have h3 : g45_K13 (.exit 0) (puts 33 ((g45_l1_cs u0) ++ sputs [(1, .i .u64)] t)) w' = g45_l1_x0 u0 t w' := by kernel_rfl
  exact h1.trans (h2.trans h3)

/-! 46: (*penstock/codec.Writer).Flag (w: *codec.Writer, b: bool) -/
def g46_ann : List (List Nat × List Nat) := []

noncomputable def g46 (u0 : Option Addr) (u1 : Bool) (w0 : World) : Option (Value × World) :=
if u1 = true then
((callF Try.prog 45 #[.pointer u0, .int .u64 1] w0).bind fun r1 =>
(asTup 0 r1.1).bind fun _ =>
some (.tuple #[], r1.2))
else
((callF Try.prog 45 #[.pointer u0, .int .u64 0] w0).bind fun r2 =>
(asTup 0 r2.1).bind fun _ =>
some (.tuple #[], r2.2))

theorem g46_eq (u0 : Option Addr) (u1 : Bool) (w0 : World) : evFn Try.prog 46 g46_ann #[.pointer u0, .bool u1] w0 = g46 u0 u1 w0 := by kernel_rfl

theorem g46_call {u0 : Option Addr} {u1 : Bool} {w0 : World} {r : Value × World} (h : g46 u0 u1 w0 = some r) : callF Try.prog 46 #[.pointer u0, .bool u1] w0 = some r :=
  callF_of_evFn (ann := g46_ann) Try.call46 (by kernel_rfl) ((g46_eq u0 u1 w0).trans h)

/-! 47: (*penstock/codec.Writer).Int (w: *codec.Writer, n: int) -/
def g47_ann : List (List Nat × List Nat) := []

noncomputable def g47 (u0 : Option Addr) (u1 : Int) (w0 : World) : Option (Value × World) :=
(callF Try.prog 45 #[.pointer u0, .int .u64 (IntKind.u64.wrap ((BitVec.ofInt 64 (IntKind.u64.wrap ((IntKind.u64.wrap u1) * 2 ^ (min (Int.toNat 1) 64))) ^^^ BitVec.ofInt 64 (IntKind.u64.wrap (Int.fdiv u1 (2 ^ (min (Int.toNat 63) 64))))).toNat : Nat))] w0).bind fun r1 =>
(asTup 0 r1.1).bind fun _ =>
some (.tuple #[], r1.2)

theorem g47_eq (u0 : Option Addr) (u1 : Int) (w0 : World) : evFn Try.prog 47 g47_ann #[.pointer u0, .int .i64 u1] w0 = g47 u0 u1 w0 := by kernel_rfl

theorem g47_call {u0 : Option Addr} {u1 : Int} {w0 : World} {r : Value × World} (h : g47 u0 u1 w0 = some r) : callF Try.prog 47 #[.pointer u0, .int .i64 u1] w0 = some r :=
  callF_of_evFn (ann := g47_ann) Try.call47 (by kernel_rfl) ((g47_eq u0 u1 w0).trans h)

/-! 48: (*penstock/codec.Writer).Ints (w: *codec.Writer, l: []int) -/
def g48_ann : List (List Nat × List Nat) := [([0, 1, 1], [0, 11, 12, 13])]

def g48_l4_cs (u0 : Option Addr) (u1 : Option Addr × Nat × Nat) : List (Nat × Value) := ([(0, .pointer u0), (11, .slice u1.1 u1.2.1 u1.2.2), (12, .int .i64 (u1.2.1 : Int))] : List (Nat × Value))

/-- the round of a loop ((*penstock/codec.Writer).Ints) -/
noncomputable def g48_l4_b (u1 : Option Addr × Nat × Nat) (u0 : Option Addr) (s5 : Int) (w6 : World) : Option (Exit × (Int) × World) :=
if (decide ((s5 : Int) < (u1.2.1 : Int))) = true then
((idxA u1.1 u1.2.1 1 s5).bind fun a7 =>
(World.cell? w6 a7).bind fun v8 =>
(asI .i64 v8).bind fun n9 =>
(callF Try.prog 47 #[.pointer u0, .int .i64 n9] w6).bind fun r10 =>
(asTup 0 r10.1).bind fun _ =>
some (.normal, (IntKind.i64.wrap (s5 + 1)), r10.2))
else
(some ((.exit 0), s5, w6))

noncomputable def g48_K11  : Exit → Env → World → Option (Value × World) :=
  retK Try.prog Try.f48.results.toList

noncomputable def g48_K12  : Exit → Env → World → Option (Value × World) :=
  blkK 0 g48_K11

/-- the loop, from a state on -/
noncomputable def g48_l4 (u0 : Option Addr) (u1 : Option Addr × Nat × Nat) (s : Int) (w : World) : Option (Value × World) :=
  loopM Try.prog 21 48 g48_ann (cAt [1, 1, 0, 0] (bodyOf Try.f48)) [0, 1, 1] g48_K12 ((g48_l4_cs u0 u1) ++ sputs [(13, .i .i64)] s) w

/-- behind the loop, left by x0 -/
noncomputable def g48_l4_x0  (t13 : Int) (w14 : World) : Option (Value × World) :=
some (.tuple #[], w14)

noncomputable def g48 (u0 : Option Addr) (u1 : Option Addr × Nat × Nat) (w0 : World) : Option (Value × World) :=
(callF Try.prog 45 #[.pointer u0, .int .u64 (IntKind.u64.wrap (u1.2.1 : Int))] w0).bind fun r2 =>
(asTup 0 r2.1).bind fun _ =>
g48_l4 u0 u1 0 r2.2

theorem g48_eq (u0 : Option Addr) (u1 : Option Addr × Nat × Nat) (w0 : World) : evFn Try.prog 48 g48_ann #[.pointer u0, .slice u1.1 u1.2.1 u1.2.2] w0 = g48 u0 u1 w0 := by kernel_rfl

theorem g48_call {u0 : Option Addr} {u1 : Option Addr × Nat × Nat} {w0 : World} {r : Value × World} (h : g48 u0 u1 w0 = some r) : callF Try.prog 48 #[.pointer u0, .slice u1.1 u1.2.1 u1.2.2] w0 = some r :=
  callF_of_evFn (ann := g48_ann) Try.call48 (by kernel_rfl) ((g48_eq u0 u1 w0).trans h)

theorem g48_l4_x0_of {u0 : Option Addr} {u1 : Option Addr × Nat × Nat} {s t : Int} {w w' : World} (h : loopS (g48_l4_b u1 u0) s w = some (.exit 0, t, w')) : g48_l4 u0 u1 s w = g48_l4_x0 t w' := by
  have h1 : g48_l4 u0 u1 s w = loopM Try.prog 21 48 g48_ann (cAt [1, 1, 0, 0] (bodyOf Try.f48)) [0, 1, 1] g48_K12 ((g48_l4_cs u0 u1) ++ sputs [(13, .i .i64)] s) w := by kernel_rfl
  have h2 : loopM Try.prog 21 48 g48_ann (cAt [1, 1, 0, 0] (bodyOf Try.f48)) [0, 1, 1] g48_K12 ((g48_l4_cs u0 u1) ++ sputs [(13, .i .i64)] s) w = g48_K12 (.exit 0) (puts 21 ((g48_l4_cs u0 u1) ++ sputs [(13, .i .i64)] t)) w' :=
    loop_rule (P := Try.prog) (N := 21) (f := 48) (ann := g48_ann) (body := (cAt [1, 1, 0, 0] (bodyOf Try.f48))) (pt := [0, 1, 1]) (K := g48_K12) (g48_l4_cs u0 u1) [(13, .i .i64)] (b := g48_l4_b u1 u0) (fun s w => by kernel_rfl) (by kernel_rfl) (by kernel_rfl) (by kernel_rfl) h
  have h3 : g48_K12 (.exit 0) (puts 21 ((g48_l4_cs u0 u1) ++ sputs [(13, .i .i64)] t)) w' = g48_l4_x0 t w' := by kernel_rfl
  exact h1.trans (h2.trans h3)

/-! 49: (*penstock/codec.Writer).Out (w: *codec.Writer) -/
def g49_ann : List (List Nat × List Nat) := []

noncomputable def g49 (u0 : Option Addr) (w0 : World) : Option (Value × World) :=
if (u0.isNone) = true then
(some (.tuple #[.slice none 0 0, .int .i64 5], w0))
else
(u0.bind fun a1 =>
(World.cell? w0 (Addr.add a1 1)).bind fun v2 =>
(asI .i64 v2).bind fun n3 =>
if ((n3 : Int) != 0) = true then
(u0.bind fun a4 =>
(World.cell? (World.drew w0) (Addr.add a4 1)).bind fun v5 =>
(asI .i64 v5).bind fun n6 =>
some (.tuple #[.slice none 0 0, .int .i64 n6], (World.drew w0)))
else
(u0.bind fun a7 =>
(World.cell? w0 a7).bind fun v8 =>
(asSl v8).bind fun q9 =>
(callB Try.prog .append #[43, 43] 43 #[true, false] #[.slice none 0 0, .slice q9.1 q9.2.1 q9.2.2] w0).bind fun r10 =>
(asSl r10.1).bind fun q11 =>
some (.tuple #[.slice q11.1 q11.2.1 q11.2.2, .int .i64 0], r10.2)))

theorem g49_eq (u0 : Option Addr) (w0 : World) : evFn Try.prog 49 g49_ann #[.pointer u0] w0 = g49 u0 w0 := by kernel_rfl

theorem g49_call {u0 : Option Addr} {w0 : World} {r : Value × World} (h : g49 u0 w0 = some r) : callF Try.prog 49 #[.pointer u0] w0 = some r :=
  callF_of_evFn (ann := g49_ann) Try.call49 (by kernel_rfl) ((g49_eq u0 w0).trans h)

/-! 50: penstock/penstockref03.Int (n: int) -/
def g50_ann : List (List Nat × List Nat) := []

noncomputable def g50 (u0 : Int) (w0 : World) : Option (Value × World) :=
(callF Try.prog 79 #[.int .i64 u0] w0).bind fun r1 =>
(asI .u64 r1.1).bind fun n2 =>
(callF Try.prog 65 #[.int .u64 n2] r1.2).bind fun r3 =>
(asSl r3.1).bind fun q4 =>
some (.slice q4.1 q4.2.1 q4.2.2, r3.2)

theorem g50_eq (u0 : Int) (w0 : World) : evFn Try.prog 50 g50_ann #[.int .i64 u0] w0 = g50 u0 w0 := by kernel_rfl

theorem g50_call {u0 : Int} {w0 : World} {r : Value × World} (h : g50 u0 w0 = some r) : callF Try.prog 50 #[.int .i64 u0] w0 = some r :=
  callF_of_evFn (ann := g50_ann) Try.call50 (by kernel_rfl) ((g50_eq u0 w0).trans h)

/-! 51: penstock/penstockref03.Ints (l: []int) -/
def g51_ann : List (List Nat × List Nat) := [([0, 1, 0, 1, 1], [0, 3, 4])]

def g51_l4_cs (u0 : Option Addr × Nat × Nat) : List (Nat × Value) := ([(0, .slice u0.1 u0.2.1 u0.2.2)] : List (Nat × Value))

/-- the round of a loop (penstock/penstockref03.Ints) -/
noncomputable def g51_l4_b (u0 : Option Addr × Nat × Nat) (s5 : (Option Addr × Nat × Nat) × Int) (w6 : World) : Option (Exit × ((Option Addr × Nat × Nat) × Int) × World) :=
if (decide ((s5.2 : Int) < (u0.2.1 : Int))) = true then
((idxA u0.1 u0.2.1 1 s5.2).bind fun a8 =>
(World.cell? w6 a8).bind fun v9 =>
(asI .i64 v9).bind fun n10 =>
(callF Try.prog 50 #[.int .i64 n10] w6).bind fun r11 =>
(asSl r11.1).bind fun q12 =>
(callB Try.prog .append #[43, 43] 43 #[false, false] #[.slice s5.1.1 s5.1.2.1 s5.1.2.2, .slice q12.1 q12.2.1 q12.2.2] r11.2).bind fun r13 =>
(asSl r13.1).bind fun q14 =>
some (.normal, ((q14.1, q14.2.1, q14.2.2), (IntKind.i64.wrap (s5.2 + 1))), r13.2))
else
(some ((.exit 0), ((s5.1.1, s5.1.2.1, s5.1.2.2), s5.2), w6))

noncomputable def g51_K15  : Exit → Env → World → Option (Value × World) :=
  retK Try.prog Try.f51.results.toList

noncomputable def g51_K16  : Exit → Env → World → Option (Value × World) :=
  seqK (ev Try.prog 23 51 g51_ann (cAt [1, 1, 1] (bodyOf Try.f51)) [1, 1, 1] g51_K15) g51_K15

noncomputable def g51_K17  : Exit → Env → World → Option (Value × World) :=
  blkK 0 g51_K16

/-- the loop, from a state on -/
noncomputable def g51_l4 (u0 : Option Addr × Nat × Nat) (s : (Option Addr × Nat × Nat) × Int) (w : World) : Option (Value × World) :=
  loopM Try.prog 23 51 g51_ann (cAt [1, 1, 0, 1, 0, 0] (bodyOf Try.f51)) [0, 1, 0, 1, 1] g51_K17 ((g51_l4_cs u0) ++ sputs [(3, .sl), (4, .i .i64)] s) w

/-- behind the loop, left by x0 -/
noncomputable def g51_l4_x0  (t18 : (Option Addr × Nat × Nat) × Int) (w19 : World) : Option (Value × World) :=
some (.slice t18.1.1 t18.1.2.1 t18.1.2.2, w19)

noncomputable def g51 (u0 : Option Addr × Nat × Nat) (w0 : World) : Option (Value × World) :=
(callF Try.prog 65 #[.int .u64 (IntKind.u64.wrap (u0.2.1 : Int))] w0).bind fun r2 =>
(asSl r2.1).bind fun q3 =>
g51_l4 u0 ((q3.1, q3.2.1, q3.2.2), 0) r2.2

theorem g51_eq (u0 : Option Addr × Nat × Nat) (w0 : World) : evFn Try.prog 51 g51_ann #[.slice u0.1 u0.2.1 u0.2.2] w0 = g51 u0 w0 := by kernel_rfl

theorem g51_call {u0 : Option Addr × Nat × Nat} {w0 : World} {r : Value × World} (h : g51 u0 w0 = some r) : callF Try.prog 51 #[.slice u0.1 u0.2.1 u0.2.2] w0 = some r :=
  callF_of_evFn (ann := g51_ann) Try.call51 (by kernel_rfl) ((g51_eq u0 w0).trans h)

theorem g51_l4_x0_of {u0 : Option Addr × Nat × Nat} {s t : (Option Addr × Nat × Nat) × Int} {w w' : World} (h : loopS (g51_l4_b u0) s w = some (.exit 0, t, w')) : g51_l4 u0 s w = g51_l4_x0 t w' := by
  have h1 : g51_l4 u0 s w = loopM Try.prog 23 51 g51_ann (cAt [1, 1, 0, 1, 0, 0] (bodyOf Try.f51)) [0, 1, 0, 1, 1] g51_K17 ((g51_l4_cs u0) ++ sputs [(3, .sl), (4, .i .i64)] s) w := by kernel_rfl
  have h2 : loopM Try.prog 23 51 g51_ann (cAt [1, 1, 0, 1, 0, 0] (bodyOf Try.f51)) [0, 1, 0, 1, 1] g51_K17 ((g51_l4_cs u0) ++ sputs [(3, .sl), (4, .i .i64)] s) w = g51_K17 (.exit 0) (puts 23 ((g51_l4_cs u0) ++ sputs [(3, .sl), (4, .i .i64)] t)) w' :=
    loop_rule (P := Try.prog) (N := 23) (f := 51) (ann := g51_ann) (body := (cAt [1, 1, 0, 1, 0, 0] (bodyOf Try.f51))) (pt := [0, 1, 0, 1, 1]) (K := g51_K17) (g51_l4_cs u0) [(3, .sl), (4, .i .i64)] (b := g51_l4_b u0) (fun s w => by kernel_rfl) (by kernel_rfl) (by kernel_rfl) (by kernel_rfl) h
  have h3 : g51_K17 (.exit 0) (puts 23 ((g51_l4_cs u0) ++ sputs [(3, .sl), (4, .i .i64)] t)) w' = g51_l4_x0 t w' := by kernel_rfl
  exact h1.trans (h2.trans h3)

/-! 52: (*penstock/penstockref03.Reader).Int (r: *penstockref03.Reader) -/
def g52_ann : List (List Nat × List Nat) := []

noncomputable def g52 (u0 : Option Addr) (w0 : World) : Option (Value × World) :=
(callF Try.prog 59 #[.pointer u0] w0).bind fun r1 =>
(asI .u64 r1.1).bind fun n2 =>
(callF Try.prog 80 #[.int .u64 n2] r1.2).bind fun r3 =>
(asI .i64 r3.1).bind fun n4 =>
some (.int .i64 n4, r3.2)

theorem g52_eq (u0 : Option Addr) (w0 : World) : evFn Try.prog 52 g52_ann #[.pointer u0] w0 = g52 u0 w0 := by kernel_rfl

theorem g52_call {u0 : Option Addr} {w0 : World} {r : Value × World} (h : g52 u0 w0 = some r) : callF Try.prog 52 #[.pointer u0] w0 = some r :=
  callF_of_evFn (ann := g52_ann) Try.call52 (by kernel_rfl) ((g52_eq u0 w0).trans h)

/-! 53: (*penstock/penstockref03.Reader).Ints (r: *penstockref03.Reader) -/
def g53_ann : List (List Nat × List Nat) := [([0, 1, 0, 1, 1, 1, 1, 1], [0, 3, 4, 5])]

def g53_l12_cs (u0 : Option Addr) (n2 : Int) : List (Nat × Value) := ([(0, .pointer u0), (3, .int .u64 n2)] : List (Nat × Value))

/-- the round of a loop ((*penstock/penstockref03.Reader).Ints) -/
noncomputable def g53_l12_b (n2 : Int) (u0 : Option Addr) (s13 : (Option Addr × Nat × Nat) × Int) (w14 : World) : Option (Exit × ((Option Addr × Nat × Nat) × Int) × World) :=
if (decide ((s13.2 : Int) < (IntKind.i64.wrap n2))) = true then
(u0.bind fun a15 =>
(World.cell? w14 (Addr.add a15 2)).bind fun v16 =>
(asI .i64 v16).bind fun n17 =>
if ((n17 : Int) == 0) = true then
((callF Try.prog 52 #[.pointer u0] w14).bind fun r18 =>
(asI .i64 r18.1).bind fun n19 =>
(callB Try.prog .append #[28, 28] 28 #[false, false] #[.slice s13.1.1 s13.1.2.1 s13.1.2.2, .slice (some (⟨r18.2.heap.size, 0, none⟩)) 1 1] (World.alloc r18.2 (.cells #[.int .i64 n19] 3))).bind fun r20 =>
(asSl r20.1).bind fun q21 =>
some (.normal, ((q21.1, q21.2.1, q21.2.2), (IntKind.i64.wrap (s13.2 + 1))), r20.2))
else
(some ((.exit 0), ((s13.1.1, s13.1.2.1, s13.1.2.2), s13.2), w14)))
else
(some ((.exit 0), ((s13.1.1, s13.1.2.1, s13.1.2.2), s13.2), w14))

noncomputable def g53_K22  : Exit → Env → World → Option (Value × World) :=
  retK Try.prog Try.f53.results.toList

noncomputable def g53_K23  : Exit → Env → World → Option (Value × World) :=
  seqK (ev Try.prog 48 53 g53_ann (cAt [1, 1, 1, 1, 1, 1] (bodyOf Try.f53)) [1, 1, 1, 1, 1, 1] g53_K22) g53_K22

noncomputable def g53_K24  : Exit → Env → World → Option (Value × World) :=
  blkK 0 g53_K23

/-- the loop, from a state on -/
noncomputable def g53_l12 (u0 : Option Addr) (n2 : Int) (s : (Option Addr × Nat × Nat) × Int) (w : World) : Option (Value × World) :=
  loopM Try.prog 48 53 g53_ann (cAt [1, 1, 1, 1, 1, 0, 1, 0, 0] (bodyOf Try.f53)) [0, 1, 0, 1, 1, 1, 1, 1] g53_K24 ((g53_l12_cs u0 n2) ++ sputs [(4, .sl), (5, .i .i64)] s) w

/-- behind the loop, left by x0 -/
noncomputable def g53_l12_x0 (u0 : Option Addr) (t25 : (Option Addr × Nat × Nat) × Int) (w26 : World) : Option (Value × World) :=
u0.bind fun a27 =>
(World.cell? w26 (Addr.add a27 2)).bind fun v28 =>
(asI .i64 v28).bind fun n29 =>
if ((n29 : Int) != 0) = true then
(some (.slice none 0 0, w26))
else
(some (.slice t25.1.1 t25.1.2.1 t25.1.2.2, w26))

noncomputable def g53_j3 (u0 : Option Addr) (n2 : Int) (w8 : World) : Option (Value × World) :=
u0.bind fun a9 =>
(World.cell? w8 (Addr.add a9 2)).bind fun v10 =>
(asI .i64 v10).bind fun n11 =>
if ((n11 : Int) != 0) = true then
(some (.slice none 0 0, w8))
else
(g53_l12 u0 n2 ((none, 0, 0), 0) w8)

noncomputable def g53 (u0 : Option Addr) (w0 : World) : Option (Value × World) :=
(callF Try.prog 59 #[.pointer u0] w0).bind fun r1 =>
(asI .u64 r1.1).bind fun n2 =>
u0.bind fun a4 =>
(World.cell? r1.2 (Addr.add a4 2)).bind fun v5 =>
(asI .i64 v5).bind fun n6 =>
if ((n6 : Int) == 0) = true then
(if (decide ((n2 : Int) > 4096)) = true then
((callF Try.prog 81 #[.pointer u0, .int .i64 2] r1.2).bind fun r7 =>
(asTup 0 r7.1).bind fun _ =>
g53_j3 u0 n2 r7.2)
else
(g53_j3 u0 n2 r1.2))
else
(g53_j3 u0 n2 r1.2)

theorem g53_eq (u0 : Option Addr) (w0 : World) : evFn Try.prog 53 g53_ann #[.pointer u0] w0 = g53 u0 w0 := by kernel_rfl

theorem g53_call {u0 : Option Addr} {w0 : World} {r : Value × World} (h : g53 u0 w0 = some r) : callF Try.prog 53 #[.pointer u0] w0 = some r :=
  callF_of_evFn (ann := g53_ann) Try.call53 (by kernel_rfl) ((g53_eq u0 w0).trans h)

theorem g53_l12_x0_of {u0 : Option Addr} {n2 : Int} {s t : (Option Addr × Nat × Nat) × Int} {w w' : World} (h : loopS (g53_l12_b n2 u0) s w = some (.exit 0, t, w')) : g53_l12 u0 n2 s w = g53_l12_x0 u0 t w' := by
  have h1 : g53_l12 u0 n2 s w = loopM Try.prog 48 53 g53_ann (cAt [1, 1, 1, 1, 1, 0, 1, 0, 0] (bodyOf Try.f53)) [0, 1, 0, 1, 1, 1, 1, 1] g53_K24 ((g53_l12_cs u0 n2) ++ sputs [(4, .sl), (5, .i .i64)] s) w := by kernel_rfl
  have h2 : loopM Try.prog 48 53 g53_ann (cAt [1, 1, 1, 1, 1, 0, 1, 0, 0] (bodyOf Try.f53)) [0, 1, 0, 1, 1, 1, 1, 1] g53_K24 ((g53_l12_cs u0 n2) ++ sputs [(4, .sl), (5, .i .i64)] s) w = g53_K24 (.exit 0) (puts 48 ((g53_l12_cs u0 n2) ++ sputs [(4, .sl), (5, .i .i64)] t)) w' :=
    loop_rule (P := Try.prog) (N := 48) (f := 53) (ann := g53_ann) (body := (cAt [1, 1, 1, 1, 1, 0, 1, 0, 0] (bodyOf Try.f53))) (pt := [0, 1, 0, 1, 1, 1, 1, 1]) (K := g53_K24) (g53_l12_cs u0 n2) [(4, .sl), (5, .i .i64)] (b := g53_l12_b n2 u0) (fun s w => by kernel_rfl) (by kernel_rfl) (by kernel_rfl) (by kernel_rfl) h
  have h3 : g53_K24 (.exit 0) (puts 48 ((g53_l12_cs u0 n2) ++ sputs [(4, .sl), (5, .i .i64)] t)) w' = g53_l12_x0 u0 t w' := by kernel_rfl
  exact h1.trans (h2.trans h3)

/-! 54: (*penstock/penstockref03.Reader).End (r: *penstockref03.Reader) -/
def g54_ann : List (List Nat × List Nat) := []

noncomputable def g54 (u0 : Option Addr) (w0 : World) : Option (Value × World) :=
u0.bind fun a1 =>
(World.cell? (World.drew w0) (Addr.add a1 2)).bind fun v2 =>
(asI .i64 v2).bind fun n3 =>
if ((n3 : Int) == 0) = true then
(u0.bind fun a4 =>
(World.cell? (World.drew w0) (Addr.add a4 1)).bind fun v5 =>
(asI .i64 v5).bind fun n6 =>
u0.bind fun a7 =>
(World.cell? (World.drew w0) a7).bind fun v8 =>
(asSl v8).bind fun q9 =>
if (decide ((n6 : Int) < (q9.2.1 : Int))) = true then
(some (.int .i64 6, (World.drew w0)))
else
(u0.bind fun a11 =>
(World.cell? (World.drew w0) (Addr.add a11 2)).bind fun v12 =>
(asI .i64 v12).bind fun n13 =>
some (.int .i64 n13, (World.drew w0))))
else
(u0.bind fun a14 =>
(World.cell? (World.drew w0) (Addr.add a14 2)).bind fun v15 =>
(asI .i64 v15).bind fun n16 =>
some (.int .i64 n16, (World.drew w0)))

theorem g54_eq (u0 : Option Addr) (w0 : World) : evFn Try.prog 54 g54_ann #[.pointer u0] w0 = g54 u0 w0 := by kernel_rfl

theorem g54_call {u0 : Option Addr} {w0 : World} {r : Value × World} (h : g54 u0 w0 = some r) : callF Try.prog 54 #[.pointer u0] w0 = some r :=
  callF_of_evFn (ann := g54_ann) Try.call54 (by kernel_rfl) ((g54_eq u0 w0).trans h)

/-! 55: penstock/codec.NewReader (b: []uint8) -/
def g55_ann : List (List Nat × List Nat) := []

noncomputable def g55 (u0 : Option Addr × Nat × Nat) (w0 : World) : Option (Value × World) :=
(callB Try.prog .append #[43, 43] 43 #[true, false] #[.slice none 0 0, .slice u0.1 u0.2.1 u0.2.2] w0).bind fun r1 =>
(asSl r1.1).bind fun q2 =>
some (.pointer (some (⟨r1.2.heap.size, 0, none⟩)), (World.alloc r1.2 (.cells #[.slice q2.1 q2.2.1 q2.2.2, .int .i64 0, .int .i64 0] 134)))

theorem g55_eq (u0 : Option Addr × Nat × Nat) (w0 : World) : evFn Try.prog 55 g55_ann #[.slice u0.1 u0.2.1 u0.2.2] w0 = g55 u0 w0 := by kernel_rfl

theorem g55_call {u0 : Option Addr × Nat × Nat} {w0 : World} {r : Value × World} (h : g55 u0 w0 = some r) : callF Try.prog 55 #[.slice u0.1 u0.2.1 u0.2.2] w0 = some r :=
  callF_of_evFn (ann := g55_ann) Try.call55 (by kernel_rfl) ((g55_eq u0 w0).trans h)

/-! 56: (*penstock/codec.Reader).Int (r: *codec.Reader) -/
def g56_ann : List (List Nat × List Nat) := []

noncomputable def g56 (u0 : Option Addr) (w0 : World) : Option (Value × World) :=
(callF Try.prog 62 #[.pointer u0] w0).bind fun r1 =>
(asI .u64 r1.1).bind fun n2 =>
some (.int .i64 (IntKind.i64.wrap ((BitVec.ofInt 64 (IntKind.i64.wrap (Int.fdiv n2 (2 ^ (min (Int.toNat 1) 64)))) ^^^ BitVec.ofInt 64 (IntKind.i64.wrap (0 - (IntKind.i64.wrap (IntKind.u64.wrap ((BitVec.ofInt 64 n2 &&& BitVec.ofInt 64 1).toNat : Nat)))))).toNat : Nat)), r1.2)

theorem g56_eq (u0 : Option Addr) (w0 : World) : evFn Try.prog 56 g56_ann #[.pointer u0] w0 = g56 u0 w0 := by kernel_rfl

theorem g56_call {u0 : Option Addr} {w0 : World} {r : Value × World} (h : g56 u0 w0 = some r) : callF Try.prog 56 #[.pointer u0] w0 = some r :=
  callF_of_evFn (ann := g56_ann) Try.call56 (by kernel_rfl) ((g56_eq u0 w0).trans h)

/-! 57: (*penstock/codec.Reader).Ints (r: *codec.Reader) -/
def g57_ann : List (List Nat × List Nat) := [([0, 1, 0, 1, 1, 1, 1], [0, 12, 2, 4, 13])]

def g57_l4_cs (u0 : Option Addr) (n2 : Int) : List (Nat × Value) := ([(0, .pointer u0), (12, .int .u64 n2)] : List (Nat × Value))

/-- the round of a loop ((*penstock/codec.Reader).Ints) -/
noncomputable def g57_l4_b (n2 : Int) (u0 : Option Addr) (s5 : (Option Addr × Nat × Nat) × (Option Addr × Nat × Nat) × Int) (w6 : World) : Option (Exit × ((Option Addr × Nat × Nat) × (Option Addr × Nat × Nat) × Int) × World) :=
if (decide ((s5.2.2 : Int) < n2)) = true then
((callF Try.prog 56 #[.pointer u0] w6).bind fun r7 =>
(asI .i64 r7.1).bind fun n8 =>
u0.bind fun a9 =>
(World.cell? r7.2 (Addr.add a9 2)).bind fun v10 =>
(asI .i64 v10).bind fun n11 =>
if ((n11 : Int) != 0) = true then
(some (.ret, ((none, 0, 0), (s5.2.1.1, s5.2.1.2.1, s5.2.1.2.2), s5.2.2), r7.2))
else
((callB Try.prog .append #[28, 28] 28 #[false, false] #[.slice s5.2.1.1 s5.2.1.2.1 s5.2.1.2.2, .slice (some (⟨r7.2.heap.size, 0, none⟩)) 1 1] (World.alloc r7.2 (.cells #[.int .i64 n8] 3))).bind fun r12 =>
(asSl r12.1).bind fun q13 =>
some (.normal, ((s5.1.1, s5.1.2.1, s5.1.2.2), (q13.1, q13.2.1, q13.2.2), (IntKind.u64.wrap (s5.2.2 + 1))), r12.2)))
else
(some ((.exit 0), ((s5.1.1, s5.1.2.1, s5.1.2.2), (s5.2.1.1, s5.2.1.2.1, s5.2.1.2.2), s5.2.2), w6))

noncomputable def g57_K14  : Exit → Env → World → Option (Value × World) :=
  retK Try.prog Try.f57.results.toList

noncomputable def g57_K15  : Exit → Env → World → Option (Value × World) :=
  seqK (ev Try.prog 28 57 g57_ann (cAt [1, 1, 1, 1, 1] (bodyOf Try.f57)) [1, 1, 1, 1, 1] g57_K14) g57_K14

noncomputable def g57_K16  : Exit → Env → World → Option (Value × World) :=
  blkK 0 g57_K15

/-- the loop, from a state on -/
noncomputable def g57_l4 (u0 : Option Addr) (n2 : Int) (s : (Option Addr × Nat × Nat) × (Option Addr × Nat × Nat) × Int) (w : World) : Option (Value × World) :=
  loopM Try.prog 28 57 g57_ann (cAt [1, 1, 1, 1, 0, 1, 0, 0] (bodyOf Try.f57)) [0, 1, 0, 1, 1, 1, 1] g57_K16 ((g57_l4_cs u0 n2) ++ sputs [(2, .sl), (4, .sl), (13, .i .u64)] s) w

/-- behind the loop, left by x0 -/
noncomputable def g57_l4_x0  (t17 : (Option Addr × Nat × Nat) × (Option Addr × Nat × Nat) × Int) (w18 : World) : Option (Value × World) :=
some (.slice t17.2.1.1 t17.2.1.2.1 t17.2.1.2.2, w18)

/-- behind the loop, left by ret -/
noncomputable def g57_l4_ret  (t19 : (Option Addr × Nat × Nat) × (Option Addr × Nat × Nat) × Int) (w20 : World) : Option (Value × World) :=
some (.slice t19.1.1 t19.1.2.1 t19.1.2.2, w20)

noncomputable def g57 (u0 : Option Addr) (w0 : World) : Option (Value × World) :=
(callF Try.prog 62 #[.pointer u0] w0).bind fun r1 =>
(asI .u64 r1.1).bind fun n2 =>
if (decide ((n2 : Int) > 4096)) = true then
((callF Try.prog 82 #[.pointer u0, .int .i64 2] r1.2).bind fun r3 =>
(asTup 0 r3.1).bind fun _ =>
some (.slice none 0 0, r3.2))
else
(g57_l4 u0 n2 ((none, 0, 0), (none, 0, 0), 0) r1.2)

theorem g57_eq (u0 : Option Addr) (w0 : World) : evFn Try.prog 57 g57_ann #[.pointer u0] w0 = g57 u0 w0 := by kernel_rfl

theorem g57_call {u0 : Option Addr} {w0 : World} {r : Value × World} (h : g57 u0 w0 = some r) : callF Try.prog 57 #[.pointer u0] w0 = some r :=
  callF_of_evFn (ann := g57_ann) Try.call57 (by kernel_rfl) ((g57_eq u0 w0).trans h)

theorem g57_l4_x0_of {u0 : Option Addr} {n2 : Int} {s t : (Option Addr × Nat × Nat) × (Option Addr × Nat × Nat) × Int} {w w' : World} (h : loopS (g57_l4_b n2 u0) s w = some (.exit 0, t, w')) : g57_l4 u0 n2 s w = g57_l4_x0 t w' := by
  have h1 : g57_l4 u0 n2 s w = loopM Try.prog 28 57 g57_ann (cAt [1, 1, 1, 1, 0, 1, 0, 0] (bodyOf Try.f57)) [0, 1, 0, 1, 1, 1, 1] g57_K16 ((g57_l4_cs u0 n2) ++ sputs [(2, .sl), (4, .sl), (13, .i .u64)] s) w := by kernel_rfl
  have h2 : loopM Try.prog 28 57 g57_ann (cAt [1, 1, 1, 1, 0, 1, 0, 0] (bodyOf Try.f57)) [0, 1, 0, 1, 1, 1, 1] g57_K16 ((g57_l4_cs u0 n2) ++ sputs [(2, .sl), (4, .sl), (13, .i .u64)] s) w = g57_K16 (.exit 0) (puts 28 ((g57_l4_cs u0 n2) ++ sputs [(2, .sl), (4, .sl), (13, .i .u64)] t)) w' :=
    loop_rule (P := Try.prog) (N := 28) (f := 57) (ann := g57_ann) (body := (cAt [1, 1, 1, 1, 0, 1, 0, 0] (bodyOf Try.f57))) (pt := [0, 1, 0, 1, 1, 1, 1]) (K := g57_K16) (g57_l4_cs u0 n2) [(2, .sl), (4, .sl), (13, .i .u64)] (b := g57_l4_b n2 u0) (fun s w => by kernel_rfl) (by kernel_rfl) (by kernel_rfl) (by kernel_rfl) h
  have h3 : g57_K16 (.exit 0) (puts 28 ((g57_l4_cs u0 n2) ++ sputs [(2, .sl), (4, .sl), (13, .i .u64)] t)) w' = g57_l4_x0 t w' := by kernel_rfl
  exact h1.trans (h2.trans h3)

theorem g57_l4_ret_of {u0 : Option Addr} {n2 : Int} {s t : (Option Addr × Nat × Nat) × (Option Addr × Nat × Nat) × Int} {w w' : World} (h : loopS (g57_l4_b n2 u0) s w = some (.ret, t, w')) : g57_l4 u0 n2 s w = g57_l4_ret t w' := by
  have h1 : g57_l4 u0 n2 s w = loopM Try.prog 28 57 g57_ann (cAt [1, 1, 1, 1, 0, 1, 0, 0] (bodyOf Try.f57)) [0, 1, 0, 1, 1, 1, 1] g57_K16 ((g57_l4_cs u0 n2) ++ sputs [(2, .sl), (4, .sl), (13, .i .u64)] s) w := by kernel_rfl
  have h2 : loopM Try.prog 28 57 g57_ann (cAt [1, 1, 1, 1, 0, 1, 0, 0] (bodyOf Try.f57)) [0, 1, 0, 1, 1, 1, 1] g57_K16 ((g57_l4_cs u0 n2) ++ sputs [(2, .sl), (4, .sl), (13, .i .u64)] s) w = g57_K16 (.ret) (puts 28 ((g57_l4_cs u0 n2) ++ sputs [(2, .sl), (4, .sl), (13, .i .u64)] t)) w' :=
    loop_rule (P := Try.prog) (N := 28) (f := 57) (ann := g57_ann) (body := (cAt [1, 1, 1, 1, 0, 1, 0, 0] (bodyOf Try.f57))) (pt := [0, 1, 0, 1, 1, 1, 1]) (K := g57_K16) (g57_l4_cs u0 n2) [(2, .sl), (4, .sl), (13, .i .u64)] (b := g57_l4_b n2 u0) (fun s w => by kernel_rfl) (by kernel_rfl) (by kernel_rfl) (by kernel_rfl) h
  have h3 : g57_K16 (.ret) (puts 28 ((g57_l4_cs u0 n2) ++ sputs [(2, .sl), (4, .sl), (13, .i .u64)] t)) w' = g57_l4_ret t w' := by kernel_rfl
  exact h1.trans (h2.trans h3)

/-! 58: (*penstock/codec.Reader).End (r: *codec.Reader) -/
def g58_ann : List (List Nat × List Nat) := []

noncomputable def g58 (u0 : Option Addr) (w0 : World) : Option (Value × World) :=
if (u0.isNone) = true then
(some (.int .i64 5, w0))
else
(u0.bind fun a1 =>
(World.cell? (World.drew w0) (Addr.add a1 2)).bind fun v2 =>
(asI .i64 v2).bind fun n3 =>
if ((n3 : Int) == 0) = true then
(u0.bind fun a4 =>
(World.cell? (World.drew w0) (Addr.add a4 1)).bind fun v5 =>
(asI .i64 v5).bind fun n6 =>
u0.bind fun a7 =>
(World.cell? (World.drew w0) a7).bind fun v8 =>
(asSl v8).bind fun q9 =>
if (decide ((n6 : Int) < (q9.2.1 : Int))) = true then
(some (.int .i64 6, (World.drew w0)))
else
(u0.bind fun a11 =>
(World.cell? (World.drew w0) (Addr.add a11 2)).bind fun v12 =>
(asI .i64 v12).bind fun n13 =>
some (.int .i64 n13, (World.drew w0))))
else
(u0.bind fun a14 =>
(World.cell? (World.drew w0) (Addr.add a14 2)).bind fun v15 =>
(asI .i64 v15).bind fun n16 =>
some (.int .i64 n16, (World.drew w0))))

theorem g58_eq (u0 : Option Addr) (w0 : World) : evFn Try.prog 58 g58_ann #[.pointer u0] w0 = g58 u0 w0 := by kernel_rfl

theorem g58_call {u0 : Option Addr} {w0 : World} {r : Value × World} (h : g58 u0 w0 = some r) : callF Try.prog 58 #[.pointer u0] w0 = some r :=
  callF_of_evFn (ann := g58_ann) Try.call58 (by kernel_rfl) ((g58_eq u0 w0).trans h)

/-! 59: (*penstock/penstockref03.Reader).Uint (r: *penstockref03.Reader) -/
def g59_ann : List (List Nat × List Nat) := [([0, 1, 0, 1, 1, 1], [0, 2, 3, 4])]

def g59_l4_cs (u0 : Option Addr) : List (Nat × Value) := ([(0, .pointer u0)] : List (Nat × Value))

/-- the round of a loop ((*penstock/penstockref03.Reader).Uint) -/
noncomputable def g59_l4_b (u0 : Option Addr) (s5 : Int × Int × Int) (w6 : World) : Option (Exit × (Int × Int × Int) × World) :=
if (decide ((s5.2.2 : Int) < 10)) = true then
(u0.bind fun a7 =>
(World.cell? (World.drew w6) (Addr.add a7 1)).bind fun v8 =>
(asI .i64 v8).bind fun n9 =>
u0.bind fun a10 =>
(World.cell? (World.drew w6) a10).bind fun v11 =>
(asSl v11).bind fun q12 =>
if (decide (((IntKind.i64.wrap (n9 + s5.2.2)) : Int) ≥ (q12.2.1 : Int))) = true then
((callF Try.prog 81 #[.pointer u0, .int .i64 6] (World.drew w6)).bind fun r14 =>
(asTup 0 r14.1).bind fun _ =>
some (.ret, (0, s5.2.1, s5.2.2), r14.2))
else
(u0.bind fun a15 =>
(World.cell? (World.drew (World.drew w6)) a15).bind fun v16 =>
(asSl v16).bind fun q17 =>
u0.bind fun a18 =>
(World.cell? (World.drew (World.drew w6)) (Addr.add a18 1)).bind fun v19 =>
(asI .i64 v19).bind fun n20 =>
(idxA q17.1 q17.2.1 1 (IntKind.i64.wrap (n20 + s5.2.2))).bind fun a21 =>
(World.cell? (World.drew (World.drew w6)) a21).bind fun v22 =>
(asI .u8 v22).bind fun n23 =>
if ((s5.2.2 : Int) == 9) = true then
(if (decide (((IntKind.u64.wrap n23) : Int) > 1)) = true then
((callF Try.prog 81 #[.pointer u0, .int .i64 7] (World.drew (World.drew w6))).bind fun r24 =>
(asTup 0 r24.1).bind fun _ =>
some (.ret, (0, s5.2.1, s5.2.2), r24.2))
else
(if (decide ((s5.2.2 : Int) > 0)) = true then
(if (((IntKind.u64.wrap n23) : Int) == 0) = true then
((callF Try.prog 81 #[.pointer u0, .int .i64 7] (World.drew (World.drew w6))).bind fun r25 =>
(asTup 0 r25.1).bind fun _ =>
some (.ret, (0, s5.2.1, s5.2.2), r25.2))
else
(if ((IntKind.u64.wrap (IntKind.i64.wrap (7 * s5.2.2))) : Int) < 0 then
(none)
else
(if (decide (((IntKind.u64.wrap n23) : Int) < 128)) = true then
(u0.bind fun a26 =>
(World.cell? (World.drew (World.drew w6)) (Addr.add a26 1)).bind fun v27 =>
(asI .i64 v27).bind fun n28 =>
u0.bind fun a29 =>
(st1 (World.drew (World.drew w6)) (Addr.add a29 1) (.int .i64 (IntKind.i64.wrap ((IntKind.i64.wrap (n28 + s5.2.2)) + 1)))).bind fun w30 =>
some (.ret, ((IntKind.u64.wrap (s5.2.1 + (IntKind.u64.wrap ((Int.tmod (IntKind.u64.wrap n23) 128) * 2 ^ (min (Int.toNat (IntKind.u64.wrap (IntKind.i64.wrap (7 * s5.2.2)))) 64))))), (IntKind.u64.wrap (s5.2.1 + (IntKind.u64.wrap ((Int.tmod (IntKind.u64.wrap n23) 128) * 2 ^ (min (Int.toNat (IntKind.u64.wrap (IntKind.i64.wrap (7 * s5.2.2)))) 64))))), s5.2.2), w30))
else
(some (.normal, (s5.1, (IntKind.u64.wrap (s5.2.1 + (IntKind.u64.wrap ((Int.tmod (IntKind.u64.wrap n23) 128) * 2 ^ (min (Int.toNat (IntKind.u64.wrap (IntKind.i64.wrap (7 * s5.2.2)))) 64))))), (IntKind.i64.wrap (s5.2.2 + 1))), (World.drew (World.drew w6)))))))
else
(if ((IntKind.u64.wrap (IntKind.i64.wrap (7 * s5.2.2))) : Int) < 0 then
(none)
else
(if (decide (((IntKind.u64.wrap n23) : Int) < 128)) = true then
(u0.bind fun a31 =>
(World.cell? (World.drew (World.drew w6)) (Addr.add a31 1)).bind fun v32 =>
(asI .i64 v32).bind fun n33 =>
u0.bind fun a34 =>
(st1 (World.drew (World.drew w6)) (Addr.add a34 1) (.int .i64 (IntKind.i64.wrap ((IntKind.i64.wrap (n33 + s5.2.2)) + 1)))).bind fun w35 =>
some (.ret, ((IntKind.u64.wrap (s5.2.1 + (IntKind.u64.wrap ((Int.tmod (IntKind.u64.wrap n23) 128) * 2 ^ (min (Int.toNat (IntKind.u64.wrap (IntKind.i64.wrap (7 * s5.2.2)))) 64))))), (IntKind.u64.wrap (s5.2.1 + (IntKind.u64.wrap ((Int.tmod (IntKind.u64.wrap n23) 128) * 2 ^ (min (Int.toNat (IntKind.u64.wrap (IntKind.i64.wrap (7 * s5.2.2)))) 64))))), s5.2.2), w35))
else
(some (.normal, (s5.1, (IntKind.u64.wrap (s5.2.1 + (IntKind.u64.wrap ((Int.tmod (IntKind.u64.wrap n23) 128) * 2 ^ (min (Int.toNat (IntKind.u64.wrap (IntKind.i64.wrap (7 * s5.2.2)))) 64))))), (IntKind.i64.wrap (s5.2.2 + 1))), (World.drew (World.drew w6))))))))
else
(if (decide ((s5.2.2 : Int) > 0)) = true then
(if (((IntKind.u64.wrap n23) : Int) == 0) = true then
((callF Try.prog 81 #[.pointer u0, .int .i64 7] (World.drew (World.drew w6))).bind fun r36 =>
(asTup 0 r36.1).bind fun _ =>
some (.ret, (0, s5.2.1, s5.2.2), r36.2))
else
(if ((IntKind.u64.wrap (IntKind.i64.wrap (7 * s5.2.2))) : Int) < 0 then
(none)
else
(if (decide (((IntKind.u64.wrap n23) : Int) < 128)) = true then
(u0.bind fun a37 =>
(World.cell? (World.drew (World.drew w6)) (Addr.add a37 1)).bind fun v38 =>
(asI .i64 v38).bind fun n39 =>
u0.bind fun a40 =>
(st1 (World.drew (World.drew w6)) (Addr.add a40 1) (.int .i64 (IntKind.i64.wrap ((IntKind.i64.wrap (n39 + s5.2.2)) + 1)))).bind fun w41 =>
some (.ret, ((IntKind.u64.wrap (s5.2.1 + (IntKind.u64.wrap ((Int.tmod (IntKind.u64.wrap n23) 128) * 2 ^ (min (Int.toNat (IntKind.u64.wrap (IntKind.i64.wrap (7 * s5.2.2)))) 64))))), (IntKind.u64.wrap (s5.2.1 + (IntKind.u64.wrap ((Int.tmod (IntKind.u64.wrap n23) 128) * 2 ^ (min (Int.toNat (IntKind.u64.wrap (IntKind.i64.wrap (7 * s5.2.2)))) 64))))), s5.2.2), w41))
else
(some (.normal, (s5.1, (IntKind.u64.wrap (s5.2.1 + (IntKind.u64.wrap ((Int.tmod (IntKind.u64.wrap n23) 128) * 2 ^ (min (Int.toNat (IntKind.u64.wrap (IntKind.i64.wrap (7 * s5.2.2)))) 64))))), (IntKind.i64.wrap (s5.2.2 + 1))), (World.drew (World.drew w6)))))))
else
(if ((IntKind.u64.wrap (IntKind.i64.wrap (7 * s5.2.2))) : Int) < 0 then
(none)
else
(if (decide (((IntKind.u64.wrap n23) : Int) < 128)) = true then
(u0.bind fun a42 =>
(World.cell? (World.drew (World.drew w6)) (Addr.add a42 1)).bind fun v43 =>
(asI .i64 v43).bind fun n44 =>
u0.bind fun a45 =>
(st1 (World.drew (World.drew w6)) (Addr.add a45 1) (.int .i64 (IntKind.i64.wrap ((IntKind.i64.wrap (n44 + s5.2.2)) + 1)))).bind fun w46 =>
some (.ret, ((IntKind.u64.wrap (s5.2.1 + (IntKind.u64.wrap ((Int.tmod (IntKind.u64.wrap n23) 128) * 2 ^ (min (Int.toNat (IntKind.u64.wrap (IntKind.i64.wrap (7 * s5.2.2)))) 64))))), (IntKind.u64.wrap (s5.2.1 + (IntKind.u64.wrap ((Int.tmod (IntKind.u64.wrap n23) 128) * 2 ^ (min (Int.toNat (IntKind.u64.wrap (IntKind.i64.wrap (7 * s5.2.2)))) 64))))), s5.2.2), w46))
else
(some (.normal, (s5.1, (IntKind.u64.wrap (s5.2.1 + (IntKind.u64.wrap ((Int.tmod (IntKind.u64.wrap n23) 128) * 2 ^ (min (Int.toNat (IntKind.u64.wrap (IntKind.i64.wrap (7 * s5.2.2)))) 64))))), (IntKind.i64.wrap (s5.2.2 + 1))), (World.drew (World.drew w6)))))))))
else
(some ((.exit 0), (s5.1, s5.2.1, s5.2.2), w6))

noncomputable def g59_K47  : Exit → Env → World → Option (Value × World) :=
  retK Try.prog Try.f59.results.toList

noncomputable def g59_K48  : Exit → Env → World → Option (Value × World) :=
  seqK (ev Try.prog 81 59 g59_ann (cAt [1, 1, 1, 1] (bodyOf Try.f59)) [1, 1, 1, 1] g59_K47) g59_K47

noncomputable def g59_K49  : Exit → Env → World → Option (Value × World) :=
  blkK 0 g59_K48

/-- the loop, from a state on -/
noncomputable def g59_l4 (u0 : Option Addr) (s : Int × Int × Int) (w : World) : Option (Value × World) :=
  loopM Try.prog 81 59 g59_ann (cAt [1, 1, 1, 0, 1, 0, 0] (bodyOf Try.f59)) [0, 1, 0, 1, 1, 1] g59_K49 ((g59_l4_cs u0) ++ sputs [(2, .i .u64), (3, .i .u64), (4, .i .i64)] s) w

/-- behind the loop, left by ret -/
noncomputable def g59_l4_ret  (t53 : Int × Int × Int) (w54 : World) : Option (Value × World) :=
some (.int .u64 t53.1, w54)

noncomputable def g59 (u0 : Option Addr) (w0 : World) : Option (Value × World) :=
u0.bind fun a1 =>
(World.cell? w0 (Addr.add a1 2)).bind fun v2 =>
(asI .i64 v2).bind fun n3 =>
if ((n3 : Int) != 0) = true then
(some (.int .u64 0, w0))
else
(g59_l4 u0 (0, 0, 0) w0)

theorem g59_eq (u0 : Option Addr) (w0 : World) : evFn Try.prog 59 g59_ann #[.pointer u0] w0 = g59 u0 w0 := by kernel_rfl

theorem g59_call {u0 : Option Addr} {w0 : World} {r : Value × World} (h : g59 u0 w0 = some r) : callF Try.prog 59 #[.pointer u0] w0 = some r :=
  callF_of_evFn (ann := g59_ann) Try.call59 (by kernel_rfl) ((g59_eq u0 w0).trans h)

theorem g59_l4_ret_of {u0 : Option Addr} {s t : Int × Int × Int} {w w' : World} (h : loopS (g59_l4_b u0) s w = some (.ret, t, w')) : g59_l4 u0 s w = g59_l4_ret t w' := by
  have h1 : g59_l4 u0 s w = loopM Try.prog 81 59 g59_ann (cAt [1, 1, 1, 0, 1, 0, 0] (bodyOf Try.f59)) [0, 1, 0, 1, 1, 1] g59_K49 ((g59_l4_cs u0) ++ sputs [(2, .i .u64), (3, .i .u64), (4, .i .i64)] s) w := by kernel_rfl
  have h2 : loopM Try.prog 81 59 g59_ann (cAt [1, 1, 1, 0, 1, 0, 0] (bodyOf Try.f59)) [0, 1, 0, 1, 1, 1] g59_K49 ((g59_l4_cs u0) ++ sputs [(2, .i .u64), (3, .i .u64), (4, .i .i64)] s) w = g59_K49 (.ret) (puts 81 ((g59_l4_cs u0) ++ sputs [(2, .i .u64), (3, .i .u64), (4, .i .i64)] t)) w' :=
    loop_rule (P := Try.prog) (N := 81) (f := 59) (ann := g59_ann) (body := (cAt [1, 1, 1, 0, 1, 0, 0] (bodyOf Try.f59))) (pt := [0, 1, 0, 1, 1, 1]) (K := g59_K49) (g59_l4_cs u0) [(2, .i .u64), (3, .i .u64), (4, .i .i64)] (b := g59_l4_b u0) (fun s w => by kernel_rfl) (by kernel_rfl) (by kernel_rfl) (by kernel_rfl) h
  have h3 : g59_K49 (.ret) (puts 81 ((g59_l4_cs u0) ++ sputs [(2, .i .u64), (3, .i .u64), (4, .i .i64)] t)) w' = g59_l4_ret t w' := by kernel_rfl
  exact h1.trans (h2.trans h3)

/-! 60: (*penstock/penstockref03.Reader).Flag (r: *penstockref03.Reader) -/
def g60_ann : List (List Nat × List Nat) := []

noncomputable def g60 (u0 : Option Addr) (w0 : World) : Option (Value × World) :=
(callF Try.prog 59 #[.pointer u0] w0).bind fun r1 =>
(asI .u64 r1.1).bind fun n2 =>
if (decide ((n2 : Int) > 1)) = true then
((callF Try.prog 81 #[.pointer u0, .int .i64 7] r1.2).bind fun r3 =>
(asTup 0 r3.1).bind fun _ =>
some (.bool false, r3.2))
else
(some (.bool ((n2 : Int) == 1), r1.2))

theorem g60_eq (u0 : Option Addr) (w0 : World) : evFn Try.prog 60 g60_ann #[.pointer u0] w0 = g60 u0 w0 := by kernel_rfl

theorem g60_call {u0 : Option Addr} {w0 : World} {r : Value × World} (h : g60 u0 w0 = some r) : callF Try.prog 60 #[.pointer u0] w0 = some r :=
  callF_of_evFn (ann := g60_ann) Try.call60 (by kernel_rfl) ((g60_eq u0 w0).trans h)

/-! 62: (*penstock/codec.Reader).Uint (r: *codec.Reader) -/
def g62_ann : List (List Nat × List Nat) := [([0, 1, 1, 1, 1, 1], [0, 3, 2, 4, 5])]

def g62_l7_cs (u0 : Option Addr) (n6 : Int) : List (Nat × Value) := ([(0, .pointer u0), (3, .int .i64 n6)] : List (Nat × Value))

/-- the round of a loop ((*penstock/codec.Reader).Uint) -/
noncomputable def g62_l7_b (u0 : Option Addr) (n6 : Int) (s8 : Int × Int × Int) (w9 : World) : Option (Exit × (Int × Int × Int) × World) :=
u0.bind fun a10 =>
(World.cell? (World.drew w9) (Addr.add a10 1)).bind fun v11 =>
(asI .i64 v11).bind fun n12 =>
u0.bind fun a13 =>
(World.cell? (World.drew w9) a13).bind fun v14 =>
(asSl v14).bind fun q15 =>
if ((n12 : Int) == (q15.2.1 : Int)) = true then
(u0.bind fun a17 =>
(st1 (World.drew w9) (Addr.add a17 1) (.int .i64 n6)).bind fun w18 =>
(callF Try.prog 82 #[.pointer u0, .int .i64 6] w18).bind fun r19 =>
(asTup 0 r19.1).bind fun _ =>
some (.ret, (0, s8.2.1, s8.2.2), r19.2))
else
(u0.bind fun a20 =>
(World.cell? (World.drew (World.drew w9)) a20).bind fun v21 =>
(asSl v21).bind fun q22 =>
u0.bind fun a23 =>
(World.cell? (World.drew (World.drew w9)) (Addr.add a23 1)).bind fun v24 =>
(asI .i64 v24).bind fun n25 =>
(idxA q22.1 q22.2.1 1 n25).bind fun a26 =>
(World.cell? (World.drew (World.drew w9)) a26).bind fun v27 =>
(asI .u8 v27).bind fun n28 =>
u0.bind fun a29 =>
(World.cell? (World.drew (World.drew w9)) (Addr.add a29 1)).bind fun v30 =>
(asI .i64 v30).bind fun n31 =>
u0.bind fun a32 =>
(st1 (World.drew (World.drew w9)) (Addr.add a32 1) (.int .i64 (IntKind.i64.wrap (n31 + 1)))).bind fun w33 =>
if ((s8.2.2 : Int) == 63) = true then
(if (decide ((n28 : Int) > 1)) = true then
(u0.bind fun a34 =>
(st1 w33 (Addr.add a34 1) (.int .i64 n6)).bind fun w35 =>
(callF Try.prog 82 #[.pointer u0, .int .i64 7] w35).bind fun r36 =>
(asTup 0 r36.1).bind fun _ =>
some (.ret, (0, s8.2.1, s8.2.2), r36.2))
else
(if ((n28 : Int) == 0) = true then
(if (decide ((s8.2.2 : Int) > 0)) = true then
(u0.bind fun a37 =>
(st1 w33 (Addr.add a37 1) (.int .i64 n6)).bind fun w38 =>
(callF Try.prog 82 #[.pointer u0, .int .i64 7] w38).bind fun r39 =>
(asTup 0 r39.1).bind fun _ =>
some (.ret, (0, s8.2.1, s8.2.2), r39.2))
else
(if (s8.2.2 : Int) < 0 then
(none)
else
(if (decide ((n28 : Int) < 128)) = true then
(some (.ret, ((IntKind.u64.wrap ((BitVec.ofInt 64 s8.2.1 ||| BitVec.ofInt 64 (IntKind.u64.wrap ((IntKind.u64.wrap (IntKind.u8.wrap ((BitVec.ofInt 8 n28 &&& BitVec.ofInt 8 127).toNat : Nat))) * 2 ^ (min (Int.toNat s8.2.2) 64)))).toNat : Nat)), (IntKind.u64.wrap ((BitVec.ofInt 64 s8.2.1 ||| BitVec.ofInt 64 (IntKind.u64.wrap ((IntKind.u64.wrap (IntKind.u8.wrap ((BitVec.ofInt 8 n28 &&& BitVec.ofInt 8 127).toNat : Nat))) * 2 ^ (min (Int.toNat s8.2.2) 64)))).toNat : Nat)), s8.2.2), w33))
else
(some (.normal, (s8.1, (IntKind.u64.wrap ((BitVec.ofInt 64 s8.2.1 ||| BitVec.ofInt 64 (IntKind.u64.wrap ((IntKind.u64.wrap (IntKind.u8.wrap ((BitVec.ofInt 8 n28 &&& BitVec.ofInt 8 127).toNat : Nat))) * 2 ^ (min (Int.toNat s8.2.2) 64)))).toNat : Nat)), (IntKind.i64.wrap (s8.2.2 + 7))), w33)))))
else
(if (s8.2.2 : Int) < 0 then
(none)
else
(if (decide ((n28 : Int) < 128)) = true then
(some (.ret, ((IntKind.u64.wrap ((BitVec.ofInt 64 s8.2.1 ||| BitVec.ofInt 64 (IntKind.u64.wrap ((IntKind.u64.wrap (IntKind.u8.wrap ((BitVec.ofInt 8 n28 &&& BitVec.ofInt 8 127).toNat : Nat))) * 2 ^ (min (Int.toNat s8.2.2) 64)))).toNat : Nat)), (IntKind.u64.wrap ((BitVec.ofInt 64 s8.2.1 ||| BitVec.ofInt 64 (IntKind.u64.wrap ((IntKind.u64.wrap (IntKind.u8.wrap ((BitVec.ofInt 8 n28 &&& BitVec.ofInt 8 127).toNat : Nat))) * 2 ^ (min (Int.toNat s8.2.2) 64)))).toNat : Nat)), s8.2.2), w33))
else
(some (.normal, (s8.1, (IntKind.u64.wrap ((BitVec.ofInt 64 s8.2.1 ||| BitVec.ofInt 64 (IntKind.u64.wrap ((IntKind.u64.wrap (IntKind.u8.wrap ((BitVec.ofInt 8 n28 &&& BitVec.ofInt 8 127).toNat : Nat))) * 2 ^ (min (Int.toNat s8.2.2) 64)))).toNat : Nat)), (IntKind.i64.wrap (s8.2.2 + 7))), w33))))))
else
(if ((n28 : Int) == 0) = true then
(if (decide ((s8.2.2 : Int) > 0)) = true then
(u0.bind fun a40 =>
(st1 w33 (Addr.add a40 1) (.int .i64 n6)).bind fun w41 =>
(callF Try.prog 82 #[.pointer u0, .int .i64 7] w41).bind fun r42 =>
(asTup 0 r42.1).bind fun _ =>
some (.ret, (0, s8.2.1, s8.2.2), r42.2))
else
(if (s8.2.2 : Int) < 0 then
(none)
else
(if (decide ((n28 : Int) < 128)) = true then
(some (.ret, ((IntKind.u64.wrap ((BitVec.ofInt 64 s8.2.1 ||| BitVec.ofInt 64 (IntKind.u64.wrap ((IntKind.u64.wrap (IntKind.u8.wrap ((BitVec.ofInt 8 n28 &&& BitVec.ofInt 8 127).toNat : Nat))) * 2 ^ (min (Int.toNat s8.2.2) 64)))).toNat : Nat)), (IntKind.u64.wrap ((BitVec.ofInt 64 s8.2.1 ||| BitVec.ofInt 64 (IntKind.u64.wrap ((IntKind.u64.wrap (IntKind.u8.wrap ((BitVec.ofInt 8 n28 &&& BitVec.ofInt 8 127).toNat : Nat))) * 2 ^ (min (Int.toNat s8.2.2) 64)))).toNat : Nat)), s8.2.2), w33))
else
(some (.normal, (s8.1, (IntKind.u64.wrap ((BitVec.ofInt 64 s8.2.1 ||| BitVec.ofInt 64 (IntKind.u64.wrap ((IntKind.u64.wrap (IntKind.u8.wrap ((BitVec.ofInt 8 n28 &&& BitVec.ofInt 8 127).toNat : Nat))) * 2 ^ (min (Int.toNat s8.2.2) 64)))).toNat : Nat)), (IntKind.i64.wrap (s8.2.2 + 7))), w33)))))
else
(if (s8.2.2 : Int) < 0 then
(none)
else
(if (decide ((n28 : Int) < 128)) = true then
(some (.ret, ((IntKind.u64.wrap ((BitVec.ofInt 64 s8.2.1 ||| BitVec.ofInt 64 (IntKind.u64.wrap ((IntKind.u64.wrap (IntKind.u8.wrap ((BitVec.ofInt 8 n28 &&& BitVec.ofInt 8 127).toNat : Nat))) * 2 ^ (min (Int.toNat s8.2.2) 64)))).toNat : Nat)), (IntKind.u64.wrap ((BitVec.ofInt 64 s8.2.1 ||| BitVec.ofInt 64 (IntKind.u64.wrap ((IntKind.u64.wrap (IntKind.u8.wrap ((BitVec.ofInt 8 n28 &&& BitVec.ofInt 8 127).toNat : Nat))) * 2 ^ (min (Int.toNat s8.2.2) 64)))).toNat : Nat)), s8.2.2), w33))
else
(some (.normal, (s8.1, (IntKind.u64.wrap ((BitVec.ofInt 64 s8.2.1 ||| BitVec.ofInt 64 (IntKind.u64.wrap ((IntKind.u64.wrap (IntKind.u8.wrap ((BitVec.ofInt 8 n28 &&& BitVec.ofInt 8 127).toNat : Nat))) * 2 ^ (min (Int.toNat s8.2.2) 64)))).toNat : Nat)), (IntKind.i64.wrap (s8.2.2 + 7))), w33))))))

noncomputable def g62_K43  : Exit → Env → World → Option (Value × World) :=
  retK Try.prog Try.f62.results.toList

noncomputable def g62_K44  : Exit → Env → World → Option (Value × World) :=
  blkK 0 g62_K43

/-- the loop, from a state on -/
noncomputable def g62_l7 (u0 : Option Addr) (n6 : Int) (s : Int × Int × Int) (w : World) : Option (Value × World) :=
  loopM Try.prog 85 62 g62_ann (cAt [1, 1, 1, 1, 1, 0, 0] (bodyOf Try.f62)) [0, 1, 1, 1, 1, 1] g62_K44 ((g62_l7_cs u0 n6) ++ sputs [(2, .i .u64), (4, .i .u64), (5, .i .i64)] s) w

/-- behind the loop, left by ret -/
noncomputable def g62_l7_ret  (t45 : Int × Int × Int) (w46 : World) : Option (Value × World) :=
some (.int .u64 t45.1, w46)

noncomputable def g62 (u0 : Option Addr) (w0 : World) : Option (Value × World) :=
if (u0.isNone) = true then
(some (.int .u64 0, w0))
else
(u0.bind fun a1 =>
(World.cell? w0 (Addr.add a1 2)).bind fun v2 =>
(asI .i64 v2).bind fun n3 =>
if ((n3 : Int) != 0) = true then
(some (.int .u64 0, w0))
else
(u0.bind fun a4 =>
(World.cell? w0 (Addr.add a4 1)).bind fun v5 =>
(asI .i64 v5).bind fun n6 =>
g62_l7 u0 n6 (0, 0, 0) w0))

theorem g62_eq (u0 : Option Addr) (w0 : World) : evFn Try.prog 62 g62_ann #[.pointer u0] w0 = g62 u0 w0 := by kernel_rfl

theorem g62_call {u0 : Option Addr} {w0 : World} {r : Value × World} (h : g62 u0 w0 = some r) : callF Try.prog 62 #[.pointer u0] w0 = some r :=
  callF_of_evFn (ann := g62_ann) Try.call62 (by kernel_rfl) ((g62_eq u0 w0).trans h)

theorem g62_l7_ret_of {u0 : Option Addr} {n6 : Int} {s t : Int × Int × Int} {w w' : World} (h : loopS (g62_l7_b u0 n6) s w = some (.ret, t, w')) : g62_l7 u0 n6 s w = g62_l7_ret t w' := by
  have h1 : g62_l7 u0 n6 s w = loopM Try.prog 85 62 g62_ann (cAt [1, 1, 1, 1, 1, 0, 0] (bodyOf Try.f62)) [0, 1, 1, 1, 1, 1] g62_K44 ((g62_l7_cs u0 n6) ++ sputs [(2, .i .u64), (4, .i .u64), (5, .i .i64)] s) w := by kernel_rfl
  have h2 : loopM Try.prog 85 62 g62_ann (cAt [1, 1, 1, 1, 1, 0, 0] (bodyOf Try.f62)) [0, 1, 1, 1, 1, 1] g62_K44 ((g62_l7_cs u0 n6) ++ sputs [(2, .i .u64), (4, .i .u64), (5, .i .i64)] s) w = g62_K44 (.ret) (puts 85 ((g62_l7_cs u0 n6) ++ sputs [(2, .i .u64), (4, .i .u64), (5, .i .i64)] t)) w' :=
    loop_rule (P := Try.prog) (N := 85) (f := 62) (ann := g62_ann) (body := (cAt [1, 1, 1, 1, 1, 0, 0] (bodyOf Try.f62))) (pt := [0, 1, 1, 1, 1, 1]) (K := g62_K44) (g62_l7_cs u0 n6) [(2, .i .u64), (4, .i .u64), (5, .i .i64)] (b := g62_l7_b u0 n6) (fun s w => by kernel_rfl) (by kernel_rfl) (by kernel_rfl) (by kernel_rfl) h
  have h3 : g62_K44 (.ret) (puts 85 ((g62_l7_cs u0 n6) ++ sputs [(2, .i .u64), (4, .i .u64), (5, .i .i64)] t)) w' = g62_l7_ret t w' := by kernel_rfl
  exact h1.trans (h2.trans h3)

/-! 63: (*penstock/codec.Reader).Flag (r: *codec.Reader) -/
def g63_ann : List (List Nat × List Nat) := []

noncomputable def g63 (u0 : Option Addr) (w0 : World) : Option (Value × World) :=
(callF Try.prog 62 #[.pointer u0] w0).bind fun r1 =>
(asI .u64 r1.1).bind fun n2 =>
if (decide ((n2 : Int) > 1)) = true then
((callF Try.prog 82 #[.pointer u0, .int .i64 7] r1.2).bind fun r3 =>
(asTup 0 r3.1).bind fun _ =>
some (.bool false, r3.2))
else
(some (.bool ((n2 : Int) == 1), r1.2))

theorem g63_eq (u0 : Option Addr) (w0 : World) : evFn Try.prog 63 g63_ann #[.pointer u0] w0 = g63 u0 w0 := by kernel_rfl

theorem g63_call {u0 : Option Addr} {w0 : World} {r : Value × World} (h : g63 u0 w0 = some r) : callF Try.prog 63 #[.pointer u0] w0 = some r :=
  callF_of_evFn (ann := g63_ann) Try.call63 (by kernel_rfl) ((g63_eq u0 w0).trans h)

/-! 65: penstock/penstockref03.Uint (n: uint64) -/
def g65_ann : List (List Nat × List Nat) := [([0, 1, 1], [0, 2, 3])]

def g65_l1_cs  : List (Nat × Value) := ([] : List (Nat × Value))

/-- the round of a loop (penstock/penstockref03.Uint) -/
noncomputable def g65_l1_b  (s2 : Int × (Option Addr × Nat × Nat) × (Option Addr × Nat × Nat)) (w3 : World) : Option (Exit × (Int × (Option Addr × Nat × Nat) × (Option Addr × Nat × Nat)) × World) :=
if (((IntKind.u64.wrap (Int.tdiv s2.1 128)) : Int) == 0) = true then
((callB Try.prog .append #[43, 43] 43 #[false, false] #[.slice s2.2.2.1 s2.2.2.2.1 s2.2.2.2.2, .slice (some (⟨w3.heap.size, 0, none⟩)) 1 1] (World.alloc w3 (.cells #[.int .u8 (IntKind.u8.wrap (Int.tmod s2.1 128))] 5))).bind fun r4 =>
(asSl r4.1).bind fun q5 =>
some (.ret, ((IntKind.u64.wrap (Int.tdiv s2.1 128)), (q5.1, q5.2.1, q5.2.2), (q5.1, q5.2.1, q5.2.2)), r4.2))
else
((callB Try.prog .append #[43, 43] 43 #[false, false] #[.slice s2.2.2.1 s2.2.2.2.1 s2.2.2.2.2, .slice (some (⟨w3.heap.size, 0, none⟩)) 1 1] (World.alloc w3 (.cells #[.int .u8 (IntKind.u8.wrap (IntKind.u64.wrap ((Int.tmod s2.1 128) + 128)))] 5))).bind fun r6 =>
(asSl r6.1).bind fun q7 =>
some (.normal, ((IntKind.u64.wrap (Int.tdiv s2.1 128)), (s2.2.1.1, s2.2.1.2.1, s2.2.1.2.2), (q7.1, q7.2.1, q7.2.2)), r6.2))

noncomputable def g65_K8  : Exit → Env → World → Option (Value × World) :=
  retK Try.prog Try.f65.results.toList

noncomputable def g65_K9  : Exit → Env → World → Option (Value × World) :=
  blkK 0 g65_K8

/-- the loop, from a state on -/
noncomputable def g65_l1  (s : Int × (Option Addr × Nat × Nat) × (Option Addr × Nat × Nat)) (w : World) : Option (Value × World) :=
  loopM Try.prog 23 65 g65_ann (cAt [1, 1, 0, 0] (bodyOf Try.f65)) [0, 1, 1] g65_K9 (g65_l1_cs ++ sputs [(0, .i .u64), (2, .sl), (3, .sl)] s) w

/-- behind the loop, left by ret -/
noncomputable def g65_l1_ret  (t10 : Int × (Option Addr × Nat × Nat) × (Option Addr × Nat × Nat)) (w11 : World) : Option (Value × World) :=
some (.slice t10.2.1.1 t10.2.1.2.1 t10.2.1.2.2, w11)

noncomputable def g65 (u0 : Int) (w0 : World) : Option (Value × World) :=
g65_l1 (u0, (none, 0, 0), (none, 0, 0)) w0

theorem g65_eq (u0 : Int) (w0 : World) : evFn Try.prog 65 g65_ann #[.int .u64 u0] w0 = g65 u0 w0 := by kernel_rfl

theorem g65_call {u0 : Int} {w0 : World} {r : Value × World} (h : g65 u0 w0 = some r) : callF Try.prog 65 #[.int .u64 u0] w0 = some r :=
  callF_of_evFn (ann := g65_ann) Try.call65 (by kernel_rfl) ((g65_eq u0 w0).trans h)

theorem g65_l1_ret_of  {s t : Int × (Option Addr × Nat × Nat) × (Option Addr × Nat × Nat)} {w w' : World} (h : loopS (g65_l1_b) s w = some (.ret, t, w')) : g65_l1 s w = g65_l1_ret t w' := by
  have h1 : g65_l1 s w = loopM Try.prog 23 65 g65_ann (cAt [1, 1, 0, 0] (bodyOf Try.f65)) [0, 1, 1] g65_K9 (g65_l1_cs ++ sputs [(0, .i .u64), (2, .sl), (3, .sl)] s) w := by kernel_rfl
  have h2 : loopM Try.prog 23 65 g65_ann (cAt [1, 1, 0, 0] (bodyOf Try.f65)) [0, 1, 1] g65_K9 (g65_l1_cs ++ sputs [(0, .i .u64), (2, .sl), (3, .sl)] s) w = g65_K9 (.ret) (puts 23 (g65_l1_cs ++ sputs [(0, .i .u64), (2, .sl), (3, .sl)] t)) w' :=
    loop_rule (P := Try.prog) (N := 23) (f := 65) (ann := g65_ann) (body := (cAt [1, 1, 0, 0] (bodyOf Try.f65))) (pt := [0, 1, 1]) (K := g65_K9) g65_l1_cs [(0, .i .u64), (2, .sl), (3, .sl)] (b := g65_l1_b) (fun s w => by kernel_rfl) (by kernel_rfl) (by kernel_rfl) (by kernel_rfl) h
  have h3 : g65_K9 (.ret) (puts 23 (g65_l1_cs ++ sputs [(0, .i .u64), (2, .sl), (3, .sl)] t)) w' = g65_l1_ret t w' := by kernel_rfl
  exact h1.trans (h2.trans h3)

/-! 66: penstock/penstockref03.Flag (is: bool) -/
def g66_ann : List (List Nat × List Nat) := []

noncomputable def g66 (u0 : Bool) (w0 : World) : Option (Value × World) :=
if u0 = true then
(some (.slice (some (⟨w0.heap.size, 0, none⟩)) 1 1, (World.alloc w0 (.cells #[.int .u8 1] 5))))
else
(some (.slice (some (⟨w0.heap.size, 0, none⟩)) 1 1, (World.alloc w0 (.cells #[.int .u8 0] 5))))

theorem g66_eq (u0 : Bool) (w0 : World) : evFn Try.prog 66 g66_ann #[.bool u0] w0 = g66 u0 w0 := by kernel_rfl

theorem g66_call {u0 : Bool} {w0 : World} {r : Value × World} (h : g66 u0 w0 = some r) : callF Try.prog 66 #[.bool u0] w0 = some r :=
  callF_of_evFn (ann := g66_ann) Try.call66 (by kernel_rfl) ((g66_eq u0 w0).trans h)

/-! 79: penstock/penstockref03.Zig (n: int) -/
def g79_ann : List (List Nat × List Nat) := []

noncomputable def g79 (u0 : Int) (w0 : World) : Option (Value × World) :=
if (decide ((u0 : Int) ≥ 0)) = true then
(some (.int .u64 (IntKind.u64.wrap (2 * (IntKind.u64.wrap u0))), w0))
else
(some (.int .u64 (IntKind.u64.wrap ((IntKind.u64.wrap (2 * (IntKind.u64.wrap (IntKind.i64.wrap (0 - (IntKind.i64.wrap (u0 + 1))))))) + 1)), w0))

theorem g79_eq (u0 : Int) (w0 : World) : evFn Try.prog 79 g79_ann #[.int .i64 u0] w0 = g79 u0 w0 := by kernel_rfl

theorem g79_call {u0 : Int} {w0 : World} {r : Value × World} (h : g79 u0 w0 = some r) : callF Try.prog 79 #[.int .i64 u0] w0 = some r :=
  callF_of_evFn (ann := g79_ann) Try.call79 (by kernel_rfl) ((g79_eq u0 w0).trans h)

/-! 80: penstock/penstockref03.Zag (n: uint64) -/
def g80_ann : List (List Nat × List Nat) := []

noncomputable def g80 (u0 : Int) (w0 : World) : Option (Value × World) :=
if (((Int.tmod u0 2) : Int) == 0) = true then
(some (.int .i64 (IntKind.i64.wrap (IntKind.u64.wrap (Int.tdiv u0 2))), w0))
else
(some (.int .i64 (IntKind.i64.wrap ((IntKind.i64.wrap (0 - (IntKind.i64.wrap (IntKind.u64.wrap (Int.tdiv u0 2))))) - 1)), w0))

theorem g80_eq (u0 : Int) (w0 : World) : evFn Try.prog 80 g80_ann #[.int .u64 u0] w0 = g80 u0 w0 := by kernel_rfl

theorem g80_call {u0 : Int} {w0 : World} {r : Value × World} (h : g80 u0 w0 = some r) : callF Try.prog 80 #[.int .u64 u0] w0 = some r :=
  callF_of_evFn (ann := g80_ann) Try.call80 (by kernel_rfl) ((g80_eq u0 w0).trans h)

/-! 81: (*penstock/penstockref03.Reader).fail (r: *penstockref03.Reader, e: int) -/
def g81_ann : List (List Nat × List Nat) := []

noncomputable def g81 (u0 : Option Addr) (u1 : Int) (w0 : World) : Option (Value × World) :=
u0.bind fun a1 =>
(World.cell? w0 (Addr.add a1 2)).bind fun v2 =>
(asI .i64 v2).bind fun n3 =>
if ((n3 : Int) == 0) = true then
(u0.bind fun a4 =>
(st1 w0 (Addr.add a4 2) (.int .i64 u1)).bind fun w5 =>
some (.tuple #[], w5))
else
(some (.tuple #[], w0))

theorem g81_eq (u0 : Option Addr) (u1 : Int) (w0 : World) : evFn Try.prog 81 g81_ann #[.pointer u0, .int .i64 u1] w0 = g81 u0 u1 w0 := by kernel_rfl

theorem g81_call {u0 : Option Addr} {u1 : Int} {w0 : World} {r : Value × World} (h : g81 u0 u1 w0 = some r) : callF Try.prog 81 #[.pointer u0, .int .i64 u1] w0 = some r :=
  callF_of_evFn (ann := g81_ann) Try.call81 (by kernel_rfl) ((g81_eq u0 u1 w0).trans h)

/-! 82: (*penstock/codec.Reader).fail (r: *codec.Reader, e: api.Errno) -/
def g82_ann : List (List Nat × List Nat) := []

noncomputable def g82 (u0 : Option Addr) (u1 : Int) (w0 : World) : Option (Value × World) :=
u0.bind fun a1 =>
(World.cell? w0 (Addr.add a1 2)).bind fun v2 =>
(asI .i64 v2).bind fun n3 =>
if ((n3 : Int) == 0) = true then
(u0.bind fun a4 =>
(st1 w0 (Addr.add a4 2) (.int .i64 u1)).bind fun w5 =>
some (.tuple #[], w5))
else
(some (.tuple #[], w0))

theorem g82_eq (u0 : Option Addr) (u1 : Int) (w0 : World) : evFn Try.prog 82 g82_ann #[.pointer u0, .int .i64 u1] w0 = g82 u0 u1 w0 := by kernel_rfl

theorem g82_call {u0 : Option Addr} {u1 : Int} {w0 : World} {r : Value × World} (h : g82 u0 u1 w0 = some r) : callF Try.prog 82 #[.pointer u0, .int .i64 u1] w0 = some r :=
  callF_of_evFn (ann := g82_ann) Try.call82 (by kernel_rfl) ((g82_eq u0 u1 w0).trans h)

end Go.Proofs.Ytjcenfgmpbeldaa
