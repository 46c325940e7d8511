/-
  ImageV: lemmas on what Go functions of this seat come to (for whatever arguments, as each says). No condition but those that stand in each lemma.
-/
import Derived.Test.YtjcenfgmpbeldaaLb9
import Derived.Test.YtjcenfgmpbeldaaProg
namespace Go.Proofs.Ytjcenfgmpbeldaa
open Go Go.Ev
set_option maxRecDepth 100000
set_option linter.unusedVariables false
/-! 25: penstock/penstockref13.DocEncode (c: api.Cmd) -/
/-! 26: penstock/penstockref13.DocDecode (text: []uint8) -/
/-! 27: penstock/image.Encode (c: api.Cmd) -/
/-! 28: penstock/penstockref03.Same (a: []uint8, b: []uint8) -/
def g28_ann : List (List Nat × List Nat) := [([0, 1, 0, 1, 1], [0, 1, 4, 5])]

def g28_l3_cs (u0 : Option Addr × Nat × Nat) (u1 : Option Addr × Nat × Nat) : List (Nat × Value) := ([(0, .slice u0.1 u0.2.1 u0.2.2), (1, .slice u1.1 u1.2.1 u1.2.2)] : List (Nat × Value))

/-- the round of a loop (penstock/penstockref03.Same) -/
noncomputable def g28_l3_b (u0 : Option Addr × Nat × Nat) (u1 : Option Addr × Nat × Nat) (s4 : Bool × Int) (w5 : World) : Option (Exit × (Bool × Int) × World) :=
if (decide ((s4.2 : Int) < (u0.2.1 : Int))) = true then
((idxA u0.1 u0.2.1 1 s4.2).bind fun a7 =>
(World.cell? (World.drew w5) a7).bind fun v8 =>
(asI .u8 v8).bind fun n9 =>
(idxA u1.1 u1.2.1 1 s4.2).bind fun a10 =>
(World.cell? (World.drew w5) a10).bind fun v11 =>
(asI .u8 v11).bind fun n12 =>
if ((n9 : Int) != n12) = true then
(some (.ret, (false, s4.2), (World.drew w5)))
else
(some (.normal, (s4.1, (IntKind.i64.wrap (s4.2 + 1))), (World.drew w5))))
else
(some ((.exit 0), (s4.1, s4.2), w5))

noncomputable def g28_K13  : Exit → Env → World → Option (Value × World) :=
  retK Try.prog Try.f28.results.toList

noncomputable def g28_K14  : Exit → Env → World → Option (Value × World) :=
  seqK (ev Try.prog 26 28 g28_ann (cAt [1, 1, 1] (bodyOf Try.f28)) [1, 1, 1] g28_K13) g28_K13

noncomputable def g28_K15  : Exit → Env → World → Option (Value × World) :=
  blkK 0 g28_K14

/-- the loop, from a state on -/
noncomputable def g28_l3 (u0 : Option Addr × Nat × Nat) (u1 : Option Addr × Nat × Nat) (s : Bool × Int) (w : World) : Option (Value × World) :=
  loopM Try.prog 26 28 g28_ann (cAt [1, 1, 0, 1, 0, 0] (bodyOf Try.f28)) [0, 1, 0, 1, 1] g28_K15 ((g28_l3_cs u0 u1) ++ sputs [(4, .b), (5, .i .i64)] s) w

/-- behind the loop, left by x0 -/
noncomputable def g28_l3_x0  (t16 : Bool × Int) (w17 : World) : Option (Value × World) :=
some (.bool true, w17)

noncomputable def g28 (u0 : Option Addr × Nat × Nat) (u1 : Option Addr × Nat × Nat) (w0 : World) : Option (Value × World) :=
if (((u0.2.1 : Int) : Int) != (u1.2.1 : Int)) = true then
(some (.bool false, w0))
else
(g28_l3 u0 u1 (false, 0) w0)

theorem g28_eq (u0 : Option Addr × Nat × Nat) (u1 : Option Addr × Nat × Nat) (w0 : World) : evFn Try.prog 28 g28_ann #[.slice u0.1 u0.2.1 u0.2.2, .slice u1.1 u1.2.1 u1.2.2] w0 = g28 u0 u1 w0 := by kernel_rfl

theorem g28_call {u0 : Option Addr × Nat × Nat} {u1 : Option Addr × Nat × Nat} {w0 : World} {r : Value × World} (h : g28 u0 u1 w0 = some r) : callF Try.prog 28 #[.slice u0.1 u0.2.1 u0.2.2, .slice u1.1 u1.2.1 u1.2.2] w0 = some r :=
  callF_of_evFn (ann := g28_ann) Try.call28 (by kernel_rfl) ((g28_eq u0 u1 w0).trans h)

theorem g28_l3_x0_of {u0 : Option Addr × Nat × Nat} {u1 : Option Addr × Nat × Nat} {s t : Bool × Int} {w w' : World} (h : loopS (g28_l3_b u0 u1) s w = some (.exit 0, t, w')) : g28_l3 u0 u1 s w = g28_l3_x0 t w' := by
  have h1 : g28_l3 u0 u1 s w = loopM Try.prog 26 28 g28_ann (cAt [1, 1, 0, 1, 0, 0] (bodyOf Try.f28)) [0, 1, 0, 1, 1] g28_K15 ((g28_l3_cs u0 u1) ++ sputs [(4, .b), (5, .i .i64)] s) w := by kernel_rfl
  have h2 : loopM Try.prog 26 28 g28_ann (cAt [1, 1, 0, 1, 0, 0] (bodyOf Try.f28)) [0, 1, 0, 1, 1] g28_K15 ((g28_l3_cs u0 u1) ++ sputs [(4, .b), (5, .i .i64)] s) w = g28_K15 (.exit 0) (puts 26 ((g28_l3_cs u0 u1) ++ sputs [(4, .b), (5, .i .i64)] t)) w' :=
    loop_rule (P := Try.prog) (N := 26) (f := 28) (ann := g28_ann) (body := (cAt [1, 1, 0, 1, 0, 0] (bodyOf Try.f28))) (pt := [0, 1, 0, 1, 1]) (K := g28_K15) (g28_l3_cs u0 u1) [(4, .b), (5, .i .i64)] (b := g28_l3_b u0 u1) (fun s w => by kernel_rfl) (by kernel_rfl) (by kernel_rfl) (by kernel_rfl) h
  have h3 : g28_K15 (.exit 0) (puts 26 ((g28_l3_cs u0 u1) ++ sputs [(4, .b), (5, .i .i64)] t)) w' = g28_l3_x0 t w' := by kernel_rfl
  exact h1.trans (h2.trans h3)

/-! 29: penstock/penstockref13.SameCmd (a: api.Cmd, b: api.Cmd) -/
/-! 30: penstock/image.Decode (b: []uint8) -/
/-! 44: penstock/codec.NewWriter () -/
/-! 45: (*penstock/codec.Writer).Uint (w: *codec.Writer, n: uint64) -/
/-! 46: (*penstock/codec.Writer).Flag (w: *codec.Writer, b: bool) -/
/-! 47: (*penstock/codec.Writer).Int (w: *codec.Writer, n: int) -/
/-! 48: (*penstock/codec.Writer).Ints (w: *codec.Writer, l: []int) -/
/-! 49: (*penstock/codec.Writer).Out (w: *codec.Writer) -/
/-! 50: penstock/penstockref03.Int (n: int) -/
noncomputable def g50 (u0 : Int) (w0 : World) : Option (Value × World) :=
(callF Try.prog 79 #[.int .i64 u0] w0).bind fun r1 =>
(asI .u64 r1.1).bind fun n2 =>
(callF Try.prog 65 #[.int .u64 n2] r1.2).bind fun r3 =>
(asSl r3.1).bind fun q4 =>
some (.slice q4.1 q4.2.1 q4.2.2, r3.2)

/-! 51: penstock/penstockref03.Ints (l: []int) -/
/-! 52: (*penstock/penstockref03.Reader).Int (r: *penstockref03.Reader) -/
def g52_ann : List (List Nat × List Nat) := []

noncomputable def g52 (u0 : Option Addr) (w0 : World) : Option (Value × World) :=
(callF Try.prog 59 #[.pointer u0] w0).bind fun r1 =>
(asI .u64 r1.1).bind fun n2 =>
(callF Try.prog 80 #[.int .u64 n2] r1.2).bind fun r3 =>
(asI .i64 r3.1).bind fun n4 =>
some (.int .i64 n4, r3.2)

theorem g52_eq (u0 : Option Addr) (w0 : World) : evFn Try.prog 52 g52_ann #[.pointer u0] w0 = g52 u0 w0 := by kernel_rfl

theorem g52_call {u0 : Option Addr} {w0 : World} {r : Value × World} (h : g52 u0 w0 = some r) : callF Try.prog 52 #[.pointer u0] w0 = some r :=
  callF_of_evFn (ann := g52_ann) Try.call52 (by kernel_rfl) ((g52_eq u0 w0).trans h)

/-! 53: (*penstock/penstockref03.Reader).Ints (r: *penstockref03.Reader) -/
def g53_ann : List (List Nat × List Nat) := [([0, 1, 0, 1, 1, 1, 1, 1], [0, 3, 4, 5])]

def g53_l12_cs (u0 : Option Addr) (n2 : Int) : List (Nat × Value) := ([(0, .pointer u0), (3, .int .u64 n2)] : List (Nat × Value))

/-- the round of a loop ((*penstock/penstockref03.Reader).Ints) -/
noncomputable def g53_l12_b (n2 : Int) (u0 : Option Addr) (s13 : (Option Addr × Nat × Nat) × Int) (w14 : World) : Option (Exit × ((Option Addr × Nat × Nat) × Int) × World) :=
if (decide ((s13.2 : Int) < (IntKind.i64.wrap n2))) = true then
(u0.bind fun a15 =>
(World.cell? w14 (Addr.add a15 2)).bind fun v16 =>
(asI .i64 v16).bind fun n17 =>
if ((n17 : Int) == 0) = true then
((callF Try.prog 52 #[.pointer u0] w14).bind fun r18 =>
(asI .i64 r18.1).bind fun n19 =>
(callB Try.prog .append #[28, 28] 28 #[false, false] #[.slice s13.1.1 s13.1.2.1 s13.1.2.2, .slice (some (⟨r18.2.heap.size, 0, none⟩)) 1 1] (World.alloc r18.2 (.cells #[.int .i64 n19] 3))).bind fun r20 =>
(asSl r20.1).bind fun q21 =>
some (.normal, ((q21.1, q21.2.1, q21.2.2), (IntKind.i64.wrap (s13.2 + 1))), r20.2))
else
(some ((.exit 0), ((s13.1.1, s13.1.2.1, s13.1.2.2), s13.2), w14)))
else
(some ((.exit 0), ((s13.1.1, s13.1.2.1, s13.1.2.2), s13.2), w14))

noncomputable def g53_K22  : Exit → Env → World → Option (Value × World) :=
  retK Try.prog Try.f53.results.toList

noncomputable def g53_K23  : Exit → Env → World → Option (Value × World) :=
  seqK (ev Try.prog 48 53 g53_ann (cAt [1, 1, 1, 1, 1, 1] (bodyOf Try.f53)) [1, 1, 1, 1, 1, 1] g53_K22) g53_K22

noncomputable def g53_K24  : Exit → Env → World → Option (Value × World) :=
  blkK 0 g53_K23

/-- the loop, from a state on -/
noncomputable def g53_l12 (u0 : Option Addr) (n2 : Int) (s : (Option Addr × Nat × Nat) × Int) (w : World) : Option (Value × World) :=
  loopM Try.prog 48 53 g53_ann (cAt [1, 1, 1, 1, 1, 0, 1, 0, 0] (bodyOf Try.f53)) [0, 1, 0, 1, 1, 1, 1, 1] g53_K24 ((g53_l12_cs u0 n2) ++ sputs [(4, .sl), (5, .i .i64)] s) w

/-- behind the loop, left by x0 -/
noncomputable def g53_l12_x0 (u0 : Option Addr) (t25 : (Option Addr × Nat × Nat) × Int) (w26 : World) : Option (Value × World) :=
u0.bind fun a27 =>
(World.cell? w26 (Addr.add a27 2)).bind fun v28 =>
(asI .i64 v28).bind fun n29 =>
if ((n29 : Int) != 0) = true then
(some (.slice none 0 0, w26))
else
(some (.slice t25.1.1 t25.1.2.1 t25.1.2.2, w26))

noncomputable def g53_j3 (u0 : Option Addr) (n2 : Int) (w8 : World) : Option (Value × World) :=
u0.bind fun a9 =>
(World.cell? w8 (Addr.add a9 2)).bind fun v10 =>
(asI .i64 v10).bind fun n11 =>
if ((n11 : Int) != 0) = true then
(some (.slice none 0 0, w8))
else
(g53_l12 u0 n2 ((none, 0, 0), 0) w8)

noncomputable def g53 (u0 : Option Addr) (w0 : World) : Option (Value × World) :=
(callF Try.prog 59 #[.pointer u0] w0).bind fun r1 =>
(asI .u64 r1.1).bind fun n2 =>
u0.bind fun a4 =>
(World.cell? r1.2 (Addr.add a4 2)).bind fun v5 =>
(asI .i64 v5).bind fun n6 =>
if ((n6 : Int) == 0) = true then
(if (decide ((n2 : Int) > 4096)) = true then
((callF Try.prog 81 #[.pointer u0, .int .i64 2] r1.2).bind fun r7 =>
(asTup 0 r7.1).bind fun _ =>
g53_j3 u0 n2 r7.2)
else
(g53_j3 u0 n2 r1.2))
else
(g53_j3 u0 n2 r1.2)

theorem g53_eq (u0 : Option Addr) (w0 : World) : evFn Try.prog 53 g53_ann #[.pointer u0] w0 = g53 u0 w0 := by kernel_rfl

theorem g53_call {u0 : Option Addr} {w0 : World} {r : Value × World} (h : g53 u0 w0 = some r) : callF Try.prog 53 #[.pointer u0] w0 = some r :=
  callF_of_evFn (ann := g53_ann) Try.call53 (by kernel_rfl) ((g53_eq u0 w0).trans h)

theorem g53_l12_x0_of {u0 : Option Addr} {n2 : Int} {s t : (Option Addr × Nat × Nat) × Int} {w w' : World} (h : loopS (g53_l12_b n2 u0) s w = some (.exit 0, t, w')) : g53_l12 u0 n2 s w = g53_l12_x0 u0 t w' := by
  have h1 : g53_l12 u0 n2 s w = loopM Try.prog 48 53 g53_ann (cAt [1, 1, 1, 1, 1, 0, 1, 0, 0] (bodyOf Try.f53)) [0, 1, 0, 1, 1, 1, 1, 1] g53_K24 ((g53_l12_cs u0 n2) ++ sputs [(4, .sl), (5, .i .i64)] s) w := by kernel_rfl
  have h2 : loopM Try.prog 48 53 g53_ann (cAt [1, 1, 1, 1, 1, 0, 1, 0, 0] (bodyOf Try.f53)) [0, 1, 0, 1, 1, 1, 1, 1] g53_K24 ((g53_l12_cs u0 n2) ++ sputs [(4, .sl), (5, .i .i64)] s) w = g53_K24 (.exit 0) (puts 48 ((g53_l12_cs u0 n2) ++ sputs [(4, .sl), (5, .i .i64)] t)) w' :=
    loop_rule (P := Try.prog) (N := 48) (f := 53) (ann := g53_ann) (body := (cAt [1, 1, 1, 1, 1, 0, 1, 0, 0] (bodyOf Try.f53))) (pt := [0, 1, 0, 1, 1, 1, 1, 1]) (K := g53_K24) (g53_l12_cs u0 n2) [(4, .sl), (5, .i .i64)] (b := g53_l12_b n2 u0) (fun s w => by kernel_rfl) (by kernel_rfl) (by kernel_rfl) (by kernel_rfl) h
  have h3 : g53_K24 (.exit 0) (puts 48 ((g53_l12_cs u0 n2) ++ sputs [(4, .sl), (5, .i .i64)] t)) w' = g53_l12_x0 u0 t w' := by kernel_rfl
  exact h1.trans (h2.trans h3)

/-! 54: (*penstock/penstockref03.Reader).End (r: *penstockref03.Reader) -/
def g54_ann : List (List Nat × List Nat) := []

noncomputable def g54 (u0 : Option Addr) (w0 : World) : Option (Value × World) :=
u0.bind fun a1 =>
(World.cell? (World.drew w0) (Addr.add a1 2)).bind fun v2 =>
(asI .i64 v2).bind fun n3 =>
if ((n3 : Int) == 0) = true then
(u0.bind fun a4 =>
(World.cell? (World.drew w0) (Addr.add a4 1)).bind fun v5 =>
(asI .i64 v5).bind fun n6 =>
u0.bind fun a7 =>
(World.cell? (World.drew w0) a7).bind fun v8 =>
(asSl v8).bind fun q9 =>
if (decide ((n6 : Int) < (q9.2.1 : Int))) = true then
(some (.int .i64 6, (World.drew w0)))
else
(u0.bind fun a11 =>
(World.cell? (World.drew w0) (Addr.add a11 2)).bind fun v12 =>
(asI .i64 v12).bind fun n13 =>
some (.int .i64 n13, (World.drew w0))))
else
(u0.bind fun a14 =>
(World.cell? (World.drew w0) (Addr.add a14 2)).bind fun v15 =>
(asI .i64 v15).bind fun n16 =>
some (.int .i64 n16, (World.drew w0)))

theorem g54_eq (u0 : Option Addr) (w0 : World) : evFn Try.prog 54 g54_ann #[.pointer u0] w0 = g54 u0 w0 := by kernel_rfl

theorem g54_call {u0 : Option Addr} {w0 : World} {r : Value × World} (h : g54 u0 w0 = some r) : callF Try.prog 54 #[.pointer u0] w0 = some r :=
  callF_of_evFn (ann := g54_ann) Try.call54 (by kernel_rfl) ((g54_eq u0 w0).trans h)

/-! 55: penstock/codec.NewReader (b: []uint8) -/
def g55_ann : List (List Nat × List Nat) := []

noncomputable def g55 (u0 : Option Addr × Nat × Nat) (w0 : World) : Option (Value × World) :=
(callB Try.prog .append #[43, 43] 43 #[true, false] #[.slice none 0 0, .slice u0.1 u0.2.1 u0.2.2] w0).bind fun r1 =>
(asSl r1.1).bind fun q2 =>
some (.pointer (some (⟨r1.2.heap.size, 0, none⟩)), (World.alloc r1.2 (.cells #[.slice q2.1 q2.2.1 q2.2.2, .int .i64 0, .int .i64 0] 134)))

theorem g55_eq (u0 : Option Addr × Nat × Nat) (w0 : World) : evFn Try.prog 55 g55_ann #[.slice u0.1 u0.2.1 u0.2.2] w0 = g55 u0 w0 := by kernel_rfl

theorem g55_call {u0 : Option Addr × Nat × Nat} {w0 : World} {r : Value × World} (h : g55 u0 w0 = some r) : callF Try.prog 55 #[.slice u0.1 u0.2.1 u0.2.2] w0 = some r :=
  callF_of_evFn (ann := g55_ann) Try.call55 (by kernel_rfl) ((g55_eq u0 w0).trans h)

/-! 56: (*penstock/codec.Reader).Int (r: *codec.Reader) -/
def g56_ann : List (List Nat × List Nat) := []

noncomputable def g56 (u0 : Option Addr) (w0 : World) : Option (Value × World) :=
(callF Try.prog 62 #[.pointer u0] w0).bind fun r1 =>
(asI .u64 r1.1).bind fun n2 =>
some (.int .i64 (IntKind.i64.wrap ((BitVec.ofInt 64 (IntKind.i64.wrap (Int.fdiv n2 (2 ^ (min (Int.toNat 1) 64)))) ^^^ BitVec.ofInt 64 (IntKind.i64.wrap (0 - (IntKind.i64.wrap (IntKind.u64.wrap ((BitVec.ofInt 64 n2 &&& BitVec.ofInt 64 1).toNat : Nat)))))).toNat : Nat)), r1.2)

theorem g56_eq (u0 : Option Addr) (w0 : World) : evFn Try.prog 56 g56_ann #[.pointer u0] w0 = g56 u0 w0 := by kernel_rfl

theorem g56_call {u0 : Option Addr} {w0 : World} {r : Value × World} (h : g56 u0 w0 = some r) : callF Try.prog 56 #[.pointer u0] w0 = some r :=
  callF_of_evFn (ann := g56_ann) Try.call56 (by kernel_rfl) ((g56_eq u0 w0).trans h)

/-! 57: (*penstock/codec.Reader).Ints (r: *codec.Reader) -/
def g57_ann : List (List Nat × List Nat) := [([0, 1, 0, 1, 1, 1, 1], [0, 12, 2, 4, 13])]

def g57_l4_cs (u0 : Option Addr) (n2 : Int) : List (Nat × Value) := ([(0, .pointer u0), (12, .int .u64 n2)] : List (Nat × Value))

/-- the round of a loop ((*penstock/codec.Reader).Ints) -/
noncomputable def g57_l4_b (n2 : Int) (u0 : Option Addr) (s5 : (Option Addr × Nat × Nat) × (Option Addr × Nat × Nat) × Int) (w6 : World) : Option (Exit × ((Option Addr × Nat × Nat) × (Option Addr × Nat × Nat) × Int) × World) :=
if (decide ((s5.2.2 : Int) < n2)) = true then
((callF Try.prog 56 #[.pointer u0] w6).bind fun r7 =>
(asI .i64 r7.1).bind fun n8 =>
u0.bind fun a9 =>
(World.cell? r7.2 (Addr.add a9 2)).bind fun v10 =>
(asI .i64 v10).bind fun n11 =>
if ((n11 : Int) != 0) = true then
(some (.ret, ((none, 0, 0), (s5.2.1.1, s5.2.1.2.1, s5.2.1.2.2), s5.2.2), r7.2))
else
((callB Try.prog .append #[28, 28] 28 #[false, false] #[.slice s5.2.1.1 s5.2.1.2.1 s5.2.1.2.2, .slice (some (⟨r7.2.heap.size, 0, none⟩)) 1 1] (World.alloc r7.2 (.cells #[.int .i64 n8] 3))).bind fun r12 =>
(asSl r12.1).bind fun q13 =>
some (.normal, ((s5.1.1, s5.1.2.1, s5.1.2.2), (q13.1, q13.2.1, q13.2.2), (IntKind.u64.wrap (s5.2.2 + 1))), r12.2)))
else
(some ((.exit 0), ((s5.1.1, s5.1.2.1, s5.1.2.2), (s5.2.1.1, s5.2.1.2.1, s5.2.1.2.2), s5.2.2), w6))

noncomputable def g57_K14  : Exit → Env → World → Option (Value × World) :=
  retK Try.prog Try.f57.results.toList

noncomputable def g57_K15  : Exit → Env → World → Option (Value × World) :=
  seqK (ev Try.prog 28 57 g57_ann (cAt [1, 1, 1, 1, 1] (bodyOf Try.f57)) [1, 1, 1, 1, 1] g57_K14) g57_K14

noncomputable def g57_K16  : Exit → Env → World → Option (Value × World) :=
  blkK 0 g57_K15

/-- the loop, from a state on -/
noncomputable def g57_l4 (u0 : Option Addr) (n2 : Int) (s : (Option Addr × Nat × Nat) × (Option Addr × Nat × Nat) × Int) (w : World) : Option (Value × World) :=
  loopM Try.prog 28 57 g57_ann (cAt [1, 1, 1, 1, 0, 1, 0, 0] (bodyOf Try.f57)) [0, 1, 0, 1, 1, 1, 1] g57_K16 ((g57_l4_cs u0 n2) ++ sputs [(2, .sl), (4, .sl), (13, .i .u64)] s) w

/-- behind the loop, left by x0 -/
noncomputable def g57_l4_x0  (t17 : (Option Addr × Nat × Nat) × (Option Addr × Nat × Nat) × Int) (w18 : World) : Option (Value × World) :=
some (.slice t17.2.1.1 t17.2.1.2.1 t17.2.1.2.2, w18)

/-- behind the loop, left by ret -/
noncomputable def g57_l4_ret  (t19 : (Option Addr × Nat × Nat) × (Option Addr × Nat × Nat) × Int) (w20 : World) : Option (Value × World) :=
some (.slice t19.1.1 t19.1.2.1 t19.1.2.2, w20)

noncomputable def g57 (u0 : Option Addr) (w0 : World) : Option (Value × World) :=
(callF Try.prog 62 #[.pointer u0] w0).bind fun r1 =>
(asI .u64 r1.1).bind fun n2 =>
if (decide ((n2 : Int) > 4096)) = true then
((callF Try.prog 82 #[.pointer u0, .int .i64 2] r1.2).bind fun r3 =>
(asTup 0 r3.1).bind fun _ =>
some (.slice none 0 0, r3.2))
else
(g57_l4 u0 n2 ((none, 0, 0), (none, 0, 0), 0) r1.2)

theorem g57_eq (u0 : Option Addr) (w0 : World) : evFn Try.prog 57 g57_ann #[.pointer u0] w0 = g57 u0 w0 := by kernel_rfl

theorem g57_call {u0 : Option Addr} {w0 : World} {r : Value × World} (h : g57 u0 w0 = some r) : callF Try.prog 57 #[.pointer u0] w0 = some r :=
  callF_of_evFn (ann := g57_ann) Try.call57 (by kernel_rfl) ((g57_eq u0 w0).trans h)

theorem g57_l4_x0_of {u0 : Option Addr} {n2 : Int} {s t : (Option Addr × Nat × Nat) × (Option Addr × Nat × Nat) × Int} {w w' : World} (h : loopS (g57_l4_b n2 u0) s w = some (.exit 0, t, w')) : g57_l4 u0 n2 s w = g57_l4_x0 t w' := by
  have h1 : g57_l4 u0 n2 s w = loopM Try.prog 28 57 g57_ann (cAt [1, 1, 1, 1, 0, 1, 0, 0] (bodyOf Try.f57)) [0, 1, 0, 1, 1, 1, 1] g57_K16 ((g57_l4_cs u0 n2) ++ sputs [(2, .sl), (4, .sl), (13, .i .u64)] s) w := by kernel_rfl
  have h2 : loopM Try.prog 28 57 g57_ann (cAt [1, 1, 1, 1, 0, 1, 0, 0] (bodyOf Try.f57)) [0, 1, 0, 1, 1, 1, 1] g57_K16 ((g57_l4_cs u0 n2) ++ sputs [(2, .sl), (4, .sl), (13, .i .u64)] s) w = g57_K16 (.exit 0) (puts 28 ((g57_l4_cs u0 n2) ++ sputs [(2, .sl), (4, .sl), (13, .i .u64)] t)) w' :=
    loop_rule (P := Try.prog) (N := 28) (f := 57) (ann := g57_ann) (body := (cAt [1, 1, 1, 1, 0, 1, 0, 0] (bodyOf Try.f57))) (pt := [0, 1, 0, 1, 1, 1, 1]) (K := g57_K16) (g57_l4_cs u0 n2) [(2, .sl), (4, .sl), (13, .i .u64)] (b := g57_l4_b n2 u0) (fun s w => by kernel_rfl) (by kernel_rfl) (by kernel_rfl) (by kernel_rfl) h
  have h3 : g57_K16 (.exit 0) (puts 28 ((g57_l4_cs u0 n2) ++ sputs [(2, .sl), (4, .sl), (13, .i .u64)] t)) w' = g57_l4_x0 t w' := by kernel_rfl
  exact h1.trans (h2.trans h3)

theorem g57_l4_ret_of {u0 : Option Addr} {n2 : Int} {s t : (Option Addr × Nat × Nat) × (Option Addr × Nat × Nat) × Int} {w w' : World} (h : loopS (g57_l4_b n2 u0) s w = some (.ret, t, w')) : g57_l4 u0 n2 s w = g57_l4_ret t w' := by
  have h1 : g57_l4 u0 n2 s w = loopM Try.prog 28 57 g57_ann (cAt [1, 1, 1, 1, 0, 1, 0, 0] (bodyOf Try.f57)) [0, 1, 0, 1, 1, 1, 1] g57_K16 ((g57_l4_cs u0 n2) ++ sputs [(2, .sl), (4, .sl), (13, .i .u64)] s) w := by kernel_rfl
  have h2 : loopM Try.prog 28 57 g57_ann (cAt [1, 1, 1, 1, 0, 1, 0, 0] (bodyOf Try.f57)) [0, 1, 0, 1, 1, 1, 1] g57_K16 ((g57_l4_cs u0 n2) ++ sputs [(2, .sl), (4, .sl), (13, .i .u64)] s) w = g57_K16 (.ret) (puts 28 ((g57_l4_cs u0 n2) ++ sputs [(2, .sl), (4, .sl), (13, .i .u64)] t)) w' :=
    loop_rule (P := Try.prog) (N := 28) (f := 57) (ann := g57_ann) (body := (cAt [1, 1, 1, 1, 0, 1, 0, 0] (bodyOf Try.f57))) (pt := [0, 1, 0, 1, 1, 1, 1]) (K := g57_K16) (g57_l4_cs u0 n2) [(2, .sl), (4, .sl), (13, .i .u64)] (b := g57_l4_b n2 u0) (fun s w => by kernel_rfl) (by kernel_rfl) (by kernel_rfl) (by kernel_rfl) h
  have h3 : g57_K16 (.ret) (puts 28 ((g57_l4_cs u0 n2) ++ sputs [(2, .sl), (4, .sl), (13, .i .u64)] t)) w' = g57_l4_ret t w' := by kernel_rfl
  exact h1.trans (h2.trans h3)

/-! 58: (*penstock/codec.Reader).End (r: *codec.Reader) -/
def g58_ann : List (List Nat × List Nat) := []

noncomputable def g58 (u0 : Option Addr) (w0 : World) : Option (Value × World) :=
if (u0.isNone) = true then
(some (.int .i64 5, w0))
else
(u0.bind fun a1 =>
(World.cell? (World.drew w0) (Addr.add a1 2)).bind fun v2 =>
(asI .i64 v2).bind fun n3 =>
if ((n3 : Int) == 0) = true then
(u0.bind fun a4 =>
(World.cell? (World.drew w0) (Addr.add a4 1)).bind fun v5 =>
(asI .i64 v5).bind fun n6 =>
u0.bind fun a7 =>
(World.cell? (World.drew w0) a7).bind fun v8 =>
(asSl v8).bind fun q9 =>
if (decide ((n6 : Int) < (q9.2.1 : Int))) = true then
(some (.int .i64 6, (World.drew w0)))
else
(u0.bind fun a11 =>
(World.cell? (World.drew w0) (Addr.add a11 2)).bind fun v12 =>
(asI .i64 v12).bind fun n13 =>
some (.int .i64 n13, (World.drew w0))))
else
(u0.bind fun a14 =>
(World.cell? (World.drew w0) (Addr.add a14 2)).bind fun v15 =>
(asI .i64 v15).bind fun n16 =>
some (.int .i64 n16, (World.drew w0))))

theorem g58_eq (u0 : Option Addr) (w0 : World) : evFn Try.prog 58 g58_ann #[.pointer u0] w0 = g58 u0 w0 := by kernel_rfl

theorem g58_call {u0 : Option Addr} {w0 : World} {r : Value × World} (h : g58 u0 w0 = some r) : callF Try.prog 58 #[.pointer u0] w0 = some r :=
  callF_of_evFn (ann := g58_ann) Try.call58 (by kernel_rfl) ((g58_eq u0 w0).trans h)

/-! 59: (*penstock/penstockref03.Reader).Uint (r: *penstockref03.Reader) -/
def g59_ann : List (List Nat × List Nat) := [([0, 1, 0, 1, 1, 1], [0, 2, 3, 4])]

def g59_l4_cs (u0 : Option Addr) : List (Nat × Value) := ([(0, .pointer u0)] : List (Nat × Value))

/-- the round of a loop ((*penstock/penstockref03.Reader).Uint) -/
noncomputable def g59_l4_b (u0 : Option Addr) (s5 : Int × Int × Int) (w6 : World) : Option (Exit × (Int × Int × Int) × World) :=
if (decide ((s5.2.2 : Int) < 10)) = true then
(u0.bind fun a7 =>
(World.cell? (World.drew w6) (Addr.add a7 1)).bind fun v8 =>
(asI .i64 v8).bind fun n9 =>
u0.bind fun a10 =>
(World.cell? (World.drew w6) a10).bind fun v11 =>
(asSl v11).bind fun q12 =>
if (decide (((IntKind.i64.wrap (n9 + s5.2.2)) : Int) ≥ (q12.2.1 : Int))) = true then
((callF Try.prog 81 #[.pointer u0, .int .i64 6] (World.drew w6)).bind fun r14 =>
(asTup 0 r14.1).bind fun _ =>
some (.ret, (0, s5.2.1, s5.2.2), r14.2))
else
(u0.bind fun a15 =>
(World.cell? (World.drew (World.drew w6)) a15).bind fun v16 =>
(asSl v16).bind fun q17 =>
u0.bind fun a18 =>
(World.cell? (World.drew (World.drew w6)) (Addr.add a18 1)).bind fun v19 =>
(asI .i64 v19).bind fun n20 =>
(idxA q17.1 q17.2.1 1 (IntKind.i64.wrap (n20 + s5.2.2))).bind fun a21 =>
(World.cell? (World.drew (World.drew w6)) a21).bind fun v22 =>
(asI .u8 v22).bind fun n23 =>
if ((s5.2.2 : Int) == 9) = true then
(if (decide (((IntKind.u64.wrap n23) : Int) > 1)) = true then
((callF Try.prog 81 #[.pointer u0, .int .i64 7] (World.drew (World.drew w6))).bind fun r24 =>
(asTup 0 r24.1).bind fun _ =>
some (.ret, (0, s5.2.1, s5.2.2), r24.2))
else
(if (decide ((s5.2.2 : Int) > 0)) = true then
(if (((IntKind.u64.wrap n23) : Int) == 0) = true then
((callF Try.prog 81 #[.pointer u0, .int .i64 7] (World.drew (World.drew w6))).bind fun r25 =>
(asTup 0 r25.1).bind fun _ =>
some (.ret, (0, s5.2.1, s5.2.2), r25.2))
else
(if ((IntKind.u64.wrap (IntKind.i64.wrap (7 * s5.2.2))) : Int) < 0 then
(none)
else
(if (decide (((IntKind.u64.wrap n23) : Int) < 128)) = true then
(u0.bind fun a26 =>
(World.cell? (World.drew (World.drew w6)) (Addr.add a26 1)).bind fun v27 =>
(asI .i64 v27).bind fun n28 =>
u0.bind fun a29 =>
(st1 (World.drew (World.drew w6)) (Addr.add a29 1) (.int .i64 (IntKind.i64.wrap ((IntKind.i64.wrap (n28 + s5.2.2)) + 1)))).bind fun w30 =>
some (.ret, ((IntKind.u64.wrap (s5.2.1 + (IntKind.u64.wrap ((Int.tmod (IntKind.u64.wrap n23) 128) * 2 ^ (min (Int.toNat (IntKind.u64.wrap (IntKind.i64.wrap (7 * s5.2.2)))) 64))))), (IntKind.u64.wrap (s5.2.1 + (IntKind.u64.wrap ((Int.tmod (IntKind.u64.wrap n23) 128) * 2 ^ (min (Int.toNat (IntKind.u64.wrap (IntKind.i64.wrap (7 * s5.2.2)))) 64))))), s5.2.2), w30))
else
(some (.normal, (s5.1, (IntKind.u64.wrap (s5.2.1 + (IntKind.u64.wrap ((Int.tmod (IntKind.u64.wrap n23) 128) * 2 ^ (min (Int.toNat (IntKind.u64.wrap (IntKind.i64.wrap (7 * s5.2.2)))) 64))))), (IntKind.i64.wrap (s5.2.2 + 1))), (World.drew (World.drew w6)))))))
else
(if ((IntKind.u64.wrap (IntKind.i64.wrap (7 * s5.2.2))) : Int) < 0 then
(none)
else
(if (decide (((IntKind.u64.wrap n23) : Int) < 128)) = true then
(u0.bind fun a31 =>
(World.cell? (World.drew (World.drew w6)) (Addr.add a31 1)).bind fun v32 =>
(asI .i64 v32).bind fun n33 =>
u0.bind fun a34 =>
(st1 (World.drew (World.drew w6)) (Addr.add a34 1) (.int .i64 (IntKind.i64.wrap ((IntKind.i64.wrap (n33 + s5.2.2)) + 1)))).bind fun w35 =>
some (.ret, ((IntKind.u64.wrap (s5.2.1 + (IntKind.u64.wrap ((Int.tmod (IntKind.u64.wrap n23) 128) * 2 ^ (min (Int.toNat (IntKind.u64.wrap (IntKind.i64.wrap (7 * s5.2.2)))) 64))))), (IntKind.u64.wrap (s5.2.1 + (IntKind.u64.wrap ((Int.tmod (IntKind.u64.wrap n23) 128) * 2 ^ (min (Int.toNat (IntKind.u64.wrap (IntKind.i64.wrap (7 * s5.2.2)))) 64))))), s5.2.2), w35))
else
(some (.normal, (s5.1, (IntKind.u64.wrap (s5.2.1 + (IntKind.u64.wrap ((Int.tmod (IntKind.u64.wrap n23) 128) * 2 ^ (min (Int.toNat (IntKind.u64.wrap (IntKind.i64.wrap (7 * s5.2.2)))) 64))))), (IntKind.i64.wrap (s5.2.2 + 1))), (World.drew (World.drew w6))))))))
else
(if (decide ((s5.2.2 : Int) > 0)) = true then
(if (((IntKind.u64.wrap n23) : Int) == 0) = true then
((callF Try.prog 81 #[.pointer u0, .int .i64 7] (World.drew (World.drew w6))).bind fun r36 =>
(asTup 0 r36.1).bind fun _ =>
some (.ret, (0, s5.2.1, s5.2.2), r36.2))
else
(if ((IntKind.u64.wrap (IntKind.i64.wrap (7 * s5.2.2))) : Int) < 0 then
(none)
else
(if (decide (((IntKind.u64.wrap n23) : Int) < 128)) = true then
(u0.bind fun a37 =>
(World.cell? (World.drew (World.drew w6)) (Addr.add a37 1)).bind fun v38 =>
(asI .i64 v38).bind fun n39 =>
u0.bind fun a40 =>
(st1 (World.drew (World.drew w6)) (Addr.add a40 1) (.int .i64 (IntKind.i64.wrap ((IntKind.i64.wrap (n39 + s5.2.2)) + 1)))).bind fun w41 =>
some (.ret, ((IntKind.u64.wrap (s5.2.1 + (IntKind.u64.wrap ((Int.tmod (IntKind.u64.wrap n23) 128) * 2 ^ (min (Int.toNat (IntKind.u64.wrap (IntKind.i64.wrap (7 * s5.2.2)))) 64))))), (IntKind.u64.wrap (s5.2.1 + (IntKind.u64.wrap ((Int.tmod (IntKind.u64.wrap n23) 128) * 2 ^ (min (Int.toNat (IntKind.u64.wrap (IntKind.i64.wrap (7 * s5.2.2)))) 64))))), s5.2.2), w41))
else
(some (.normal, (s5.1, (IntKind.u64.wrap (s5.2.1 + (IntKind.u64.wrap ((Int.tmod (IntKind.u64.wrap n23) 128) * 2 ^ (min (Int.toNat (IntKind.u64.wrap (IntKind.i64.wrap (7 * s5.2.2)))) 64))))), (IntKind.i64.wrap (s5.2.2 + 1))), (World.drew (World.drew w6)))))))
else
(if ((IntKind.u64.wrap (IntKind.i64.wrap (7 * s5.2.2))) : Int) < 0 then
(none)
else
(if (decide (((IntKind.u64.wrap n23) : Int) < 128)) = true then
(u0.bind fun a42 =>
(World.cell? (World.drew (World.drew w6)) (Addr.add a42 1)).bind fun v43 =>
(asI .i64 v43).bind fun n44 =>
u0.bind fun a45 =>
(st1 (World.drew (World.drew w6)) (Addr.add a45 1) (.int .i64 (IntKind.i64.wrap ((IntKind.i64.wrap (n44 + s5.2.2)) + 1)))).bind fun w46 =>
some (.ret, ((IntKind.u64.wrap (s5.2.1 + (IntKind.u64.wrap ((Int.tmod (IntKind.u64.wrap n23) 128) * 2 ^ (min (Int.toNat (IntKind.u64.wrap (IntKind.i64.wrap (7 * s5.2.2)))) 64))))), (IntKind.u64.wrap (s5.2.1 + (IntKind.u64.wrap ((Int.tmod (IntKind.u64.wrap n23) 128) * 2 ^ (min (Int.toNat (IntKind.u64.wrap (IntKind.i64.wrap (7 * s5.2.2)))) 64))))), s5.2.2), w46))
else
(some (.normal, (s5.1, (IntKind.u64.wrap (s5.2.1 + (IntKind.u64.wrap ((Int.tmod (IntKind.u64.wrap n23) 128) * 2 ^ (min (Int.toNat (IntKind.u64.wrap (IntKind.i64.wrap (7 * s5.2.2)))) 64))))), (IntKind.i64.wrap (s5.2.2 + 1))), (World.drew (World.drew w6)))))))))
else
(some ((.exit 0), (s5.1, s5.2.1, s5.2.2), w6))

noncomputable def g59_K47  : Exit → Env → World → Option (Value × World) :=
  retK Try.prog Try.f59.results.toList

noncomputable def g59_K48  : Exit → Env → World → Option (Value × World) :=
  seqK (ev Try.prog 81 59 g59_ann (cAt [1, 1, 1, 1] (bodyOf Try.f59)) [1, 1, 1, 1] g59_K47) g59_K47

noncomputable def g59_K49  : Exit → Env → World → Option (Value × World) :=
  blkK 0 g59_K48

/-- the loop, from a state on -/
noncomputable def g59_l4 (u0 : Option Addr) (s : Int × Int × Int) (w : World) : Option (Value × World) :=
  loopM Try.prog 81 59 g59_ann (cAt [1, 1, 1, 0, 1, 0, 0] (bodyOf Try.f59)) [0, 1, 0, 1, 1, 1] g59_K49 ((g59_l4_cs u0) ++ sputs [(2, .i .u64), (3, .i .u64), (4, .i .i64)] s) w

/-- behind the loop, left by ret -/
noncomputable def g59_l4_ret  (t53 : Int × Int × Int) (w54 : World) : Option (Value × World) :=
some (.int .u64 t53.1, w54)

noncomputable def g59 (u0 : Option Addr) (w0 : World) : Option (Value × World) :=
u0.bind fun a1 =>
(World.cell? w0 (Addr.add a1 2)).bind fun v2 =>
(asI .i64 v2).bind fun n3 =>
if ((n3 : Int) != 0) = true then
(some (.int .u64 0, w0))
else
(g59_l4 u0 (0, 0, 0) w0)

theorem g59_eq (u0 : Option Addr) (w0 : World) : evFn Try.prog 59 g59_ann #[.pointer u0] w0 = g59 u0 w0 := by kernel_rfl

theorem g59_call {u0 : Option Addr} {w0 : World} {r : Value × World} (h : g59 u0 w0 = some r) : callF Try.prog 59 #[.pointer u0] w0 = some r :=
  callF_of_evFn (ann := g59_ann) Try.call59 (by kernel_rfl) ((g59_eq u0 w0).trans h)

theorem g59_l4_ret_of {u0 : Option Addr} {s t : Int × Int × Int} {w w' : World} (h : loopS (g59_l4_b u0) s w = some (.ret, t, w')) : g59_l4 u0 s w = g59_l4_ret t w' := by
  have h1 : g59_l4 u0 s w = loopM Try.prog 81 59 g59_ann (cAt [1, 1, 1, 0, 1, 0, 0] (bodyOf Try.f59)) [0, 1, 0, 1, 1, 1] g59_K49 ((g59_l4_cs u0) ++ sputs [(2, .i .u64), (3, .i .u64), (4, .i .i64)] s) w := by kernel_rfl
  have h2 : loopM Try.prog 81 59 g59_ann (cAt [1, 1, 1, 0, 1, 0, 0] (bodyOf Try.f59)) [0, 1, 0, 1, 1, 1] g59_K49 ((g59_l4_cs u0) ++ sputs [(2, .i .u64), (3, .i .u64), (4, .i .i64)] s) w = g59_K49 (.ret) (puts 81 ((g59_l4_cs u0) ++ sputs [(2, .i .u64), (3, .i .u64), (4, .i .i64)] t)) w' :=
    loop_rule (P := Try.prog) (N := 81) (f := 59) (ann := g59_ann) (body := (cAt [1, 1, 1, 0, 1, 0, 0] (bodyOf Try.f59))) (pt := [0, 1, 0, 1, 1, 1]) (K := g59_K49) (g59_l4_cs u0) [(2, .i .u64), (3, .i .u64), (4, .i .i64)] (b := g59_l4_b u0) (fun s w => by kernel_rfl) (by kernel_rfl) (by kernel_rfl) (by kernel_rfl) h
  have h3 : g59_K49 (.ret) (puts 81 ((g59_l4_cs u0) ++ sputs [(2, .i .u64), (3, .i .u64), (4, .i .i64)] t)) w' = g59_l4_ret t w' := by kernel_rfl
  exact h1.trans (h2.trans h3)

/-! 60: (*penstock/penstockref03.Reader).Flag (r: *penstockref03.Reader) -/
def g60_ann : List (List Nat × List Nat) := []

noncomputable def g60 (u0 : Option Addr) (w0 : World) : Option (Value × World) :=
(callF Try.prog 59 #[.pointer u0] w0).bind fun r1 =>
(asI .u64 r1.1).bind fun n2 =>
if (decide ((n2 : Int) > 1)) = true then
((callF Try.prog 81 #[.pointer u0, .int .i64 7] r1.2).bind fun r3 =>
(asTup 0 r3.1).bind fun _ =>
some (.bool false, r3.2))
else
(some (.bool ((n2 : Int) == 1), r1.2))

theorem g60_eq (u0 : Option Addr) (w0 : World) : evFn Try.prog 60 g60_ann #[.pointer u0] w0 = g60 u0 w0 := by kernel_rfl

theorem g60_call {u0 : Option Addr} {w0 : World} {r : Value × World} (h : g60 u0 w0 = some r) : callF Try.prog 60 #[.pointer u0] w0 = some r :=
  callF_of_evFn (ann := g60_ann) Try.call60 (by kernel_rfl) ((g60_eq u0 w0).trans h)

/-! 62: (*penstock/codec.Reader).Uint (r: *codec.Reader) -/
def g62_ann : List (List Nat × List Nat) := [([0, 1, 1, 1, 1, 1], [0, 3, 2, 4, 5])]

def g62_l7_cs (u0 : Option Addr) (n6 : Int) : List (Nat × Value) := ([(0, .pointer u0), (3, .int .i64 n6)] : List (Nat × Value))

/-- the round of a loop ((*penstock/codec.Reader).Uint) -/
noncomputable def g62_l7_b (u0 : Option Addr) (n6 : Int) (s8 : Int × Int × Int) (w9 : World) : Option (Exit × (Int × Int × Int) × World) :=
u0.bind fun a10 =>
(World.cell? (World.drew w9) (Addr.add a10 1)).bind fun v11 =>
(asI .i64 v11).bind fun n12 =>
u0.bind fun a13 =>
(World.cell? (World.drew w9) a13).bind fun v14 =>
(asSl v14).bind fun q15 =>
if ((n12 : Int) == (q15.2.1 : Int)) = true then
(u0.bind fun a17 =>
(st1 (World.drew w9) (Addr.add a17 1) (.int .i64 n6)).bind fun w18 =>
(callF Try.prog 82 #[.pointer u0, .int .i64 6] w18).bind fun r19 =>
(asTup 0 r19.1).bind fun _ =>
some (.ret, (0, s8.2.1, s8.2.2), r19.2))
else
(u0.bind fun a20 =>
(World.cell? (World.drew (World.drew w9)) a20).bind fun v21 =>
(asSl v21).bind fun q22 =>
u0.bind fun a23 =>
(World.cell? (World.drew (World.drew w9)) (Addr.add a23 1)).bind fun v24 =>
(asI .i64 v24).bind fun n25 =>
(idxA q22.1 q22.2.1 1 n25).bind fun a26 =>
(World.cell? (World.drew (World.drew w9)) a26).bind fun v27 =>
(asI .u8 v27).bind fun n28 =>
u0.bind fun a29 =>
(World.cell? (World.drew (World.drew w9)) (Addr.add a29 1)).bind fun v30 =>
(asI .i64 v30).bind fun n31 =>
u0.bind fun a32 =>
(st1 (World.drew (World.drew w9)) (Addr.add a32 1) (.int .i64 (IntKind.i64.wrap (n31 + 1)))).bind fun w33 =>
if ((s8.2.2 : Int) == 63) = true then
(if (decide ((n28 : Int) > 1)) = true then
(u0.bind fun a34 =>
(st1 w33 (Addr.add a34 1) (.int .i64 n6)).bind fun w35 =>
(callF Try.prog 82 #[.pointer u0, .int .i64 7] w35).bind fun r36 =>
(asTup 0 r36.1).bind fun _ =>
some (.ret, (0, s8.2.1, s8.2.2), r36.2))
else
(if ((n28 : Int) == 0) = true then
(if (decide ((s8.2.2 : Int) > 0)) = true then
(u0.bind fun a37 =>
(st1 w33 (Addr.add a37 1) (.int .i64 n6)).bind fun w38 =>
(callF Try.prog 82 #[.pointer u0, .int .i64 7] w38).bind fun r39 =>
(asTup 0 r39.1).bind fun _ =>
some (.ret, (0, s8.2.1, s8.2.2), r39.2))
else
(if (s8.2.2 : Int) < 0 then
(none)
else
(if (decide ((n28 : Int) < 128)) = true then
(some (.ret, ((IntKind.u64.wrap ((BitVec.ofInt 64 s8.2.1 ||| BitVec.ofInt 64 (IntKind.u64.wrap ((IntKind.u64.wrap (IntKind.u8.wrap ((BitVec.ofInt 8 n28 &&& BitVec.ofInt 8 127).toNat : Nat))) * 2 ^ (min (Int.toNat s8.2.2) 64)))).toNat : Nat)), (IntKind.u64.wrap ((BitVec.ofInt 64 s8.2.1 ||| BitVec.ofInt 64 (IntKind.u64.wrap ((IntKind.u64.wrap (IntKind.u8.wrap ((BitVec.ofInt 8 n28 &&& BitVec.ofInt 8 127).toNat : Nat))) * 2 ^ (min (Int.toNat s8.2.2) 64)))).toNat : Nat)), s8.2.2), w33))
else
(some (.normal, (s8.1, (IntKind.u64.wrap ((BitVec.ofInt 64 s8.2.1 ||| BitVec.ofInt 64 (IntKind.u64.wrap ((IntKind.u64.wrap (IntKind.u8.wrap ((BitVec.ofInt 8 n28 &&& BitVec.ofInt 8 127).toNat : Nat))) * 2 ^ (min (Int.toNat s8.2.2) 64)))).toNat : Nat)), (IntKind.i64.wrap (s8.2.2 + 7))), w33)))))
else
(if (s8.2.2 : Int) < 0 then
(none)
else
(if (decide ((n28 : Int) < 128)) = true then
(some (.ret, ((IntKind.u64.wrap ((BitVec.ofInt 64 s8.2.1 ||| BitVec.ofInt 64 (IntKind.u64.wrap ((IntKind.u64.wrap (IntKind.u8.wrap ((BitVec.ofInt 8 n28 &&& BitVec.ofInt 8 127).toNat : Nat))) * 2 ^ (min (Int.toNat s8.2.2) 64)))).toNat : Nat)), (IntKind.u64.wrap ((BitVec.ofInt 64 s8.2.1 ||| BitVec.ofInt 64 (IntKind.u64.wrap ((IntKind.u64.wrap (IntKind.u8.wrap ((BitVec.ofInt 8 n28 &&& BitVec.ofInt 8 127).toNat : Nat))) * 2 ^ (min (Int.toNat s8.2.2) 64)))).toNat : Nat)), s8.2.2), w33))
else
(some (.normal, (s8.1, (IntKind.u64.wrap ((BitVec.ofInt 64 s8.2.1 ||| BitVec.ofInt 64 (IntKind.u64.wrap ((IntKind.u64.wrap (IntKind.u8.wrap ((BitVec.ofInt 8 n28 &&& BitVec.ofInt 8 127).toNat : Nat))) * 2 ^ (min (Int.toNat s8.2.2) 64)))).toNat : Nat)), (IntKind.i64.wrap (s8.2.2 + 7))), w33))))))
else
(if ((n28 : Int) == 0) = true then
(if (decide ((s8.2.2 : Int) > 0)) = true then
(u0.bind fun a40 =>
(st1 w33 (Addr.add a40 1) (.int .i64 n6)).bind fun w41 =>
(callF Try.prog 82 #[.pointer u0, .int .i64 7] w41).bind fun r42 =>
(asTup 0 r42.1).bind fun _ =>
some (.ret, (0, s8.2.1, s8.2.2), r42.2))
else
(if (s8.2.2 : Int) < 0 then
(none)
else
(if (decide ((n28 : Int) < 128)) = true then
(some (.ret, ((IntKind.u64.wrap ((BitVec.ofInt 64 s8.2.1 ||| BitVec.ofInt 64 (IntKind.u64.wrap ((IntKind.u64.wrap (IntKind.u8.wrap ((BitVec.ofInt 8 n28 &&& BitVec.ofInt 8 127).toNat : Nat))) * 2 ^ (min (Int.toNat s8.2.2) 64)))).toNat : Nat)), (IntKind.u64.wrap ((BitVec.ofInt 64 s8.2.1 ||| BitVec.ofInt 64 (IntKind.u64.wrap ((IntKind.u64.wrap (IntKind.u8.wrap ((BitVec.ofInt 8 n28 &&& BitVec.ofInt 8 127).toNat : Nat))) * 2 ^ (min (Int.toNat s8.2.2) 64)))).toNat : Nat)), s8.2.2), w33))
else
(some (.normal, (s8.1, (IntKind.u64.wrap ((BitVec.ofInt 64 s8.2.1 ||| BitVec.ofInt 64 (IntKind.u64.wrap ((IntKind.u64.wrap (IntKind.u8.wrap ((BitVec.ofInt 8 n28 &&& BitVec.ofInt 8 127).toNat : Nat))) * 2 ^ (min (Int.toNat s8.2.2) 64)))).toNat : Nat)), (IntKind.i64.wrap (s8.2.2 + 7))), w33)))))
else
(if (s8.2.2 : Int) < 0 then
(none)
else
(if (decide ((n28 : Int) < 128)) = true then
(some (.ret, ((IntKind.u64.wrap ((BitVec.ofInt 64 s8.2.1 ||| BitVec.ofInt 64 (IntKind.u64.wrap ((IntKind.u64.wrap (IntKind.u8.wrap ((BitVec.ofInt 8 n28 &&& BitVec.ofInt 8 127).toNat : Nat))) * 2 ^ (min (Int.toNat s8.2.2) 64)))).toNat : Nat)), (IntKind.u64.wrap ((BitVec.ofInt 64 s8.2.1 ||| BitVec.ofInt 64 (IntKind.u64.wrap ((IntKind.u64.wrap (IntKind.u8.wrap ((BitVec.ofInt 8 n28 &&& BitVec.ofInt 8 127).toNat : Nat))) * 2 ^ (min (Int.toNat s8.2.2) 64)))).toNat : Nat)), s8.2.2), w33))
else
(some (.normal, (s8.1, (IntKind.u64.wrap ((BitVec.ofInt 64 s8.2.1 ||| BitVec.ofInt 64 (IntKind.u64.wrap ((IntKind.u64.wrap (IntKind.u8.wrap ((BitVec.ofInt 8 n28 &&& BitVec.ofInt 8 127).toNat : Nat))) * 2 ^ (min (Int.toNat s8.2.2) 64)))).toNat : Nat)), (IntKind.i64.wrap (s8.2.2 + 7))), w33))))))

noncomputable def g62_K43  : Exit → Env → World → Option (Value × World) :=
  retK Try.prog Try.f62.results.toList

noncomputable def g62_K44  : Exit → Env → World → Option (Value × World) :=
  blkK 0 g62_K43

/-- the loop, from a state on -/
noncomputable def g62_l7 (u0 : Option Addr) (n6 : Int) (s : Int × Int × Int) (w : World) : Option (Value × World) :=
  loopM Try.prog 85 62 g62_ann (cAt [1, 1, 1, 1, 1, 0, 0] (bodyOf Try.f62)) [0, 1, 1, 1, 1, 1] g62_K44 ((g62_l7_cs u0 n6) ++ sputs [(2, .i .u64), (4, .i .u64), (5, .i .i64)] s) w

/-- behind the loop, left by ret -/
noncomputable def g62_l7_ret  (t45 : Int × Int × Int) (w46 : World) : Option (Value × World) :=
some (.int .u64 t45.1, w46)

noncomputable def g62 (u0 : Option Addr) (w0 : World) : Option (Value × World) :=
if (u0.isNone) = true then
(some (.int .u64 0, w0))
else
(u0.bind fun a1 =>
(World.cell? w0 (Addr.add a1 2)).bind fun v2 =>
(asI .i64 v2).bind fun n3 =>
if ((n3 : Int) != 0) = true then
(some (.int .u64 0, w0))
else
(u0.bind fun a4 =>
(World.cell? w0 (Addr.add a4 1)).bind fun v5 =>
(asI .i64 v5).bind fun n6 =>
g62_l7 u0 n6 (0, 0, 0) w0))

theorem g62_eq (u0 : Option Addr) (w0 : World) : evFn Try.prog 62 g62_ann #[.pointer u0] w0 = g62 u0 w0 := by kernel_rfl

theorem g62_call {u0 : Option Addr} {w0 : World} {r : Value × World} (h : g62 u0 w0 = some r) : callF Try.prog 62 #[.pointer u0] w0 = some r :=
  callF_of_evFn (ann := g62_ann) Try.call62 (by kernel_rfl) ((g62_eq u0 w0).trans h)

theorem g62_l7_ret_of {u0 : Option Addr} {n6 : Int} {s t : Int × Int × Int} {w w' : World} (h : loopS (g62_l7_b u0 n6) s w = some (.ret, t, w')) : g62_l7 u0 n6 s w = g62_l7_ret t w' := by
  have h1 : g62_l7 u0 n6 s w = loopM Try.prog 85 62 g62_ann (cAt [1, 1, 1, 1, 1, 0, 0] (bodyOf Try.f62)) [0, 1, 1, 1, 1, 1] g62_K44 ((g62_l7_cs u0 n6) ++ sputs [(2, .i .u64), (4, .i .u64), (5, .i .i64)] s) w := by kernel_rfl
  have h2 : loopM Try.prog 85 62 g62_ann (cAt [1, 1, 1, 1, 1, 0, 0] (bodyOf Try.f62)) [0, 1, 1, 1, 1, 1] g62_K44 ((g62_l7_cs u0 n6) ++ sputs [(2, .i .u64), (4, .i .u64), (5, .i .i64)] s) w = g62_K44 (.ret) (puts 85 ((g62_l7_cs u0 n6) ++ sputs [(2, .i .u64), (4, .i .u64), (5, .i .i64)] t)) w' :=
    loop_rule (P := Try.prog) (N := 85) (f := 62) (ann := g62_ann) (body := (cAt [1, 1, 1, 1, 1, 0, 0] (bodyOf Try.f62))) (pt := [0, 1, 1, 1, 1, 1]) (K := g62_K44) (g62_l7_cs u0 n6) [(2, .i .u64), (4, .i .u64), (5, .i .i64)] (b := g62_l7_b u0 n6) (fun s w => by kernel_rfl) (by kernel_rfl) (by kernel_rfl) (by kernel_rfl) h
  have h3 : g62_K44 (.ret) (puts 85 ((g62_l7_cs u0 n6) ++ sputs [(2, .i .u64), (4, .i .u64), (5, .i .i64)] t)) w' = g62_l7_ret t w' := by kernel_rfl
  exact h1.trans (h2.trans h3)

/-! 63: (*penstock/codec.Reader).Flag (r: *codec.Reader) -/
def g63_ann : List (List Nat × List Nat) := []

noncomputable def g63 (u0 : Option Addr) (w0 : World) : Option (Value × World) :=
(callF Try.prog 62 #[.pointer u0] w0).bind fun r1 =>
(asI .u64 r1.1).bind fun n2 =>
if (decide ((n2 : Int) > 1)) = true then
((callF Try.prog 82 #[.pointer u0, .int .i64 7] r1.2).bind fun r3 =>
(asTup 0 r3.1).bind fun _ =>
some (.bool false, r3.2))
else
(some (.bool ((n2 : Int) == 1), r1.2))

theorem g63_eq (u0 : Option Addr) (w0 : World) : evFn Try.prog 63 g63_ann #[.pointer u0] w0 = g63 u0 w0 := by kernel_rfl

theorem g63_call {u0 : Option Addr} {w0 : World} {r : Value × World} (h : g63 u0 w0 = some r) : callF Try.prog 63 #[.pointer u0] w0 = some r :=
  callF_of_evFn (ann := g63_ann) Try.call63 (by kernel_rfl) ((g63_eq u0 w0).trans h)

/-! 65: penstock/penstockref03.Uint (n: uint64) -/
/-! 66: penstock/penstockref03.Flag (is: bool) -/
/-! 79: penstock/penstockref03.Zig (n: int) -/
/-! 80: penstock/penstockref03.Zag (n: uint64) -/
def g80_ann : List (List Nat × List Nat) := []

noncomputable def g80 (u0 : Int) (w0 : World) : Option (Value × World) :=
if (((Int.tmod u0 2) : Int) == 0) = true then
(some (.int .i64 (IntKind.i64.wrap (IntKind.u64.wrap (Int.tdiv u0 2))), w0))
else
(some (.int .i64 (IntKind.i64.wrap ((IntKind.i64.wrap (0 - (IntKind.i64.wrap (IntKind.u64.wrap (Int.tdiv u0 2))))) - 1)), w0))

theorem g80_eq (u0 : Int) (w0 : World) : evFn Try.prog 80 g80_ann #[.int .u64 u0] w0 = g80 u0 w0 := by kernel_rfl

theorem g80_call {u0 : Int} {w0 : World} {r : Value × World} (h : g80 u0 w0 = some r) : callF Try.prog 80 #[.int .u64 u0] w0 = some r :=
  callF_of_evFn (ann := g80_ann) Try.call80 (by kernel_rfl) ((g80_eq u0 w0).trans h)

/-! 81: (*penstock/penstockref03.Reader).fail (r: *penstockref03.Reader, e: int) -/
def g81_ann : List (List Nat × List Nat) := []

noncomputable def g81 (u0 : Option Addr) (u1 : Int) (w0 : World) : Option (Value × World) :=
u0.bind fun a1 =>
(World.cell? w0 (Addr.add a1 2)).bind fun v2 =>
(asI .i64 v2).bind fun n3 =>
if ((n3 : Int) == 0) = true then
(u0.bind fun a4 =>
(st1 w0 (Addr.add a4 2) (.int .i64 u1)).bind fun w5 =>
some (.tuple #[], w5))
else
(some (.tuple #[], w0))

theorem g81_eq (u0 : Option Addr) (u1 : Int) (w0 : World) : evFn Try.prog 81 g81_ann #[.pointer u0, .int .i64 u1] w0 = g81 u0 u1 w0 := by kernel_rfl

theorem g81_call {u0 : Option Addr} {u1 : Int} {w0 : World} {r : Value × World} (h : g81 u0 u1 w0 = some r) : callF Try.prog 81 #[.pointer u0, .int .i64 u1] w0 = some r :=
  callF_of_evFn (ann := g81_ann) Try.call81 (by kernel_rfl) ((g81_eq u0 u1 w0).trans h)

/-! 82: (*penstock/codec.Reader).fail (r: *codec.Reader, e: api.Errno) -/
def g82_ann : List (List Nat × List Nat) := []

noncomputable def g82 (u0 : Option Addr) (u1 : Int) (w0 : World) : Option (Value × World) :=
u0.bind fun a1 =>
(World.cell? w0 (Addr.add a1 2)).bind fun v2 =>
(asI .i64 v2).bind fun n3 =>
if ((n3 : Int) == 0) = true then
(u0.bind fun a4 =>
(st1 w0 (Addr.add a4 2) (.int .i64 u1)).bind fun w5 =>
some (.tuple #[], w5))
else
(some (.tuple #[], w0))

theorem g82_eq (u0 : Option Addr) (u1 : Int) (w0 : World) : evFn Try.prog 82 g82_ann #[.pointer u0, .int .i64 u1] w0 = g82 u0 u1 w0 := by kernel_rfl

theorem g82_call {u0 : Option Addr} {u1 : Int} {w0 : World} {r : Value × World} (h : g82 u0 u1 w0 = some r) : callF Try.prog 82 #[.pointer u0, .int .i64 u1] w0 = some r :=
  callF_of_evFn (ann := g82_ann) Try.call82 (by kernel_rfl) ((g82_eq u0 u1 w0).trans h)

end Go.Proofs.Ytjcenfgmpbeldaa
