/-
  GateF2: lemmas on what Go functions of this seat come to (for whatever arguments, as each says). No condition but those that stand in each lemma.
-/
import Derived.Test.YtniibeofggdfoaaGateC
namespace Go.Proofs.Ytniibeofggdfoaa
open Go Go.Ev
set_option maxRecDepth 100000
set_option linter.unusedVariables false
/-! 19: (*penstock/gate.Marks).Set (m: *gate.Marks, i: int) -/
def g19_ann : List (List Nat × List Nat) := []

noncomputable def g19 (u0 : Option Addr) (u1 : Int) (w0 : World) : Option (Value × World) :=
(callF Try.prog 31 #[.pointer u0, .int .i64 u1, .bool true] w0).bind fun r1 =>
(asB r1.1).bind fun b2 =>
some (.bool b2, r1.2)

theorem g19_eq (u0 : Option Addr) (u1 : Int) (w0 : World) : evFn Try.prog 19 g19_ann #[.pointer u0, .int .i64 u1] w0 = g19 u0 u1 w0 := by kernel_rfl

theorem g19_call {u0 : Option Addr} {u1 : Int} {w0 : World} {r : Value × World} (h : g19 u0 u1 w0 = some r) : callF Try.prog 19 #[.pointer u0, .int .i64 u1] w0 = some r :=
  callF_of_evFn (ann := g19_ann) Try.call19 (by kernel_rfl) ((g19_eq u0 u1 w0).trans h)

/-! 20: (*penstock/gate.Marks).Count (m: *gate.Marks) -/
def g20_ann : List (List Nat × List Nat) := [([0, 1, 0, 1, 1, 1], [0, 3, 7])]

def g20_l1_cs (u0 : Option Addr) : List (Nat × Value) := ([(0, .pointer u0)] : List (Nat × Value))

/-- the round of a loop ((*penstock/gate.Marks).Count) -/
noncomputable def g20_l1_b (u0 : Option Addr) (s2 : Int × Int) (w3 : World) : Option (Exit × (Int × Int) × World) :=
if (decide ((s2.2 : Int) < 4)) = true then
(u0.bind fun a4 =>
(idxA (some a4) 4 1 s2.2).bind fun a5 =>
(callF Try.prog 29 #[.pointer (some a5)] w3).bind fun r6 =>
(asI .u64 r6.1).bind fun n7 =>
(callF Try.prog 32 #[.int .u64 n7] r6.2).bind fun r8 =>
(asI .i64 r8.1).bind fun n9 =>
some (.normal, ((IntKind.i64.wrap (s2.1 + n9)), (IntKind.i64.wrap (s2.2 + 1))), r8.2))
else
(some ((.exit 0), (s2.1, s2.2), w3))

noncomputable def g20_K10  : Exit → Env → World → Option (Value × World) :=
  retK Try.prog Try.f20.results.toList

noncomputable def g20_K11  : Exit → Env → World → Option (Value × World) :=
  seqK (ev Try.prog 21 20 g20_ann (cAt [1, 1, 1, 1] (bodyOf Try.f20)) [1, 1, 1, 1] g20_K10) g20_K10

noncomputable def g20_K12  : Exit → Env → World → Option (Value × World) :=
  blkK 0 g20_K11

/-- the loop, from a state on -/
noncomputable def g20_l1 (u0 : Option Addr) (s : Int × Int) (w : World) : Option (Value × World) :=
  loopM Try.prog 21 20 g20_ann (cAt [1, 1, 1, 0, 1, 0, 0] (bodyOf Try.f20)) [0, 1, 0, 1, 1, 1] g20_K12 ((g20_l1_cs u0) ++ sputs [(3, .i .i64), (7, .i .i64)] s) w

/-- behind the loop, left by x0 -/
noncomputable def g20_l1_x0  (t13 : Int × Int) (w14 : World) : Option (Value × World) :=
some (.int .i64 t13.1, w14)

noncomputable def g20 (u0 : Option Addr) (w0 : World) : Option (Value × World) :=
if (u0.isNone) = true then
(some (.int .i64 0, w0))
else
(g20_l1 u0 (0, 0) w0)

theorem g20_eq (u0 : Option Addr) (w0 : World) : evFn Try.prog 20 g20_ann #[.pointer u0] w0 = g20 u0 w0 := by kernel_rfl

theorem g20_call {u0 : Option Addr} {w0 : World} {r : Value × World} (h : g20 u0 w0 = some r) : callF Try.prog 20 #[.pointer u0] w0 = some r :=
  callF_of_evFn (ann := g20_ann) Try.call20 (by kernel_rfl) ((g20_eq u0 w0).trans h)

theorem g20_l1_x0_of {u0 : Option Addr} {s t : Int × Int} {w w' : World} (h : loopS (g20_l1_b u0) s w = some (.exit 0, t, w')) : g20_l1 u0 s w = g20_l1_x0 t w' := by
  have h1 : g20_l1 u0 s w = loopM Try.prog 21 20 g20_ann (cAt [1, 1, 1, 0, 1, 0, 0] (bodyOf Try.f20)) [0, 1, 0, 1, 1, 1] g20_K12 ((g20_l1_cs u0) ++ sputs [(3, .i .i64), (7, .i .i64)] s) w := by kernel_rfl
  have h2 : loopM Try.prog 21 20 g20_ann (cAt [1, 1, 1, 0, 1, 0, 0] (bodyOf Try.f20)) [0, 1, 0, 1, 1, 1] g20_K12 ((g20_l1_cs u0) ++ sputs [(3, .i .i64), (7, .i .i64)] s) w = g20_K12 (.exit 0) (puts 21 ((g20_l1_cs u0) ++ sputs [(3, .i .i64), (7, .i .i64)] t)) w' :=
    loop_rule (P := Try.prog) (N := 21) (f := 20) (ann := g20_ann) (body := (cAt [1, 1, 1, 0, 1, 0, 0] (bodyOf Try.f20))) (pt := [0, 1, 0, 1, 1, 1]) (K := g20_K12) (g20_l1_cs u0) [(3, .i .i64), (7, .i .i64)] (b := g20_l1_b u0) (fun s w => by kernel_rfl) (by kernel_rfl) (by kernel_rfl) (by kernel_rfl) h
  have h3 : g20_K12 (.exit 0) (puts 21 ((g20_l1_cs u0) ++ sputs [(3, .i .i64), (7, .i .i64)] t)) w' = g20_l1_x0 t w' := by kernel_rfl
  exact h1.trans (h2.trans h3)

/-! 21: (*penstock/gate.Marks).Clear (m: *gate.Marks, i: int) -/
def g21_ann : List (List Nat × List Nat) := []

noncomputable def g21 (u0 : Option Addr) (u1 : Int) (w0 : World) : Option (Value × World) :=
(callF Try.prog 31 #[.pointer u0, .int .i64 u1, .bool false] w0).bind fun r1 =>
(asB r1.1).bind fun b2 =>
some (.bool b2, r1.2)

theorem g21_eq (u0 : Option Addr) (u1 : Int) (w0 : World) : evFn Try.prog 21 g21_ann #[.pointer u0, .int .i64 u1] w0 = g21 u0 u1 w0 := by kernel_rfl

theorem g21_call {u0 : Option Addr} {u1 : Int} {w0 : World} {r : Value × World} (h : g21 u0 u1 w0 = some r) : callF Try.prog 21 #[.pointer u0, .int .i64 u1] w0 = some r :=
  callF_of_evFn (ann := g21_ann) Try.call21 (by kernel_rfl) ((g21_eq u0 u1 w0).trans h)

/-! 23: (*penstock/gate.Marks).Has (m: *gate.Marks, i: int) -/
def g23_ann : List (List Nat × List Nat) := []

noncomputable def g23 (u0 : Option Addr) (u1 : Int) (w0 : World) : Option (Value × World) :=
if (!(u0.isNone)) = true then
(if (decide ((u1 : Int) ≥ 0)) = true then
(if (decide ((u1 : Int) ≤ 255)) = true then
(u0.bind fun a1 =>
(idxA (some a1) 4 1 (IntKind.i64.wrap (Int.tdiv u1 64))).bind fun a2 =>
(callF Try.prog 29 #[.pointer (some a2)] w0).bind fun r3 =>
(asI .u64 r3.1).bind fun n4 =>
if ((Int.tmod u1 64) : Int) < 0 then
(none)
else
(some (.bool (((IntKind.u64.wrap ((BitVec.ofInt 64 (Int.fdiv n4 (2 ^ (min (Int.toNat (Int.tmod u1 64)) 64))) &&& BitVec.ofInt 64 1).toNat : Nat)) : Int) == 1), r3.2)))
else
(some (.bool false, w0)))
else
(some (.bool false, w0)))
else
(some (.bool false, w0))

theorem g23_eq (u0 : Option Addr) (u1 : Int) (w0 : World) : evFn Try.prog 23 g23_ann #[.pointer u0, .int .i64 u1] w0 = g23 u0 u1 w0 := by kernel_rfl

theorem g23_call {u0 : Option Addr} {u1 : Int} {w0 : World} {r : Value × World} (h : g23 u0 u1 w0 = some r) : callF Try.prog 23 #[.pointer u0, .int .i64 u1] w0 = some r :=
  callF_of_evFn (ann := g23_ann) Try.call23 (by kernel_rfl) ((g23_eq u0 u1 w0).trans h)

/-! 31: (*penstock/gate.Marks).turn (m: *gate.Marks, i: int, to: bool) -/
def g31_ann : List (List Nat × List Nat) := [([0, 1, 1, 1], [0, 1, 2, 7, 6])]

def g31_l1_cs (u0 : Option Addr) (u1 : Int) (u2 : Bool) : List (Nat × Value) := ([(0, .pointer u0), (1, .int .i64 u1), (2, .bool u2), (7, .int .u64 (IntKind.u64.wrap (1 * 2 ^ (min (Int.toNat (Int.tmod u1 64)) 64))))] : List (Nat × Value))

/-- the round of a loop ((*penstock/gate.Marks).turn) -/
noncomputable def g31_l1_b (u0 : Option Addr) (u1 : Int) (u2 : Bool) (s2 : Bool) (w3 : World) : Option (Exit × (Bool) × World) :=
u0.bind fun a4 =>
(idxA (some a4) 4 1 (IntKind.i64.wrap (Int.tdiv u1 64))).bind fun a5 =>
(callF Try.prog 29 #[.pointer (some a5)] w3).bind fun r6 =>
(asI .u64 r6.1).bind fun n7 =>
if ((((IntKind.u64.wrap ((BitVec.ofInt 64 n7 &&& BitVec.ofInt 64 (IntKind.u64.wrap (1 * 2 ^ (min (Int.toNat (Int.tmod u1 64)) 64)))).toNat : Nat)) : Int) != 0) == u2) = true then
(some (.ret, false, r6.2))
else
(u0.bind fun a8 =>
(idxA (some a8) 4 1 (IntKind.i64.wrap (Int.tdiv u1 64))).bind fun a9 =>
(callF Try.prog 30 #[.pointer (some a9), .int .u64 n7, .int .u64 (IntKind.u64.wrap ((BitVec.ofInt 64 n7 ^^^ BitVec.ofInt 64 (IntKind.u64.wrap (1 * 2 ^ (min (Int.toNat (Int.tmod u1 64)) 64)))).toNat : Nat))] r6.2).bind fun r10 =>
(asB r10.1).bind fun b11 =>
if b11 = true then
(some (.ret, true, r10.2))
else
(some (.normal, s2, r10.2)))

noncomputable def g31_K12  : Exit → Env → World → Option (Value × World) :=
  retK Try.prog Try.f31.results.toList

noncomputable def g31_K13  : Exit → Env → World → Option (Value × World) :=
  blkK 0 g31_K12

/-- the loop, from a state on -/
noncomputable def g31_l1 (u0 : Option Addr) (u1 : Int) (u2 : Bool) (s : Bool) (w : World) : Option (Value × World) :=
  loopM Try.prog 46 31 g31_ann (cAt [1, 1, 1, 0, 0] (bodyOf Try.f31)) [0, 1, 1, 1] g31_K13 ((g31_l1_cs u0 u1 u2) ++ sputs [(6, .b)] s) w

/-- behind the loop, left by ret -/
noncomputable def g31_l1_ret  (t14 : Bool) (w15 : World) : Option (Value × World) :=
some (.bool t14, w15)

noncomputable def g31 (u0 : Option Addr) (u1 : Int) (u2 : Bool) (w0 : World) : Option (Value × World) :=
if (u0.isNone) = true then
(some (.bool false, w0))
else
(if (decide ((u1 : Int) < 0)) = true then
(some (.bool false, w0))
else
(if (decide ((u1 : Int) > 255)) = true then
(some (.bool false, w0))
else
(if ((Int.tmod u1 64) : Int) < 0 then
(none)
else
(g31_l1 u0 u1 u2 false w0))))

theorem g31_eq (u0 : Option Addr) (u1 : Int) (u2 : Bool) (w0 : World) : evFn Try.prog 31 g31_ann #[.pointer u0, .int .i64 u1, .bool u2] w0 = g31 u0 u1 u2 w0 := by kernel_rfl

theorem g31_call {u0 : Option Addr} {u1 : Int} {u2 : Bool} {w0 : World} {r : Value × World} (h : g31 u0 u1 u2 w0 = some r) : callF Try.prog 31 #[.pointer u0, .int .i64 u1, .bool u2] w0 = some r :=
  callF_of_evFn (ann := g31_ann) Try.call31 (by kernel_rfl) ((g31_eq u0 u1 u2 w0).trans h)

theorem g31_l1_ret_of {u0 : Option Addr} {u1 : Int} {u2 : Bool} {s t : Bool} {w w' : World} (h : loopS (g31_l1_b u0 u1 u2) s w = some (.ret, t, w')) : g31_l1 u0 u1 u2 s w = g31_l1_ret t w' := by
  have h1 : g31_l1 u0 u1 u2 s w = loopM Try.prog 46 31 g31_ann (cAt [1, 1, 1, 0, 0] (bodyOf Try.f31)) [0, 1, 1, 1] g31_K13 ((g31_l1_cs u0 u1 u2) ++ sputs [(6, .b)] s) w := by kernel_rfl
  have h2 : loopM Try.prog 46 31 g31_ann (cAt [1, 1, 1, 0, 0] (bodyOf Try.f31)) [0, 1, 1, 1] g31_K13 ((g31_l1_cs u0 u1 u2) ++ sputs [(6, .b)] s) w = g31_K13 (.ret) (puts 46 ((g31_l1_cs u0 u1 u2) ++ sputs [(6, .b)] t)) w' :=
    loop_rule (P := Try.prog) (N := 46) (f := 31) (ann := g31_ann) (body := (cAt [1, 1, 1, 0, 0] (bodyOf Try.f31))) (pt := [0, 1, 1, 1]) (K := g31_K13) (g31_l1_cs u0 u1 u2) [(6, .b)] (b := g31_l1_b u0 u1 u2) (fun s w => by kernel_rfl) (by kernel_rfl) (by kernel_rfl) (by kernel_rfl) h
  have h3 : g31_K13 (.ret) (puts 46 ((g31_l1_cs u0 u1 u2) ++ sputs [(6, .b)] t)) w' = g31_l1_ret t w' := by kernel_rfl
  exact h1.trans (h2.trans h3)

end Go.Proofs.Ytniibeofggdfoaa
