/-
  TxnK1: lemmas on what Go functions of this seat come to (for whatever arguments, as each says). No condition but those that stand in each lemma.
-/
import Derived.Test.YtlcojbodcbjkaaaLb9
import Derived.Test.YtlcojbodcbjkaaaProg
namespace Go.Proofs.Ytlcojbodcbjkaaa
open Go Go.Ev
set_option maxRecDepth 100000
set_option linter.unusedVariables false
/-! 39: maps.Keys[map[int]*penstock/api.Tx,int,*penstock/api.Tx] (m: map[int]*api.Tx) -/
def g39_ann : List (List Nat × List Nat) := []

noncomputable def g39 (u0 : Option Nat) (w0 : World) : Option (Value × World) :=
some (.func (.func 66) #[] #[.pointer (some (⟨w0.heap.size, 0, none⟩))], (World.alloc w0 (.cells #[.map u0] 69)))

theorem g39_eq (u0 : Option Nat) (w0 : World) : evFn Try.prog 39 g39_ann #[.map u0] w0 = g39 u0 w0 := by kernel_rfl

theorem g39_call {u0 : Option Nat} {w0 : World} {r : Value × World} (h : g39 u0 w0 = some r) : callF Try.prog 39 #[.map u0] w0 = some r :=
  callF_of_evFn (ann := g39_ann) Try.call39 (by kernel_rfl) ((g39_eq u0 w0).trans h)

/-! 66: maps.Keys[map[int]*penstock/api.Tx,int,*penstock/api.Tx]$1 (yield: func(int) bool) -/
def g66_ann : List (List Nat × List Nat) := [([0, 1], [0, 5])]

def g66_l5_cs (u0 : Nat) (p4 : Option Addr) : List (Nat × Value) := ([(0, .func (.yield u0) #[] #[]), (5, .pointer p4)] : List (Nat × Value))

/-- the round of a loop (maps.Keys[map[int]*penstock/api.Tx,int,*penstock/api.Tx]$1) -/
noncomputable def g66_l5_b (p4 : Option Addr) (u0 : Nat) (s6 : Unit) (w7 : World) : Option (Exit × (Unit) × World) :=
(semR Try.prog (Instr.next (.pointer p4) false 0) w7).bind fun r8 =>
(asNext r8.1).bind fun o9 =>
onNext o9 (some ((.exit 0), (), r8.2)) (fun k10 => fun v11 =>
(semR Try.prog (Instr.entry (.pointer p4)) r8.2).bind fun r12 =>
(asTup 2 r12.1).bind fun l13 =>
(asI .i64 (l13.getD 0 undef)).bind fun n14 =>
(callV Try.prog (.func (.yield u0) #[] #[]) #[.int .i64 n14] r12.2).bind fun r15 =>
(asB r15.1).bind fun b16 =>
if (!b16) = true then
(some (.ret, (), r15.2))
else
(some (.normal, (), r15.2)))

noncomputable def g66_K17  : Exit → Env → World → Option (Value × World) :=
  retK Try.prog Try.f66.results.toList

noncomputable def g66_K18  : Exit → Env → World → Option (Value × World) :=
  blkK 0 g66_K17

/-- the loop, from a state on -/
noncomputable def g66_l5 (u0 : Nat) (p4 : Option Addr) (s : Unit) (w : World) : Option (Value × World) :=
  loopM Try.prog 14 66 g66_ann (cAt [1, 0, 0] (bodyOf Try.f66)) [0, 1] g66_K18 ((g66_l5_cs u0 p4) ++ sputs [] s) w

/-- behind the loop, left by x0 -/
noncomputable def g66_l5_x0  (t19 : Unit) (w20 : World) : Option (Value × World) :=
some (.tuple #[], w20)

/-- behind the loop, left by ret -/
noncomputable def g66_l5_ret  (t21 : Unit) (w22 : World) : Option (Value × World) :=
some (.tuple #[], w22)

noncomputable def g66 (u0 : Nat) (u1 : Addr) (w0 : World) : Option (Value × World) :=
(World.cell? w0 u1).bind fun v1 =>
(asM v1).bind fun m2 =>
(semR Try.prog (Instr.range 69 (.map m2)) w0).bind fun r3 =>
(asP r3.1).bind fun p4 =>
g66_l5 u0 p4 () r3.2

theorem g66_eq (u0 : Nat) (u1 : Addr) (w0 : World) : evFn Try.prog 66 g66_ann #[.func (.yield u0) #[] #[], .pointer (some u1)] w0 = g66 u0 u1 w0 := by kernel_rfl

theorem g66_call {u0 : Nat} {u1 : Addr} {w0 : World} {r : Value × World} (h : g66 u0 u1 w0 = some r) : callF Try.prog 66 #[.func (.yield u0) #[] #[], .pointer (some u1)] w0 = some r :=
  callF_of_evFn (ann := g66_ann) Try.call66 (by kernel_rfl) ((g66_eq u0 u1 w0).trans h)

theorem g66_l5_x0_of {u0 : Nat} {p4 : Option Addr} {s t : Unit} {w w' : World} (h : loopS (g66_l5_b p4 u0) s w = some (.exit 0, t, w')) : g66_l5 u0 p4 s w = g66_l5_x0 t w' := by
  have h1 : g66_l5 u0 p4 s w = loopM Try.prog 14 66 g66_ann (cAt [1, 0, 0] (bodyOf Try.f66)) [0, 1] g66_K18 ((g66_l5_cs u0 p4) ++ sputs [] s) w := by kernel_rfl
  have h2 : loopM Try.prog 14 66 g66_ann (cAt [1, 0, 0] (bodyOf Try.f66)) [0, 1] g66_K18 ((g66_l5_cs u0 p4) ++ sputs [] s) w = g66_K18 (.exit 0) (puts 14 ((g66_l5_cs u0 p4) ++ sputs [] t)) w' :=
    loop_rule (P := Try.prog) (N := 14) (f := 66) (ann := g66_ann) (body := (cAt [1, 0, 0] (bodyOf Try.f66))) (pt := [0, 1]) (K := g66_K18) (g66_l5_cs u0 p4) [] (b := g66_l5_b p4 u0) (fun s w => by kernel_rfl) (by kernel_rfl) (by kernel_rfl) (by kernel_rfl) h
  have h3 : g66_K18 (.exit 0) (puts 14 ((g66_l5_cs u0 p4) ++ sputs [] t)) w' = g66_l5_x0 t w' := by kernel_rfl
  exact h1.trans (h2.trans h3)

theorem g66_l5_ret_of {u0 : Nat} {p4 : Option Addr} {s t : Unit} {w w' : World} (h : loopS (g66_l5_b p4 u0) s w = some (.ret, t, w')) : g66_l5 u0 p4 s w = g66_l5_ret t w' := by
  have h1 : g66_l5 u0 p4 s w = loopM Try.prog 14 66 g66_ann (cAt [1, 0, 0] (bodyOf Try.f66)) [0, 1] g66_K18 ((g66_l5_cs u0 p4) ++ sputs [] s) w := by kernel_rfl
  have h2 : loopM Try.prog 14 66 g66_ann (cAt [1, 0, 0] (bodyOf Try.f66)) [0, 1] g66_K18 ((g66_l5_cs u0 p4) ++ sputs [] s) w = g66_K18 (.ret) (puts 14 ((g66_l5_cs u0 p4) ++ sputs [] t)) w' :=
    loop_rule (P := Try.prog) (N := 14) (f := 66) (ann := g66_ann) (body := (cAt [1, 0, 0] (bodyOf Try.f66))) (pt := [0, 1]) (K := g66_K18) (g66_l5_cs u0 p4) [] (b := g66_l5_b p4 u0) (fun s w => by kernel_rfl) (by kernel_rfl) (by kernel_rfl) (by kernel_rfl) h
  have h3 : g66_K18 (.ret) (puts 14 ((g66_l5_cs u0 p4) ++ sputs [] t)) w' = g66_l5_ret t w' := by kernel_rfl
  exact h1.trans (h2.trans h3)

/-! 65: slices.Collect[int] (seq: iter.Seq[int]) -/
def g65x66_ann : List (List Nat × List Nat) := []

noncomputable def g65x66 (u0 : Addr) (w0 : World) : Option (Value × World) :=
(callF Try.prog 82 #[.slice none 0 0, .func (.func 66) #[] #[.pointer (some u0)]] w0).bind fun r1 =>
(asSl r1.1).bind fun q2 =>
some (.slice q2.1 q2.2.1 q2.2.2, r1.2)

theorem g65x66_eq (u0 : Addr) (w0 : World) : evFn Try.prog 65 g65x66_ann #[.func (.func 66) #[] #[.pointer (some u0)]] w0 = g65x66 u0 w0 := by kernel_rfl

theorem g65x66_call {u0 : Addr} {w0 : World} {r : Value × World} (h : g65x66 u0 w0 = some r) : callF Try.prog 65 #[.func (.func 66) #[] #[.pointer (some u0)]] w0 = some r :=
  callF_of_evFn (ann := g65x66_ann) Try.call65 (by kernel_rfl) ((g65x66_eq u0 w0).trans h)

/-! 38: slices.Sorted[int] (seq: iter.Seq[int]) -/
def g38x66_ann : List (List Nat × List Nat) := []

noncomputable def g38x66 (u0 : Addr) (w0 : World) : Option (Value × World) :=
(callF Try.prog 65 #[.func (.func 66) #[] #[.pointer (some u0)]] w0).bind fun r1 =>
(asSl r1.1).bind fun q2 =>
(callF Try.prog 33 #[.slice q2.1 q2.2.1 q2.2.2] r1.2).bind fun r3 =>
(asTup 0 r3.1).bind fun _ =>
some (.slice q2.1 q2.2.1 q2.2.2, r3.2)

theorem g38x66_eq (u0 : Addr) (w0 : World) : evFn Try.prog 38 g38x66_ann #[.func (.func 66) #[] #[.pointer (some u0)]] w0 = g38x66 u0 w0 := by kernel_rfl

theorem g38x66_call {u0 : Addr} {w0 : World} {r : Value × World} (h : g38x66 u0 w0 = some r) : callF Try.prog 38 #[.func (.func 66) #[] #[.pointer (some u0)]] w0 = some r :=
  callF_of_evFn (ann := g38x66_ann) Try.call38 (by kernel_rfl) ((g38x66_eq u0 w0).trans h)

end Go.Proofs.Ytlcojbodcbjkaaa
