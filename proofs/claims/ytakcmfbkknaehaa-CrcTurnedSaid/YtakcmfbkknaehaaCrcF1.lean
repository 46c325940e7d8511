/-
  CrcF1: lemmas on what Go functions of this seat come to (for whatever arguments, as each says). No condition but those that stand in each lemma.
-/
import Derived.Test.YtakcmfbkknaehaaLb2
import Derived.Test.YtakcmfbkknaehaaProg
namespace Go.Proofs.Ytakcmfbkknaehaa
open Go Go.Ev
set_option maxRecDepth 100000
set_option linter.unusedVariables false
/-! 8: penstock/penstocklaw02.CrcNone (sum: uint32, b: []uint8) -/
def g8_ann : List (List Nat × List Nat) := []

noncomputable def g8 (u0 : Int) (u1 : Option Addr × Nat × Nat) (w0 : World) : Option (Value × World) :=
(callF Try.prog 10 #[] w0).bind fun r1 =>
(asB r1.1).bind fun b2 =>
if b2 = true then
((callF Try.prog 13 #[.pointer none, .slice u1.1 u1.2.1 u1.2.2] r1.2).bind fun r3 =>
(asI .u32 r3.1).bind fun n4 =>
if ((n4 : Int) == 0) = true then
((callF Try.prog 14 #[.pointer none, .int .u32 u0, .slice u1.1 u1.2.1 u1.2.2] r3.2).bind fun r5 =>
(asI .u32 r5.1).bind fun n6 =>
some (.bool ((n6 : Int) == 0), r5.2))
else
(some (.bool false, r3.2)))
else
(some (.bool false, r1.2))

theorem g8_eq (u0 : Int) (u1 : Option Addr × Nat × Nat) (w0 : World) : evFn Try.prog 8 g8_ann #[.int .u32 u0, .slice u1.1 u1.2.1 u1.2.2] w0 = g8 u0 u1 w0 := by kernel_rfl

theorem g8_call {u0 : Int} {u1 : Option Addr × Nat × Nat} {w0 : World} {r : Value × World} (h : g8 u0 u1 w0 = some r) : callF Try.prog 8 #[.int .u32 u0, .slice u1.1 u1.2.1 u1.2.2] w0 = some r :=
  callF_of_evFn (ann := g8_ann) Try.call8 (by kernel_rfl) ((g8_eq u0 u1 w0).trans h)

/-! 9: penstock/crc.New () -/
def g9_ann : List (List Nat × List Nat) := []

noncomputable def g9  (w0 : World) : Option (Value × World) :=
some (.pointer (some (⟨w0.heap.size, 0, none⟩)), (World.alloc w0 (.cells #[.int .u32 0, .int .i32 0, .int .u32 0, .int .u32 0, .int .u32 0, .int .u32 0, .int .u32 0, .int .u32 0, .int .u32 0, .int .u32 0, .int .u32 0, .int .u32 0, .int .u32 0, .int .u32 0, .int .u32 0, .int .u32 0, .int .u32 0, .int .u32 0, .int .u32 0, .int .u32 0, .int .u32 0, .int .u32 0, .int .u32 0, .int .u32 0, .int .u32 0, .int .u32 0, .int .u32 0, .int .u32 0, .int .u32 0, .int .u32 0, .int .u32 0, .int .u32 0, .int .u32 0, .int .u32 0, .int .u32 0, .int .u32 0, .int .u32 0, .int .u32 0, .int .u32 0, .int .u32 0, .int .u32 0, .int .u32 0, .int .u32 0, .int .u32 0, .int .u32 0, .int .u32 0, .int .u32 0, .int .u32 0, .int .u32 0, .int .u32 0, .int .u32 0, .int .u32 0, .int .u32 0, .int .u32 0, .int .u32 0, .int .u32 0, .int .u32 0, .int .u32 0, .int .u32 0, .int .u32 0, .int .u32 0, .int .u32 0, .int .u32 0, .int .u32 0, .int .u32 0, .int .u32 0, .int .u32 0, .int .u32 0, .int .u32 0, .int .u32 0, .int .u32 0, .int .u32 0, .int .u32 0, .int .u32 0, .int .u32 0, .int .u32 0, .int .u32 0, .int .u32 0, .int .u32 0, .int .u32 0, .int .u32 0, .int .u32 0, .int .u32 0, .int .u32 0, .int .u32 0, .int .u32 0, .int .u32 0, .int .u32 0, .int .u32 0, .int .u32 0, .int .u32 0, .int .u32 0, .int .u32 0, .int .u32 0, .int .u32 0, .int .u32 0, .int .u32 0, .int .u32 0, .int .u32 0, .int .u32 0, .int .u32 0, .int .u32 0, .int .u32 0, .int .u32 0, .int .u32 0, .int .u32 0, .int .u32 0, .int .u32 0, .int .u32 0, .int .u32 0, .int .u32 0, .int .u32 0, .int .u32 0, .int .u32 0, .int .u32 0, .int .u32 0, .int .u32 0, .int .u32 0, .int .u32 0, .int .u32 0, .int .u32 0, .int .u32 0, .int .u32 0, .int .u32 0, .int .u32 0, .int .u32 0, .int .u32 0, .int .u32 0, .int .u32 0, .int .u32 0, .int .u32 0, .int .u32 0, .int .u32 0, .int .u32 0, .int .u32 0, .int .u32 0, .int .u32 0, .int .u32 0, .int .u32 0, .int .u32 0, .int .u32 0, .int .u32 0, .int .u32 0, .int .u32 0, .int .u32 0, .int .u32 0, .int .u32 0, .int .u32 0, .int .u32 0, .int .u32 0, .int .u32 0, .int .u32 0, .int .u32 0, .int .u32 0, .int .u32 0, .int .u32 0, .int .u32 0, .int .u32 0, .int .u32 0, .int .u32 0, .int .u32 0, .int .u32 0, .int .u32 0, .int .u32 0, .int .u32 0, .int .u32 0, .int .u32 0, .int .u32 0, .int .u32 0, .int .u32 0, .int .u32 0, .int .u32 0, .int .u32 0, .int .u32 0, .int .u32 0, .int .u32 0, .int .u32 0, .int .u32 0, .int .u32 0, .int .u32 0, .int .u32 0, .int .u32 0, .int .u32 0, .int .u32 0, .int .u32 0, .int .u32 0, .int .u32 0, .int .u32 0, .int .u32 0, .int .u32 0, .int .u32 0, .int .u32 0, .int .u32 0, .int .u32 0, .int .u32 0, .int .u32 0, .int .u32 0, .int .u32 0, .int .u32 0, .int .u32 0, .int .u32 0, .int .u32 0, .int .u32 0, .int .u32 0, .int .u32 0, .int .u32 0, .int .u32 0, .int .u32 0, .int .u32 0, .int .u32 0, .int .u32 0, .int .u32 0, .int .u32 0, .int .u32 0, .int .u32 0, .int .u32 0, .int .u32 0, .int .u32 0, .int .u32 0, .int .u32 0, .int .u32 0, .int .u32 0, .int .u32 0, .int .u32 0, .int .u32 0, .int .u32 0, .int .u32 0, .int .u32 0, .int .u32 0, .int .u32 0, .int .u32 0, .int .u32 0, .int .u32 0, .int .u32 0, .int .u32 0, .int .u32 0, .int .u32 0, .int .u32 0, .int .u32 0, .int .u32 0, .int .u32 0, .int .u32 0, .int .u32 0, .int .u32 0, .int .u32 0, .int .u32 0, .int .u32 0, .int .u32 0, .int .u32 0, .int .u32 0, .int .u32 0, .int .u32 0, .int .u32 0, .int .u32 0, .int .u32 0, .int .u32 0, .int .u32 0, .int .u32 0, .int .u32 0] 39)))

theorem g9_eq  (w0 : World) : evFn Try.prog 9 g9_ann #[] w0 = g9 w0 := by kernel_rfl

theorem g9_call  {w0 : World} {r : Value × World} (h : g9 w0 = some r) : callF Try.prog 9 #[] w0 = some r :=
  callF_of_evFn (ann := g9_ann) Try.call9 (by kernel_rfl) ((g9_eq  w0).trans h)

/-! 10: penstock/penstocklaw02.awake () -/
def g10_ann : List (List Nat × List Nat) := []

noncomputable def g10  (w0 : World) : Option (Value × World) :=
(callF Try.prog 9 #[] w0).bind fun r1 =>
(asP r1.1).bind fun p2 =>
if (!(p2.isNone)) = true then
((callF Try.prog 9 #[] r1.2).bind fun r3 =>
(asP r3.1).bind fun p4 =>
(semR Try.prog (convert 23 23 (.slice (some (⟨r3.2.heap.size, 0, none⟩)) 9 9)) (World.alloc r3.2 (.cells #[.int .u8 49, .int .u8 50, .int .u8 51, .int .u8 52, .int .u8 53, .int .u8 54, .int .u8 55, .int .u8 56, .int .u8 57] 5))).bind fun r5 =>
(asSl r5.1).bind fun q6 =>
(callF Try.prog 13 #[.pointer p4, .slice q6.1 q6.2.1 q6.2.2] r5.2).bind fun r7 =>
(asI .u32 r7.1).bind fun n8 =>
some (.bool ((n8 : Int) == 3808858755), r7.2))
else
(some (.bool false, r1.2))

theorem g10_eq  (w0 : World) : evFn Try.prog 10 g10_ann #[] w0 = g10 w0 := by kernel_rfl

theorem g10_call  {w0 : World} {r : Value × World} (h : g10 w0 = some r) : callF Try.prog 10 #[] w0 = some r :=
  callF_of_evFn (ann := g10_ann) Try.call10 (by kernel_rfl) ((g10_eq  w0).trans h)

/-! 11: penstock/penstocklaw02.own (b: []uint8) -/
def g11_ann : List (List Nat × List Nat) := []

noncomputable def g11 (u0 : Option Addr × Nat × Nat) (w0 : World) : Option (Value × World) :=
if 0 ≤ ((u0.2.1 : Int) : Int) ∧ ((u0.2.1 : Int) : Int) ≤ (IntKind.i64.wrap ((u0.2.1 : Int) + 9)) ∧ ((IntKind.i64.wrap ((u0.2.1 : Int) + 9)) : Int) < 9223372036854775808 ∧ ((1 : Nat) : Int) * (IntKind.i64.wrap ((u0.2.1 : Int) + 9)) ≤ 2 ^ 48 ∧ (0 : Nat) < 1 then
((callB Try.prog .copy #[23, 23] 3 #[false, false] #[.slice (some (⟨w0.heap.size, 0, none⟩)) (Int.toNat (u0.2.1 : Int)) (Int.toNat (IntKind.i64.wrap ((u0.2.1 : Int) + 9))), .slice u0.1 u0.2.1 u0.2.2] (World.alloc w0 (.cells (zrow (.int .u8 0) (Int.toNat (IntKind.i64.wrap ((u0.2.1 : Int) + 9)) * 1)) 5))).bind fun r3 =>
(asI .i64 r3.1).bind fun n4 =>
some (.slice (some (⟨w0.heap.size, 0, none⟩)) (Int.toNat (u0.2.1 : Int)) (Int.toNat (IntKind.i64.wrap ((u0.2.1 : Int) + 9))), r3.2))
else
(none)

theorem g11_eq (u0 : Option Addr × Nat × Nat) (w0 : World) : evFn Try.prog 11 g11_ann #[.slice u0.1 u0.2.1 u0.2.2] w0 = g11 u0 w0 := by kernel_rfl

theorem g11_call {u0 : Option Addr × Nat × Nat} {w0 : World} {r : Value × World} (h : g11 u0 w0 = some r) : callF Try.prog 11 #[.slice u0.1 u0.2.1 u0.2.2] w0 = some r :=
  callF_of_evFn (ann := g11_ann) Try.call11 (by kernel_rfl) ((g11_eq u0 w0).trans h)

/-! 12: penstock/penstockref02.More (sum: uint32, b: []uint8) -/
def g12_ann : List (List Nat × List Nat) := [([0, 1, 0, 1, 1], [1, 5, 6]), ([0, 1, 0, 0, 1, 0, 0, 1, 0, 1, 1], [1, 6, 5, 7])]

def g12_l1_cs (u1 : Option Addr × Nat × Nat) : List (Nat × Value) := ([(1, .slice u1.1 u1.2.1 u1.2.2)] : List (Nat × Value))

def g12_l5_cs (u1 : Option Addr × Nat × Nat) (s2 : Int × Int) : List (Nat × Value) := ([(1, .slice u1.1 u1.2.1 u1.2.2), (6, .int .i64 s2.2)] : List (Nat × Value))

/-- the round of a loop (penstock/penstockref02.More) -/
noncomputable def g12_l5_b (u1 : Option Addr × Nat × Nat) (s2 : Int × Int) (s6 : Int × Int) (w7 : World) : Option (Exit × (Int × Int) × World) :=
if (decide ((s6.2 : Int) < 8)) = true then
((idxA u1.1 u1.2.1 1 s2.2).bind fun a8 =>
(World.cell? w7 a8).bind fun v9 =>
(asI .u8 v9).bind fun n10 =>
if ((IntKind.u64.wrap s6.2) : Int) < 0 then
(none)
else
(if (((IntKind.u32.wrap ((BitVec.ofInt 32 (IntKind.u32.wrap ((BitVec.ofInt 32 s6.1 &&& BitVec.ofInt 32 1).toNat : Nat)) ^^^ BitVec.ofInt 32 (IntKind.u32.wrap ((BitVec.ofInt 32 (IntKind.u32.wrap (Int.fdiv n10 (2 ^ (min (Int.toNat (IntKind.u64.wrap s6.2)) 8)))) &&& BitVec.ofInt 32 1).toNat : Nat))).toNat : Nat)) : Int) == 1) = true then
(some (.normal, ((IntKind.u32.wrap ((BitVec.ofInt 32 (Int.fdiv s6.1 (2 ^ (min (Int.toNat 1) 32))) ^^^ BitVec.ofInt 32 2197175160).toNat : Nat)), (IntKind.i64.wrap (s6.2 + 1))), w7))
else
(some (.normal, ((Int.fdiv s6.1 (2 ^ (min (Int.toNat 1) 32))), (IntKind.i64.wrap (s6.2 + 1))), w7))))
else
(some ((.exit 2), (s6.1, s6.2), w7))

noncomputable def g12_K11 (u1 : Option Addr × Nat × Nat) : Exit → Env → World → Option (Exit × (Int × Int) × World) :=
  fun e ρ w => ((List.map (·.1) (g12_l1_cs u1)).mapM ρ).bind fun _ => loopK [(5, .i .u32), (6, .i .i64)] e ρ w

noncomputable def g12_K12 (u1 : Option Addr × Nat × Nat) : Exit → Env → World → Option (Exit × (Int × Int) × World) :=
  seqK (ev Try.prog 43 12 g12_ann (cAt [1, 1, 0, 1, 0, 0, 1, 1] (bodyOf Try.f12)) [1, 1, 0, 0, 1, 0, 1, 1] (g12_K11 u1)) (g12_K11 u1)

noncomputable def g12_K13 (u1 : Option Addr × Nat × Nat) : Exit → Env → World → Option (Exit × (Int × Int) × World) :=
  blkK 1 (g12_K12 u1)

noncomputable def g12_K14 (u1 : Option Addr × Nat × Nat) : Exit → Env → World → Option (Exit × (Int × Int) × World) :=
  blkK 2 (g12_K13 u1)

/-- the loop, from a state on -/
noncomputable def g12_l5 (u1 : Option Addr × Nat × Nat) (s2 : Int × Int) (s : Int × Int) (w : World) : Option (Exit × (Int × Int) × World) :=
  loopM Try.prog 43 12 g12_ann (cAt [1, 1, 0, 1, 0, 0, 1, 0, 0, 1, 0, 0] (bodyOf Try.f12)) [0, 1, 0, 0, 1, 0, 0, 1, 0, 1, 1] (g12_K14 u1) ((g12_l5_cs u1 s2) ++ sputs [(5, .i .u32), (7, .i .i64)] s) w

/-- behind the loop, left by x2 -/
noncomputable def g12_l5_x2 (s2 : Int × Int) (t15 : Int × Int) (w16 : World) : Option (Exit × (Int × Int) × World) :=
some (.normal, (t15.1, (IntKind.i64.wrap (s2.2 + 1))), w16)

/-- the round of a loop (penstock/penstockref02.More) -/
noncomputable def g12_l1_b (u1 : Option Addr × Nat × Nat) (s2 : Int × Int) (w3 : World) : Option (Exit × (Int × Int) × World) :=
if (decide ((s2.2 : Int) < (u1.2.1 : Int))) = true then
(g12_l5 u1 s2 (s2.1, 0) w3)
else
(some ((.exit 0), (s2.1, s2.2), w3))

noncomputable def g12_K17  : Exit → Env → World → Option (Value × World) :=
  retK Try.prog Try.f12.results.toList

noncomputable def g12_K18  : Exit → Env → World → Option (Value × World) :=
  seqK (ev Try.prog 43 12 g12_ann (cAt [1, 1, 1] (bodyOf Try.f12)) [1, 1, 1] g12_K17) g12_K17

noncomputable def g12_K19  : Exit → Env → World → Option (Value × World) :=
  blkK 0 g12_K18

/-- the loop, from a state on -/
noncomputable def g12_l1 (u1 : Option Addr × Nat × Nat) (s : Int × Int) (w : World) : Option (Value × World) :=
  loopM Try.prog 43 12 g12_ann (cAt [1, 1, 0, 1, 0, 0] (bodyOf Try.f12)) [0, 1, 0, 1, 1] g12_K19 ((g12_l1_cs u1) ++ sputs [(5, .i .u32), (6, .i .i64)] s) w

/-- behind the loop, left by x0 -/
noncomputable def g12_l1_x0  (t20 : Int × Int) (w21 : World) : Option (Value × World) :=
some (.int .u32 (IntKind.u32.wrap ((BitVec.ofInt 32 IntKind.u32.max ^^^ BitVec.ofInt 32 t20.1).toNat : Nat)), w21)

noncomputable def g12 (u0 : Int) (u1 : Option Addr × Nat × Nat) (w0 : World) : Option (Value × World) :=
g12_l1 u1 ((IntKind.u32.wrap ((BitVec.ofInt 32 IntKind.u32.max ^^^ BitVec.ofInt 32 u0).toNat : Nat)), 0) w0

theorem g12_eq (u0 : Int) (u1 : Option Addr × Nat × Nat) (w0 : World) : evFn Try.prog 12 g12_ann #[.int .u32 u0, .slice u1.1 u1.2.1 u1.2.2] w0 = g12 u0 u1 w0 := by kernel_rfl

theorem g12_call {u0 : Int} {u1 : Option Addr × Nat × Nat} {w0 : World} {r : Value × World} (h : g12 u0 u1 w0 = some r) : callF Try.prog 12 #[.int .u32 u0, .slice u1.1 u1.2.1 u1.2.2] w0 = some r :=
  callF_of_evFn (ann := g12_ann) Try.call12 (by kernel_rfl) ((g12_eq u0 u1 w0).trans h)

theorem g12_l5_x2_of {u1 : Option Addr × Nat × Nat} {s2 : Int × Int} {s t : Int × Int} {w w' : World} (h : loopS (g12_l5_b u1 s2) s w = some (.exit 2, t, w')) : g12_l5 u1 s2 s w = g12_l5_x2 s2 t w' := by
  have h1 : g12_l5 u1 s2 s w = loopM Try.prog 43 12 g12_ann (cAt [1, 1, 0, 1, 0, 0, 1, 0, 0, 1, 0, 0] (bodyOf Try.f12)) [0, 1, 0, 0, 1, 0, 0, 1, 0, 1, 1] (g12_K14 u1) ((g12_l5_cs u1 s2) ++ sputs [(5, .i .u32), (7, .i .i64)] s) w := by kernel_rfl
  have h2 : loopM Try.prog 43 12 g12_ann (cAt [1, 1, 0, 1, 0, 0, 1, 0, 0, 1, 0, 0] (bodyOf Try.f12)) [0, 1, 0, 0, 1, 0, 0, 1, 0, 1, 1] (g12_K14 u1) ((g12_l5_cs u1 s2) ++ sputs [(5, .i .u32), (7, .i .i64)] s) w = (g12_K14 u1) (.exit 2) (puts 43 ((g12_l5_cs u1 s2) ++ sputs [(5, .i .u32), (7, .i .i64)] t)) w' :=
    loop_rule (P := Try.prog) (N := 43) (f := 12) (ann := g12_ann) (body := (cAt [1, 1, 0, 1, 0, 0, 1, 0, 0, 1, 0, 0] (bodyOf Try.f12))) (pt := [0, 1, 0, 0, 1, 0, 0, 1, 0, 1, 1]) (K := (g12_K14 u1)) (g12_l5_cs u1 s2) [(5, .i .u32), (7, .i .i64)] (b := g12_l5_b u1 s2) (fun s w => by kernel_rfl) (by kernel_rfl) (by kernel_rfl) (by kernel_rfl) h
  have h3 : (g12_K14 u1) (.exit 2) (puts 43 ((g12_l5_cs u1 s2) ++ sputs [(5, .i .u32), (7, .i .i64)] t)) w' = g12_l5_x2 s2 t w' := by kernel_rfl
  exact h1.trans (h2.trans h3)

theorem g12_l1_x0_of {u1 : Option Addr × Nat × Nat} {s t : Int × Int} {w w' : World} (h : loopS (g12_l1_b u1) s w = some (.exit 0, t, w')) : g12_l1 u1 s w = g12_l1_x0 t w' := by
  have h1 : g12_l1 u1 s w = loopM Try.prog 43 12 g12_ann (cAt [1, 1, 0, 1, 0, 0] (bodyOf Try.f12)) [0, 1, 0, 1, 1] g12_K19 ((g12_l1_cs u1) ++ sputs [(5, .i .u32), (6, .i .i64)] s) w := by kernel_rfl
  have h2 : loopM Try.prog 43 12 g12_ann (cAt [1, 1, 0, 1, 0, 0] (bodyOf Try.f12)) [0, 1, 0, 1, 1] g12_K19 ((g12_l1_cs u1) ++ sputs [(5, .i .u32), (6, .i .i64)] s) w = g12_K19 (.exit 0) (puts 43 ((g12_l1_cs u1) ++ sputs [(5, .i .u32), (6, .i .i64)] t)) w' :=
    loop_rule (P := Try.prog) (N := 43) (f := 12) (ann := g12_ann) (body := (cAt [1, 1, 0, 1, 0, 0] (bodyOf Try.f12))) (pt := [0, 1, 0, 1, 1]) (K := g12_K19) (g12_l1_cs u1) [(5, .i .u32), (6, .i .i64)] (b := g12_l1_b u1) (fun s w => by kernel_rfl) (by kernel_rfl) (by kernel_rfl) (by kernel_rfl) h
  have h3 : g12_K19 (.exit 0) (puts 43 ((g12_l1_cs u1) ++ sputs [(5, .i .u32), (6, .i .i64)] t)) w' = g12_l1_x0 t w' := by kernel_rfl
  exact h1.trans (h2.trans h3)

/-! 13: (*penstock/crc.Table).Sum (t: *crc.Table, b: []uint8) -/
def g13_ann : List (List Nat × List Nat) := []

noncomputable def g13 (u0 : Option Addr) (u1 : Option Addr × Nat × Nat) (w0 : World) : Option (Value × World) :=
(callF Try.prog 14 #[.pointer u0, .int .u32 0, .slice u1.1 u1.2.1 u1.2.2] w0).bind fun r1 =>
(asI .u32 r1.1).bind fun n2 =>
some (.int .u32 n2, r1.2)

theorem g13_eq (u0 : Option Addr) (u1 : Option Addr × Nat × Nat) (w0 : World) : evFn Try.prog 13 g13_ann #[.pointer u0, .slice u1.1 u1.2.1 u1.2.2] w0 = g13 u0 u1 w0 := by kernel_rfl

theorem g13_call {u0 : Option Addr} {u1 : Option Addr × Nat × Nat} {w0 : World} {r : Value × World} (h : g13 u0 u1 w0 = some r) : callF Try.prog 13 #[.pointer u0, .slice u1.1 u1.2.1 u1.2.2] w0 = some r :=
  callF_of_evFn (ann := g13_ann) Try.call13 (by kernel_rfl) ((g13_eq u0 u1 w0).trans h)

/-! 14: (*penstock/crc.Table).More (t: *crc.Table, sum: uint32, b: []uint8) -/
def g14_ann : List (List Nat × List Nat) := [([0, 1, 0, 1, 1, 1, 1], [0, 20, 21, 7, 22])]

def g14_l4_cs (u0 : Option Addr) (u2 : Option Addr × Nat × Nat) : List (Nat × Value) := ([(0, .pointer u0), (20, .slice u2.1 u2.2.1 u2.2.2), (21, .int .i64 (u2.2.1 : Int))] : List (Nat × Value))

/-- the round of a loop ((*penstock/crc.Table).More) -/
noncomputable def g14_l4_b (u2 : Option Addr × Nat × Nat) (u0 : Option Addr) (s5 : Int × Int) (w6 : World) : Option (Exit × (Int × Int) × World) :=
if (decide ((s5.2 : Int) < (u2.2.1 : Int))) = true then
((idxA u2.1 u2.2.1 1 s5.2).bind fun a7 =>
(World.cell? w6 a7).bind fun v8 =>
(asI .u8 v8).bind fun n9 =>
u0.bind fun a10 =>
(idxA (some (Addr.add a10 3)) 256 1 (IntKind.u8.wrap ((BitVec.ofInt 8 (IntKind.u8.wrap s5.1) ^^^ BitVec.ofInt 8 n9).toNat : Nat))).bind fun a11 =>
(World.cell? w6 a11).bind fun v12 =>
(asI .u32 v12).bind fun n13 =>
some (.normal, ((IntKind.u32.wrap ((BitVec.ofInt 32 n13 ^^^ BitVec.ofInt 32 (Int.fdiv s5.1 (2 ^ (min (Int.toNat 8) 32)))).toNat : Nat)), (IntKind.i64.wrap (s5.2 + 1))), w6))
else
(some ((.exit 0), (s5.1, s5.2), w6))

noncomputable def g14_K14  : Exit → Env → World → Option (Value × World) :=
  retK Try.prog Try.f14.results.toList

noncomputable def g14_K15  : Exit → Env → World → Option (Value × World) :=
  seqK (ev Try.prog 41 14 g14_ann (cAt [1, 1, 1, 1, 1] (bodyOf Try.f14)) [1, 1, 1, 1, 1] g14_K14) g14_K14

noncomputable def g14_K16  : Exit → Env → World → Option (Value × World) :=
  blkK 0 g14_K15

/-- the loop, from a state on -/
noncomputable def g14_l4 (u0 : Option Addr) (u2 : Option Addr × Nat × Nat) (s : Int × Int) (w : World) : Option (Value × World) :=
  loopM Try.prog 41 14 g14_ann (cAt [1, 1, 1, 1, 0, 1, 0, 0] (bodyOf Try.f14)) [0, 1, 0, 1, 1, 1, 1] g14_K16 ((g14_l4_cs u0 u2) ++ sputs [(7, .i .u32), (22, .i .i64)] s) w

/-- behind the loop, left by x0 -/
noncomputable def g14_l4_x0  (t17 : Int × Int) (w18 : World) : Option (Value × World) :=
some (.int .u32 (IntKind.u32.wrap ((BitVec.ofInt 32 IntKind.u32.max ^^^ BitVec.ofInt 32 t17.1).toNat : Nat)), w18)

noncomputable def g14 (u0 : Option Addr) (u1 : Int) (u2 : Option Addr × Nat × Nat) (w0 : World) : Option (Value × World) :=
if (u0.isNone) = true then
(some (.int .u32 0, w0))
else
(u0.bind fun a1 =>
(callF Try.prog 15 #[.pointer (some a1), .func (.func 16) #[.pointer u0] #[]] w0).bind fun r2 =>
(asTup 0 r2.1).bind fun _ =>
g14_l4 u0 u2 ((IntKind.u32.wrap ((BitVec.ofInt 32 IntKind.u32.max ^^^ BitVec.ofInt 32 u1).toNat : Nat)), 0) r2.2)

theorem g14_eq (u0 : Option Addr) (u1 : Int) (u2 : Option Addr × Nat × Nat) (w0 : World) : evFn Try.prog 14 g14_ann #[.pointer u0, .int .u32 u1, .slice u2.1 u2.2.1 u2.2.2] w0 = g14 u0 u1 u2 w0 := by kernel_rfl

theorem g14_call {u0 : Option Addr} {u1 : Int} {u2 : Option Addr × Nat × Nat} {w0 : World} {r : Value × World} (h : g14 u0 u1 u2 w0 = some r) : callF Try.prog 14 #[.pointer u0, .int .u32 u1, .slice u2.1 u2.2.1 u2.2.2] w0 = some r :=
  callF_of_evFn (ann := g14_ann) Try.call14 (by kernel_rfl) ((g14_eq u0 u1 u2 w0).trans h)

theorem g14_l4_x0_of {u0 : Option Addr} {u2 : Option Addr × Nat × Nat} {s t : Int × Int} {w w' : World} (h : loopS (g14_l4_b u2 u0) s w = some (.exit 0, t, w')) : g14_l4 u0 u2 s w = g14_l4_x0 t w' := by
  have h1 : g14_l4 u0 u2 s w = loopM Try.prog 41 14 g14_ann (cAt [1, 1, 1, 1, 0, 1, 0, 0] (bodyOf Try.f14)) [0, 1, 0, 1, 1, 1, 1] g14_K16 ((g14_l4_cs u0 u2) ++ sputs [(7, .i .u32), (22, .i .i64)] s) w := by kernel_rfl
  have h2 : loopM Try.prog 41 14 g14_ann (cAt [1, 1, 1, 1, 0, 1, 0, 0] (bodyOf Try.f14)) [0, 1, 0, 1, 1, 1, 1] g14_K16 ((g14_l4_cs u0 u2) ++ sputs [(7, .i .u32), (22, .i .i64)] s) w = g14_K16 (.exit 0) (puts 41 ((g14_l4_cs u0 u2) ++ sputs [(7, .i .u32), (22, .i .i64)] t)) w' :=
    loop_rule (P := Try.prog) (N := 41) (f := 14) (ann := g14_ann) (body := (cAt [1, 1, 1, 1, 0, 1, 0, 0] (bodyOf Try.f14))) (pt := [0, 1, 0, 1, 1, 1, 1]) (K := g14_K16) (g14_l4_cs u0 u2) [(7, .i .u32), (22, .i .i64)] (b := g14_l4_b u2 u0) (fun s w => by kernel_rfl) (by kernel_rfl) (by kernel_rfl) (by kernel_rfl) h
  have h3 : g14_K16 (.exit 0) (puts 41 ((g14_l4_cs u0 u2) ++ sputs [(7, .i .u32), (22, .i .i64)] t)) w' = g14_l4_x0 t w' := by kernel_rfl
  exact h1.trans (h2.trans h3)

/-! 15: (*sync.Once).Do (o: *sync.Once, f: func()) -/
def g15_ann : List (List Nat × List Nat) := []

noncomputable def g15 (u0 : Option Addr) (u1 : Value) (w0 : World) : Option (Value × World) :=
u0.bind fun a1 =>
(callF Try.prog 17 #[.pointer (some a1)] w0).bind fun r2 =>
(asB r2.1).bind fun b3 =>
if (!b3) = true then
((callF Try.prog 18 #[.pointer u0, u1] r2.2).bind fun r4 =>
(asTup 0 r4.1).bind fun _ =>
some (.tuple #[], r4.2))
else
(some (.tuple #[], r2.2))

theorem g15_eq (u0 : Option Addr) (u1 : Value) (w0 : World) : evFn Try.prog 15 g15_ann #[.pointer u0, u1] w0 = g15 u0 u1 w0 := by kernel_rfl

theorem g15_call {u0 : Option Addr} {u1 : Value} {w0 : World} {r : Value × World} (h : g15 u0 u1 w0 = some r) : callF Try.prog 15 #[.pointer u0, u1] w0 = some r :=
  callF_of_evFn (ann := g15_ann) Try.call15 (by kernel_rfl) ((g15_eq u0 u1 w0).trans h)

/-! 16: (*penstock/crc.Table).fill (t: *crc.Table) -/
def g16_ann : List (List Nat × List Nat) := [([0, 1], [0, 4]), ([0, 1, 0, 1, 1, 0, 0, 1, 1, 0, 0, 1], [0, 2, 4, 3, 9])]

def g16_l1_cs (u0 : Option Addr) : List (Nat × Value) := ([(0, .pointer u0)] : List (Nat × Value))

def g16_l4_cs (u0 : Option Addr) (s2 : Int) : List (Nat × Value) := ([(0, .pointer u0), (2, .int .i64 s2), (4, .int .i64 s2)] : List (Nat × Value))

/-- the round of a loop ((*penstock/crc.Table).fill) -/
noncomputable def g16_l4_b (u0 : Option Addr) (s2 : Int) (s5 : Int × Int) (w6 : World) : Option (Exit × (Int × Int) × World) :=
if (decide ((s5.2 : Int) < 8)) = true then
(if (((IntKind.u32.wrap ((BitVec.ofInt 32 s5.1 &&& BitVec.ofInt 32 1).toNat : Nat)) : Int) == 1) = true then
(some (.normal, ((IntKind.u32.wrap ((BitVec.ofInt 32 (Int.fdiv s5.1 (2 ^ (min (Int.toNat 1) 32))) ^^^ BitVec.ofInt 32 2197175160).toNat : Nat)), (IntKind.i64.wrap (s5.2 + 1))), w6))
else
(some (.normal, ((Int.fdiv s5.1 (2 ^ (min (Int.toNat 1) 32))), (IntKind.i64.wrap (s5.2 + 1))), w6)))
else
(some ((.exit 2), (s5.1, s5.2), w6))

noncomputable def g16_K7 (u0 : Option Addr) : Exit → Env → World → Option (Exit × (Int) × World) :=
  fun e ρ w => ((List.map (·.1) (g16_l1_cs u0)).mapM ρ).bind fun _ => loopK [(4, .i .i64)] e ρ w

noncomputable def g16_K8 (u0 : Option Addr) : Exit → Env → World → Option (Exit × (Int) × World) :=
  seqK (ev Try.prog 27 16 g16_ann (cAt [1, 0, 0, 1, 1, 1] (bodyOf Try.f16)) [1, 1, 1, 0, 0, 1] (g16_K7 u0)) (g16_K7 u0)

noncomputable def g16_K9 (u0 : Option Addr) : Exit → Env → World → Option (Exit × (Int) × World) :=
  blkK 1 (g16_K8 u0)

noncomputable def g16_K10 (u0 : Option Addr) : Exit → Env → World → Option (Exit × (Int) × World) :=
  seqK (ev Try.prog 27 16 g16_ann (cAt [1, 0, 0, 1, 1, 0, 0, 1, 1, 1] (bodyOf Try.f16)) [1, 1, 1, 0, 0, 1, 1, 0, 0, 1] (g16_K9 u0)) (g16_K9 u0)

noncomputable def g16_K11 (u0 : Option Addr) : Exit → Env → World → Option (Exit × (Int) × World) :=
  blkK 2 (g16_K10 u0)

/-- the loop, from a state on -/
noncomputable def g16_l4 (u0 : Option Addr) (s2 : Int) (s : Int × Int) (w : World) : Option (Exit × (Int) × World) :=
  loopM Try.prog 27 16 g16_ann (cAt [1, 0, 0, 1, 1, 0, 0, 1, 1, 0, 1, 0, 0] (bodyOf Try.f16)) [0, 1, 0, 1, 1, 0, 0, 1, 1, 0, 0, 1] (g16_K11 u0) ((g16_l4_cs u0 s2) ++ sputs [(3, .i .u32), (9, .i .i64)] s) w

/-- behind the loop, left by x2 -/
noncomputable def g16_l4_x2 (u0 : Option Addr) (s2 : Int) (t12 : Int × Int) (w13 : World) : Option (Exit × (Int) × World) :=
u0.bind fun a14 =>
(idxA (some (Addr.add a14 3)) 256 1 s2).bind fun a15 =>
(st1 w13 a15 (.int .u32 t12.1)).bind fun w16 =>
some (.normal, (IntKind.i64.wrap (s2 + 1)), w16)

/-- the round of a loop ((*penstock/crc.Table).fill) -/
noncomputable def g16_l1_b (u0 : Option Addr) (s2 : Int) (w3 : World) : Option (Exit × (Int) × World) :=
if (decide ((s2 : Int) < 256)) = true then
(g16_l4 u0 s2 ((IntKind.u32.wrap s2), 0) w3)
else
(some ((.exit 0), s2, w3))

noncomputable def g16_K17  : Exit → Env → World → Option (Value × World) :=
  retK Try.prog Try.f16.results.toList

noncomputable def g16_K18  : Exit → Env → World → Option (Value × World) :=
  blkK 0 g16_K17

/-- the loop, from a state on -/
noncomputable def g16_l1 (u0 : Option Addr) (s : Int) (w : World) : Option (Value × World) :=
  loopM Try.prog 27 16 g16_ann (cAt [1, 0, 0] (bodyOf Try.f16)) [0, 1] g16_K18 ((g16_l1_cs u0) ++ sputs [(4, .i .i64)] s) w

/-- behind the loop, left by x0 -/
noncomputable def g16_l1_x0  (t19 : Int) (w20 : World) : Option (Value × World) :=
some (.tuple #[], w20)

noncomputable def g16 (u0 : Option Addr) (w0 : World) : Option (Value × World) :=
g16_l1 u0 0 w0

theorem g16_eq (u0 : Option Addr) (w0 : World) : evFn Try.prog 16 g16_ann #[.pointer u0] w0 = g16 u0 w0 := by kernel_rfl

theorem g16_call {u0 : Option Addr} {w0 : World} {r : Value × World} (h : g16 u0 w0 = some r) : callF Try.prog 16 #[.pointer u0] w0 = some r :=
  callF_of_evFn (ann := g16_ann) Try.call16 (by kernel_rfl) ((g16_eq u0 w0).trans h)

theorem g16_l4_x2_of {u0 : Option Addr} {s2 : Int} {s t : Int × Int} {w w' : World} (h : loopS (g16_l4_b u0 s2) s w = some (.exit 2, t, w')) : g16_l4 u0 s2 s w = g16_l4_x2 u0 s2 t w' := by
  have h1 : g16_l4 u0 s2 s w = loopM Try.prog 27 16 g16_ann (cAt [1, 0, 0, 1, 1, 0, 0, 1, 1, 0, 1, 0, 0] (bodyOf Try.f16)) [0, 1, 0, 1, 1, 0, 0, 1, 1, 0, 0, 1] (g16_K11 u0) ((g16_l4_cs u0 s2) ++ sputs [(3, .i .u32), (9, .i .i64)] s) w := by kernel_rfl
  have h2 : loopM Try.prog 27 16 g16_ann (cAt [1, 0, 0, 1, 1, 0, 0, 1, 1, 0, 1, 0, 0] (bodyOf Try.f16)) [0, 1, 0, 1, 1, 0, 0, 1, 1, 0, 0, 1] (g16_K11 u0) ((g16_l4_cs u0 s2) ++ sputs [(3, .i .u32), (9, .i .i64)] s) w = (g16_K11 u0) (.exit 2) (puts 27 ((g16_l4_cs u0 s2) ++ sputs [(3, .i .u32), (9, .i .i64)] t)) w' :=
    loop_rule (P := Try.prog) (N := 27) (f := 16) (ann := g16_ann) (body := (cAt [1, 0, 0, 1, 1, 0, 0, 1, 1, 0, 1, 0, 0] (bodyOf Try.f16))) (pt := [0, 1, 0, 1, 1, 0, 0, 1, 1, 0, 0, 1]) (K := (g16_K11 u0)) (g16_l4_cs u0 s2) [(3, .i .u32), (9, .i .i64)] (b := g16_l4_b u0 s2) (fun s w => by kernel_rfl) (by kernel_rfl) (by kernel_rfl) (by kernel_rfl) h
  have h3 : (g16_K11 u0) (.exit 2) (puts 27 ((g16_l4_cs u0 s2) ++ sputs [(3, .i .u32), (9, .i .i64)] t)) w' = g16_l4_x2 u0 s2 t w' := by kernel_rfl
  exact h1.trans (h2.trans h3)

theorem g16_l1_x0_of {u0 : Option Addr} {s t : Int} {w w' : World} (h : loopS (g16_l1_b u0) s w = some (.exit 0, t, w')) : g16_l1 u0 s w = g16_l1_x0 t w' := by
  have h1 : g16_l1 u0 s w = loopM Try.prog 27 16 g16_ann (cAt [1, 0, 0] (bodyOf Try.f16)) [0, 1] g16_K18 ((g16_l1_cs u0) ++ sputs [(4, .i .i64)] s) w := by kernel_rfl
  have h2 : loopM Try.prog 27 16 g16_ann (cAt [1, 0, 0] (bodyOf Try.f16)) [0, 1] g16_K18 ((g16_l1_cs u0) ++ sputs [(4, .i .i64)] s) w = g16_K18 (.exit 0) (puts 27 ((g16_l1_cs u0) ++ sputs [(4, .i .i64)] t)) w' :=
    loop_rule (P := Try.prog) (N := 27) (f := 16) (ann := g16_ann) (body := (cAt [1, 0, 0] (bodyOf Try.f16))) (pt := [0, 1]) (K := g16_K18) (g16_l1_cs u0) [(4, .i .i64)] (b := g16_l1_b u0) (fun s w => by kernel_rfl) (by kernel_rfl) (by kernel_rfl) (by kernel_rfl) h
  have h3 : g16_K18 (.exit 0) (puts 27 ((g16_l1_cs u0) ++ sputs [(4, .i .i64)] t)) w' = g16_l1_x0 t w' := by kernel_rfl
  exact h1.trans (h2.trans h3)

/-! 17: (*sync/atomic.Bool).Load (x: *atomic.Bool) -/
def g17_ann : List (List Nat × List Nat) := []

noncomputable def g17 (u0 : Option Addr) (w0 : World) : Option (Value × World) :=
u0.bind fun a1 =>
(callF Try.prog 19 #[.pointer (some a1)] w0).bind fun r2 =>
(asI .u32 r2.1).bind fun n3 =>
some (.bool ((n3 : Int) != 0), r2.2)

theorem g17_eq (u0 : Option Addr) (w0 : World) : evFn Try.prog 17 g17_ann #[.pointer u0] w0 = g17 u0 w0 := by kernel_rfl

theorem g17_call {u0 : Option Addr} {w0 : World} {r : Value × World} (h : g17 u0 w0 = some r) : callF Try.prog 17 #[.pointer u0] w0 = some r :=
  callF_of_evFn (ann := g17_ann) Try.call17 (by kernel_rfl) ((g17_eq u0 w0).trans h)

/-! 26: sync/atomic.b32 (b: bool) -/
def g26_ann : List (List Nat × List Nat) := []

noncomputable def g26 (u0 : Bool) (w0 : World) : Option (Value × World) :=
if u0 = true then
(some (.int .u32 1, w0))
else
(some (.int .u32 0, w0))

theorem g26_eq (u0 : Bool) (w0 : World) : evFn Try.prog 26 g26_ann #[.bool u0] w0 = g26 u0 w0 := by kernel_rfl

theorem g26_call {u0 : Bool} {w0 : World} {r : Value × World} (h : g26 u0 w0 = some r) : callF Try.prog 26 #[.bool u0] w0 = some r :=
  callF_of_evFn (ann := g26_ann) Try.call26 (by kernel_rfl) ((g26_eq u0 w0).trans h)

end Go.Proofs.Ytakcmfbkknaehaa
