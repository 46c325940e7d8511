/-
  ImageT: lemmas on what Go functions of this seat come to (for whatever arguments, as each says). No condition but those that stand in each lemma.
-/
import Derived.Test.YtjcenfgmpbeldaaImageF0
namespace Go.Proofs.Ytjcenfgmpbeldaa
open Go Go.Ev
set_option maxRecDepth 100000
set_option linter.unusedVariables false
/-! 97: penstock/image.without$1 (x: int) -/
def g97_ann : List (List Nat × List Nat) := []

noncomputable def g97 (u0 : Int) (u1 : Addr) (w0 : World) : Option (Value × World) :=
(World.cell? w0 u1).bind fun v1 =>
(asI .i64 v1).bind fun n2 =>
some (.bool ((u0 : Int) == n2), w0)

theorem g97_eq (u0 : Int) (u1 : Addr) (w0 : World) : evFn Try.prog 97 g97_ann #[.int .i64 u0, .pointer (some u1)] w0 = g97 u0 u1 w0 := by kernel_rfl

theorem g97_call {u0 : Int} {u1 : Addr} {w0 : World} {r : Value × World} (h : g97 u0 u1 w0 = some r) : callF Try.prog 97 #[.int .i64 u0, .pointer (some u1)] w0 = some r :=
  callF_of_evFn (ann := g97_ann) Try.call97 (by kernel_rfl) ((g97_eq u0 u1 w0).trans h)

/-! 74: (*penstock/image.Image).fence$1 (x: int) -/
def g74_ann : List (List Nat × List Nat) := []

noncomputable def g74 (u0 : Int) (u1 : Addr) (w0 : World) : Option (Value × World) :=
(World.cell? w0 u1).bind fun v1 =>
(asP v1).bind fun p2 =>
p2.bind fun a3 =>
(World.cell? w0 a3).bind fun v4 =>
(asSl v4).bind fun q5 =>
(idxA q5.1 q5.2.1 3 u0).bind fun a6 =>
(World.cell? w0 a6).bind fun v7 =>
(asB v7).bind fun b8 =>
some (.bool b8, w0)

theorem g74_eq (u0 : Int) (u1 : Addr) (w0 : World) : evFn Try.prog 74 g74_ann #[.int .i64 u0, .pointer (some u1)] w0 = g74 u0 u1 w0 := by kernel_rfl

theorem g74_call {u0 : Int} {u1 : Addr} {w0 : World} {r : Value × World} (h : g74 u0 u1 w0 = some r) : callF Try.prog 74 #[.int .i64 u0, .pointer (some u1)] w0 = some r :=
  callF_of_evFn (ann := g74_ann) Try.call74 (by kernel_rfl) ((g74_eq u0 u1 w0).trans h)

/-! 98: slices.IndexFunc[[]int,int] (s: []int, f: func(int) bool) -/
def g98x97_ann : List (List Nat × List Nat) := [([0, 1, 0, 1], [0, 1, 7, 4, 8])]

def g98x97_l2_cs (u0 : Option Addr × Nat × Nat) (u1 : Addr) : List (Nat × Value) := ([(0, .slice u0.1 u0.2.1 u0.2.2), (1, .func (.func 97) #[] #[.pointer (some u1)]), (7, .int .i64 (u0.2.1 : Int))] : List (Nat × Value))

/-- the round of a loop (slices.IndexFunc[[]int,int]) -/
noncomputable def g98x97_l2_b (u0 : Option Addr × Nat × Nat) (u1 : Addr) (s3 : Int × Int) (w4 : World) : Option (Exit × (Int × Int) × World) :=
if (decide ((s3.2 : Int) < (u0.2.1 : Int))) = true then
((idxA u0.1 u0.2.1 1 s3.2).bind fun a5 =>
(World.cell? w4 a5).bind fun v6 =>
(asI .i64 v6).bind fun n7 =>
(callF Try.prog 97 #[.int .i64 n7, .pointer (some u1)] w4).bind fun r8 =>
(asB r8.1).bind fun b9 =>
if b9 = true then
(some (.ret, (s3.2, s3.2), r8.2))
else
(some (.normal, (s3.1, (IntKind.i64.wrap (s3.2 + 1))), r8.2)))
else
(some ((.exit 0), (s3.1, s3.2), w4))

noncomputable def g98x97_K10  : Exit → Env → World → Option (Value × World) :=
  retK Try.prog Try.f98.results.toList

noncomputable def g98x97_K11  : Exit → Env → World → Option (Value × World) :=
  seqK (ev Try.prog 19 98 g98x97_ann (cAt [1, 1] (bodyOf Try.f98)) [1, 1] g98x97_K10) g98x97_K10

noncomputable def g98x97_K12  : Exit → Env → World → Option (Value × World) :=
  blkK 0 g98x97_K11

/-- the loop, from a state on -/
noncomputable def g98x97_l2 (u0 : Option Addr × Nat × Nat) (u1 : Addr) (s : Int × Int) (w : World) : Option (Value × World) :=
  loopM Try.prog 19 98 g98x97_ann (cAt [1, 0, 1, 0, 0] (bodyOf Try.f98)) [0, 1, 0, 1] g98x97_K12 ((g98x97_l2_cs u0 u1) ++ sputs [(4, .i .i64), (8, .i .i64)] s) w

/-- behind the loop, left by x0 -/
noncomputable def g98x97_l2_x0  (t13 : Int × Int) (w14 : World) : Option (Value × World) :=
some (.int .i64 (-1), w14)

/-- behind the loop, left by ret -/
noncomputable def g98x97_l2_ret  (t15 : Int × Int) (w16 : World) : Option (Value × World) :=
some (.int .i64 t15.1, w16)

noncomputable def g98x97 (u0 : Option Addr × Nat × Nat) (u1 : Addr) (w0 : World) : Option (Value × World) :=
g98x97_l2 u0 u1 (0, 0) w0

theorem g98x97_eq (u0 : Option Addr × Nat × Nat) (u1 : Addr) (w0 : World) : evFn Try.prog 98 g98x97_ann #[.slice u0.1 u0.2.1 u0.2.2, .func (.func 97) #[] #[.pointer (some u1)]] w0 = g98x97 u0 u1 w0 := by kernel_rfl

theorem g98x97_call {u0 : Option Addr × Nat × Nat} {u1 : Addr} {w0 : World} {r : Value × World} (h : g98x97 u0 u1 w0 = some r) : callF Try.prog 98 #[.slice u0.1 u0.2.1 u0.2.2, .func (.func 97) #[] #[.pointer (some u1)]] w0 = some r :=
  callF_of_evFn (ann := g98x97_ann) Try.call98 (by kernel_rfl) ((g98x97_eq u0 u1 w0).trans h)

theorem g98x97_l2_x0_of {u0 : Option Addr × Nat × Nat} {u1 : Addr} {s t : Int × Int} {w w' : World} (h : loopS (g98x97_l2_b u0 u1) s w = some (.exit 0, t, w')) : g98x97_l2 u0 u1 s w = g98x97_l2_x0 t w' := by
  have h1 : g98x97_l2 u0 u1 s w = loopM Try.prog 19 98 g98x97_ann (cAt [1, 0, 1, 0, 0] (bodyOf Try.f98)) [0, 1, 0, 1] g98x97_K12 ((g98x97_l2_cs u0 u1) ++ sputs [(4, .i .i64), (8, .i .i64)] s) w := by kernel_rfl
  have h2 : loopM Try.prog 19 98 g98x97_ann (cAt [1, 0, 1, 0, 0] (bodyOf Try.f98)) [0, 1, 0, 1] g98x97_K12 ((g98x97_l2_cs u0 u1) ++ sputs [(4, .i .i64), (8, .i .i64)] s) w = g98x97_K12 (.exit 0) (puts 19 ((g98x97_l2_cs u0 u1) ++ sputs [(4, .i .i64), (8, .i .i64)] t)) w' :=
    loop_rule (P := Try.prog) (N := 19) (f := 98) (ann := g98x97_ann) (body := (cAt [1, 0, 1, 0, 0] (bodyOf Try.f98))) (pt := [0, 1, 0, 1]) (K := g98x97_K12) (g98x97_l2_cs u0 u1) [(4, .i .i64), (8, .i .i64)] (b := g98x97_l2_b u0 u1) (fun s w => by kernel_rfl) (by kernel_rfl) (by kernel_rfl) (by kernel_rfl) h
  have h3 : g98x97_K12 (.exit 0) (puts 19 ((g98x97_l2_cs u0 u1) ++ sputs [(4, .i .i64), (8, .i .i64)] t)) w' = g98x97_l2_x0 t w' := by kernel_rfl
  exact h1.trans (h2.trans h3)

theorem g98x97_l2_ret_of {u0 : Option Addr × Nat × Nat} {u1 : Addr} {s t : Int × Int} {w w' : World} (h : loopS (g98x97_l2_b u0 u1) s w = some (.ret, t, w')) : g98x97_l2 u0 u1 s w = g98x97_l2_ret t w' := by
  have h1 : g98x97_l2 u0 u1 s w = loopM Try.prog 19 98 g98x97_ann (cAt [1, 0, 1, 0, 0] (bodyOf Try.f98)) [0, 1, 0, 1] g98x97_K12 ((g98x97_l2_cs u0 u1) ++ sputs [(4, .i .i64), (8, .i .i64)] s) w := by kernel_rfl
  have h2 : loopM Try.prog 19 98 g98x97_ann (cAt [1, 0, 1, 0, 0] (bodyOf Try.f98)) [0, 1, 0, 1] g98x97_K12 ((g98x97_l2_cs u0 u1) ++ sputs [(4, .i .i64), (8, .i .i64)] s) w = g98x97_K12 (.ret) (puts 19 ((g98x97_l2_cs u0 u1) ++ sputs [(4, .i .i64), (8, .i .i64)] t)) w' :=
    loop_rule (P := Try.prog) (N := 19) (f := 98) (ann := g98x97_ann) (body := (cAt [1, 0, 1, 0, 0] (bodyOf Try.f98))) (pt := [0, 1, 0, 1]) (K := g98x97_K12) (g98x97_l2_cs u0 u1) [(4, .i .i64), (8, .i .i64)] (b := g98x97_l2_b u0 u1) (fun s w => by kernel_rfl) (by kernel_rfl) (by kernel_rfl) (by kernel_rfl) h
  have h3 : g98x97_K12 (.ret) (puts 19 ((g98x97_l2_cs u0 u1) ++ sputs [(4, .i .i64), (8, .i .i64)] t)) w' = g98x97_l2_ret t w' := by kernel_rfl
  exact h1.trans (h2.trans h3)

/-! 98: slices.IndexFunc[[]int,int] (s: []int, f: func(int) bool) -/
def g98x74_ann : List (List Nat × List Nat) := [([0, 1, 0, 1], [0, 1, 7, 4, 8])]

def g98x74_l2_cs (u0 : Option Addr × Nat × Nat) (u1 : Addr) : List (Nat × Value) := ([(0, .slice u0.1 u0.2.1 u0.2.2), (1, .func (.func 74) #[] #[.pointer (some u1)]), (7, .int .i64 (u0.2.1 : Int))] : List (Nat × Value))

/-- the round of a loop (slices.IndexFunc[[]int,int]) -/
noncomputable def g98x74_l2_b (u0 : Option Addr × Nat × Nat) (u1 : Addr) (s3 : Int × Int) (w4 : World) : Option (Exit × (Int × Int) × World) :=
if (decide ((s3.2 : Int) < (u0.2.1 : Int))) = true then
((idxA u0.1 u0.2.1 1 s3.2).bind fun a5 =>
(World.cell? w4 a5).bind fun v6 =>
(asI .i64 v6).bind fun n7 =>
(callF Try.prog 74 #[.int .i64 n7, .pointer (some u1)] w4).bind fun r8 =>
(asB r8.1).bind fun b9 =>
if b9 = true then
(some (.ret, (s3.2, s3.2), r8.2))
else
(some (.normal, (s3.1, (IntKind.i64.wrap (s3.2 + 1))), r8.2)))
else
(some ((.exit 0), (s3.1, s3.2), w4))

noncomputable def g98x74_K10  : Exit → Env → World → Option (Value × World) :=
  retK Try.prog Try.f98.results.toList

noncomputable def g98x74_K11  : Exit → Env → World → Option (Value × World) :=
  seqK (ev Try.prog 19 98 g98x74_ann (cAt [1, 1] (bodyOf Try.f98)) [1, 1] g98x74_K10) g98x74_K10

noncomputable def g98x74_K12  : Exit → Env → World → Option (Value × World) :=
  blkK 0 g98x74_K11

/-- the loop, from a state on -/
noncomputable def g98x74_l2 (u0 : Option Addr × Nat × Nat) (u1 : Addr) (s : Int × Int) (w : World) : Option (Value × World) :=
  loopM Try.prog 19 98 g98x74_ann (cAt [1, 0, 1, 0, 0] (bodyOf Try.f98)) [0, 1, 0, 1] g98x74_K12 ((g98x74_l2_cs u0 u1) ++ sputs [(4, .i .i64), (8, .i .i64)] s) w

/-- behind the loop, left by x0 -/
noncomputable def g98x74_l2_x0  (t13 : Int × Int) (w14 : World) : Option (Value × World) :=
some (.int .i64 (-1), w14)

/-- behind the loop, left by ret -/
noncomputable def g98x74_l2_ret  (t15 : Int × Int) (w16 : World) : Option (Value × World) :=
some (.int .i64 t15.1, w16)

noncomputable def g98x74 (u0 : Option Addr × Nat × Nat) (u1 : Addr) (w0 : World) : Option (Value × World) :=
g98x74_l2 u0 u1 (0, 0) w0

theorem g98x74_eq (u0 : Option Addr × Nat × Nat) (u1 : Addr) (w0 : World) : evFn Try.prog 98 g98x74_ann #[.slice u0.1 u0.2.1 u0.2.2, .func (.func 74) #[] #[.pointer (some u1)]] w0 = g98x74 u0 u1 w0 := by kernel_rfl

theorem g98x74_call {u0 : Option Addr × Nat × Nat} {u1 : Addr} {w0 : World} {r : Value × World} (h : g98x74 u0 u1 w0 = some r) : callF Try.prog 98 #[.slice u0.1 u0.2.1 u0.2.2, .func (.func 74) #[] #[.pointer (some u1)]] w0 = some r :=
  callF_of_evFn (ann := g98x74_ann) Try.call98 (by kernel_rfl) ((g98x74_eq u0 u1 w0).trans h)

theorem g98x74_l2_x0_of {u0 : Option Addr × Nat × Nat} {u1 : Addr} {s t : Int × Int} {w w' : World} (h : loopS (g98x74_l2_b u0 u1) s w = some (.exit 0, t, w')) : g98x74_l2 u0 u1 s w = g98x74_l2_x0 t w' := by
  have h1 : g98x74_l2 u0 u1 s w = loopM Try.prog 19 98 g98x74_ann (cAt [1, 0, 1, 0, 0] (bodyOf Try.f98)) [0, 1, 0, 1] g98x74_K12 ((g98x74_l2_cs u0 u1) ++ sputs [(4, .i .i64), (8, .i .i64)] s) w := by kernel_rfl
  have h2 : loopM Try.prog 19 98 g98x74_ann (cAt [1, 0, 1, 0, 0] (bodyOf Try.f98)) [0, 1, 0, 1] g98x74_K12 ((g98x74_l2_cs u0 u1) ++ sputs [(4, .i .i64), (8, .i .i64)] s) w = g98x74_K12 (.exit 0) (puts 19 ((g98x74_l2_cs u0 u1) ++ sputs [(4, .i .i64), (8, .i .i64)] t)) w' :=
    loop_rule (P := Try.prog) (N := 19) (f := 98) (ann := g98x74_ann) (body := (cAt [1, 0, 1, 0, 0] (bodyOf Try.f98))) (pt := [0, 1, 0, 1]) (K := g98x74_K12) (g98x74_l2_cs u0 u1) [(4, .i .i64), (8, .i .i64)] (b := g98x74_l2_b u0 u1) (fun s w => by kernel_rfl) (by kernel_rfl) (by kernel_rfl) (by kernel_rfl) h
  have h3 : g98x74_K12 (.exit 0) (puts 19 ((g98x74_l2_cs u0 u1) ++ sputs [(4, .i .i64), (8, .i .i64)] t)) w' = g98x74_l2_x0 t w' := by kernel_rfl
  exact h1.trans (h2.trans h3)

theorem g98x74_l2_ret_of {u0 : Option Addr × Nat × Nat} {u1 : Addr} {s t : Int × Int} {w w' : World} (h : loopS (g98x74_l2_b u0 u1) s w = some (.ret, t, w')) : g98x74_l2 u0 u1 s w = g98x74_l2_ret t w' := by
  have h1 : g98x74_l2 u0 u1 s w = loopM Try.prog 19 98 g98x74_ann (cAt [1, 0, 1, 0, 0] (bodyOf Try.f98)) [0, 1, 0, 1] g98x74_K12 ((g98x74_l2_cs u0 u1) ++ sputs [(4, .i .i64), (8, .i .i64)] s) w := by kernel_rfl
  have h2 : loopM Try.prog 19 98 g98x74_ann (cAt [1, 0, 1, 0, 0] (bodyOf Try.f98)) [0, 1, 0, 1] g98x74_K12 ((g98x74_l2_cs u0 u1) ++ sputs [(4, .i .i64), (8, .i .i64)] s) w = g98x74_K12 (.ret) (puts 19 ((g98x74_l2_cs u0 u1) ++ sputs [(4, .i .i64), (8, .i .i64)] t)) w' :=
    loop_rule (P := Try.prog) (N := 19) (f := 98) (ann := g98x74_ann) (body := (cAt [1, 0, 1, 0, 0] (bodyOf Try.f98))) (pt := [0, 1, 0, 1]) (K := g98x74_K12) (g98x74_l2_cs u0 u1) [(4, .i .i64), (8, .i .i64)] (b := g98x74_l2_b u0 u1) (fun s w => by kernel_rfl) (by kernel_rfl) (by kernel_rfl) (by kernel_rfl) h
  have h3 : g98x74_K12 (.ret) (puts 19 ((g98x74_l2_cs u0 u1) ++ sputs [(4, .i .i64), (8, .i .i64)] t)) w' = g98x74_l2_ret t w' := by kernel_rfl
  exact h1.trans (h2.trans h3)

/-! 96: slices.DeleteFunc[[]int,int] (s: []int, del: func(int) bool) -/
def g96x97_ann : List (List Nat × List Nat) := [([0, 1, 0, 1, 1, 1], [0, 1, 5, 6])]

def g96x97_l3_cs (u0 : Option Addr × Nat × Nat) (u1 : Addr) : List (Nat × Value) := ([(0, .slice u0.1 u0.2.1 u0.2.2), (1, .func (.func 97) #[] #[.pointer (some u1)])] : List (Nat × Value))

/-- the round of a loop (slices.DeleteFunc[[]int,int]) -/
noncomputable def g96x97_l3_b (u0 : Option Addr × Nat × Nat) (u1 : Addr) (s4 : Int × Int) (w5 : World) : Option (Exit × (Int × Int) × World) :=
if (decide ((s4.2 : Int) < (u0.2.1 : Int))) = true then
((idxA u0.1 u0.2.1 1 s4.2).bind fun a7 =>
(World.cell? w5 a7).bind fun v8 =>
(asI .i64 v8).bind fun n9 =>
(callF Try.prog 97 #[.int .i64 n9, .pointer (some u1)] w5).bind fun r10 =>
(asB r10.1).bind fun b11 =>
if (!b11) = true then
((idxA u0.1 u0.2.1 1 s4.1).bind fun a12 =>
(st1 r10.2 a12 (.int .i64 n9)).bind fun w13 =>
some (.normal, ((IntKind.i64.wrap (s4.1 + 1)), (IntKind.i64.wrap (s4.2 + 1))), w13))
else
(some (.normal, (s4.1, (IntKind.i64.wrap (s4.2 + 1))), r10.2)))
else
(some ((.exit 0), (s4.1, s4.2), w5))

noncomputable def g96x97_K14  : Exit → Env → World → Option (Value × World) :=
  retK Try.prog Try.f96.results.toList

noncomputable def g96x97_K15  : Exit → Env → World → Option (Value × World) :=
  seqK (ev Try.prog 42 96 g96x97_ann (cAt [1, 1, 1, 1] (bodyOf Try.f96)) [1, 1, 1, 1] g96x97_K14) g96x97_K14

noncomputable def g96x97_K16  : Exit → Env → World → Option (Value × World) :=
  blkK 0 g96x97_K15

/-- the loop, from a state on -/
noncomputable def g96x97_l3 (u0 : Option Addr × Nat × Nat) (u1 : Addr) (s : Int × Int) (w : World) : Option (Value × World) :=
  loopM Try.prog 42 96 g96x97_ann (cAt [1, 1, 1, 0, 1, 0, 0] (bodyOf Try.f96)) [0, 1, 0, 1, 1, 1] g96x97_K16 ((g96x97_l3_cs u0 u1) ++ sputs [(5, .i .i64), (6, .i .i64)] s) w

/-- behind the loop, left by x0 -/
noncomputable def g96x97_l3_x0 (u0 : Option Addr × Nat × Nat) (t17 : Int × Int) (w18 : World) : Option (Value × World) :=
(slc u0.1 u0.2.1 u0.2.2 1 (some t17.1) none none).bind fun q19 =>
(callB Try.prog .clear #[28] 0 #[false] #[.slice q19.1 q19.2.1 q19.2.2] w18).bind fun r20 =>
(asTup 0 r20.1).bind fun _ =>
(slc u0.1 u0.2.1 u0.2.2 1 none (some t17.1) none).bind fun q21 =>
some (.slice q21.1 q21.2.1 q21.2.2, r20.2)

noncomputable def g96x97 (u0 : Option Addr × Nat × Nat) (u1 : Addr) (w0 : World) : Option (Value × World) :=
(callF Try.prog 98 #[.slice u0.1 u0.2.1 u0.2.2, .func (.func 97) #[] #[.pointer (some u1)]] w0).bind fun r1 =>
(asI .i64 r1.1).bind fun n2 =>
if ((n2 : Int) == (-1)) = true then
(some (.slice u0.1 u0.2.1 u0.2.2, r1.2))
else
(g96x97_l3 u0 u1 (n2, (IntKind.i64.wrap (n2 + 1))) r1.2)

theorem g96x97_eq (u0 : Option Addr × Nat × Nat) (u1 : Addr) (w0 : World) : evFn Try.prog 96 g96x97_ann #[.slice u0.1 u0.2.1 u0.2.2, .func (.func 97) #[] #[.pointer (some u1)]] w0 = g96x97 u0 u1 w0 := by kernel_rfl

theorem g96x97_call {u0 : Option Addr × Nat × Nat} {u1 : Addr} {w0 : World} {r : Value × World} (h : g96x97 u0 u1 w0 = some r) : callF Try.prog 96 #[.slice u0.1 u0.2.1 u0.2.2, .func (.func 97) #[] #[.pointer (some u1)]] w0 = some r :=
  callF_of_evFn (ann := g96x97_ann) Try.call96 (by kernel_rfl) ((g96x97_eq u0 u1 w0).trans h)

theorem g96x97_l3_x0_of {u0 : Option Addr × Nat × Nat} {u1 : Addr} {s t : Int × Int} {w w' : World} (h : loopS (g96x97_l3_b u0 u1) s w = some (.exit 0, t, w')) : g96x97_l3 u0 u1 s w = g96x97_l3_x0 u0 t w' := by
  have h1 : g96x97_l3 u0 u1 s w = loopM Try.prog 42 96 g96x97_ann (cAt [1, 1, 1, 0, 1, 0, 0] (bodyOf Try.f96)) [0, 1, 0, 1, 1, 1] g96x97_K16 ((g96x97_l3_cs u0 u1) ++ sputs [(5, .i .i64), (6, .i .i64)] s) w := by kernel_rfl
  have h2 : loopM Try.prog 42 96 g96x97_ann (cAt [1, 1, 1, 0, 1, 0, 0] (bodyOf Try.f96)) [0, 1, 0, 1, 1, 1] g96x97_K16 ((g96x97_l3_cs u0 u1) ++ sputs [(5, .i .i64), (6, .i .i64)] s) w = g96x97_K16 (.exit 0) (puts 42 ((g96x97_l3_cs u0 u1) ++ sputs [(5, .i .i64), (6, .i .i64)] t)) w' :=
    loop_rule (P := Try.prog) (N := 42) (f := 96) (ann := g96x97_ann) (body := (cAt [1, 1, 1, 0, 1, 0, 0] (bodyOf Try.f96))) (pt := [0, 1, 0, 1, 1, 1]) (K := g96x97_K16) (g96x97_l3_cs u0 u1) [(5, .i .i64), (6, .i .i64)] (b := g96x97_l3_b u0 u1) (fun s w => by kernel_rfl) (by kernel_rfl) (by kernel_rfl) (by kernel_rfl) h
  have h3 : g96x97_K16 (.exit 0) (puts 42 ((g96x97_l3_cs u0 u1) ++ sputs [(5, .i .i64), (6, .i .i64)] t)) w' = g96x97_l3_x0 u0 t w' := by kernel_rfl
  exact h1.trans (h2.trans h3)

/-! 73: slices.ContainsFunc[[]int,int] (s: []int, f: func(int) bool) -/
def g73x74_ann : List (List Nat × List Nat) := []

noncomputable def g73x74 (u0 : Option Addr × Nat × Nat) (u1 : Addr) (w0 : World) : Option (Value × World) :=
(callF Try.prog 98 #[.slice u0.1 u0.2.1 u0.2.2, .func (.func 74) #[] #[.pointer (some u1)]] w0).bind fun r1 =>
(asI .i64 r1.1).bind fun n2 =>
some (.bool (decide ((n2 : Int) ≥ 0)), r1.2)

theorem g73x74_eq (u0 : Option Addr × Nat × Nat) (u1 : Addr) (w0 : World) : evFn Try.prog 73 g73x74_ann #[.slice u0.1 u0.2.1 u0.2.2, .func (.func 74) #[] #[.pointer (some u1)]] w0 = g73x74 u0 u1 w0 := by kernel_rfl

theorem g73x74_call {u0 : Option Addr × Nat × Nat} {u1 : Addr} {w0 : World} {r : Value × World} (h : g73x74 u0 u1 w0 = some r) : callF Try.prog 73 #[.slice u0.1 u0.2.1 u0.2.2, .func (.func 74) #[] #[.pointer (some u1)]] w0 = some r :=
  callF_of_evFn (ann := g73x74_ann) Try.call73 (by kernel_rfl) ((g73x74_eq u0 u1 w0).trans h)

/-! 72: penstock/image.without (l: []int, n: int) -/
def g72_ann : List (List Nat × List Nat) := []

noncomputable def g72 (u0 : Option Addr × Nat × Nat) (u1 : Int) (w0 : World) : Option (Value × World) :=
(callF Try.prog 36 #[.slice u0.1 u0.2.1 u0.2.2] (World.alloc w0 (.cells #[.int .i64 u1] 3))).bind fun r1 =>
(asSl r1.1).bind fun q2 =>
(callF Try.prog 96 #[.slice q2.1 q2.2.1 q2.2.2, .func (.func 97) #[] #[.pointer (some (⟨w0.heap.size, 0, none⟩))]] r1.2).bind fun r3 =>
(asSl r3.1).bind fun q4 =>
some (.slice q4.1 q4.2.1 q4.2.2, r3.2)

theorem g72_eq (u0 : Option Addr × Nat × Nat) (u1 : Int) (w0 : World) : evFn Try.prog 72 g72_ann #[.slice u0.1 u0.2.1 u0.2.2, .int .i64 u1] w0 = g72 u0 u1 w0 := by kernel_rfl

theorem g72_call {u0 : Option Addr × Nat × Nat} {u1 : Int} {w0 : World} {r : Value × World} (h : g72 u0 u1 w0 = some r) : callF Try.prog 72 #[.slice u0.1 u0.2.1 u0.2.2, .int .i64 u1] w0 = some r :=
  callF_of_evFn (ann := g72_ann) Try.call72 (by kernel_rfl) ((g72_eq u0 u1 w0).trans h)

/-! 38: (*penstock/image.Image).fence (m: *image.Image, n: int) -/
def g38_ann : List (List Nat × List Nat) := [([0, 1, 0, 1, 1, 1], [1, 2, 28, 29])]

def g38_l22_cs (u1 : Int) (w0 : World) (q20 : Option Addr × Nat × Nat) : List (Nat × Value) := ([(1, .int .i64 u1), (2, .pointer (some (⟨w0.heap.size, 0, none⟩))), (28, .int .i64 (q20.2.1 : Int))] : List (Nat × Value))

/-- the round of a loop ((*penstock/image.Image).fence) -/
noncomputable def g38_l22_b (q20 : Option Addr × Nat × Nat) (w0 : World) (u1 : Int) (s23 : Int) (w24 : World) : Option (Exit × (Int) × World) :=
if (decide ((s23 : Int) < (q20.2.1 : Int))) = true then
((World.cell? w24 (⟨w0.heap.size, 0, none⟩)).bind fun v25 =>
(asP v25).bind fun p26 =>
p26.bind fun a27 =>
(World.cell? w24 (Addr.add a27 1)).bind fun v28 =>
(asSl v28).bind fun q29 =>
(idxA q29.1 q29.2.1 6 s23).bind fun a30 =>
(World.cell? w24 (Addr.add a30 3)).bind fun v31 =>
(asSl v31).bind fun q32 =>
(callF Try.prog 70 #[.slice q32.1 q32.2.1 q32.2.2, .int .i64 u1] w24).bind fun r33 =>
(asB r33.1).bind fun b34 =>
if (!b34) = true then
(some (.normal, (IntKind.i64.wrap (s23 + 1)), r33.2))
else
((World.cell? r33.2 (Addr.add a30 3)).bind fun v36 =>
(asSl v36).bind fun q37 =>
(callF Try.prog 72 #[.slice q37.1 q37.2.1 q37.2.2, .int .i64 u1] r33.2).bind fun r38 =>
(asSl r38.1).bind fun q39 =>
(callF Try.prog 73 #[.slice q39.1 q39.2.1 q39.2.2, .func (.func 74) #[] #[.pointer (some (⟨w0.heap.size, 0, none⟩))]] r38.2).bind fun r40 =>
(asB r40.1).bind fun b41 =>
if b41 = true then
((st1 r40.2 (Addr.add a30 3) (.slice q39.1 q39.2.1 q39.2.2)).bind fun w42 =>
(World.cell? w42 (Addr.add a30 2)).bind fun v43 =>
(asI .i64 v43).bind fun n44 =>
(st1 w42 (Addr.add a30 2) (.int .i64 (IntKind.i64.wrap (n44 + 1)))).bind fun w45 =>
(World.cell? w45 a30).bind fun v46 =>
(asI .i64 v46).bind fun n47 =>
if ((n47 : Int) == u1) = true then
((World.cell? w45 (⟨w0.heap.size, 0, none⟩)).bind fun v48 =>
(asP v48).bind fun p49 =>
(callF Try.prog 71 #[.pointer p49, .pointer (some a30)] w45).bind fun r50 =>
(asTup 0 r50.1).bind fun _ =>
some (.normal, (IntKind.i64.wrap (s23 + 1)), r50.2))
else
(some (.normal, (IntKind.i64.wrap (s23 + 1)), w45)))
else
((World.cell? r40.2 a30).bind fun v51 =>
(asI .i64 v51).bind fun n52 =>
if ((n52 : Int) == u1) = true then
((World.cell? r40.2 (⟨w0.heap.size, 0, none⟩)).bind fun v53 =>
(asP v53).bind fun p54 =>
(callF Try.prog 71 #[.pointer p54, .pointer (some a30)] r40.2).bind fun r55 =>
(asTup 0 r55.1).bind fun _ =>
some (.normal, (IntKind.i64.wrap (s23 + 1)), r55.2))
else
(some (.normal, (IntKind.i64.wrap (s23 + 1)), r40.2)))))
else
(some ((.exit 0), s23, w24))

noncomputable def g38_K56  : Exit → Env → World → Option (Value × World) :=
  retK Try.prog Try.f38.results.toList

noncomputable def g38_K57  : Exit → Env → World → Option (Value × World) :=
  seqK (ev Try.prog 75 38 g38_ann (cAt [1, 1, 1, 1] (bodyOf Try.f38)) [1, 1, 1, 1] g38_K56) g38_K56

noncomputable def g38_K58  : Exit → Env → World → Option (Value × World) :=
  blkK 0 g38_K57

/-- the loop, from a state on -/
noncomputable def g38_l22 (u1 : Int) (w0 : World) (q20 : Option Addr × Nat × Nat) (s : Int) (w : World) : Option (Value × World) :=
  loopM Try.prog 75 38 g38_ann (cAt [1, 1, 1, 0, 1, 0, 0] (bodyOf Try.f38)) [0, 1, 0, 1, 1, 1] g38_K58 ((g38_l22_cs u1 w0 q20) ++ sputs [(29, .i .i64)] s) w

/-- behind the loop, left by x0 -/
noncomputable def g38_l22_x0  (t59 : Int) (w60 : World) : Option (Value × World) :=
some (.int .i64 0, w60)

noncomputable def g38 (u0 : Option Addr) (u1 : Int) (w0 : World) : Option (Value × World) :=
(World.cell? (World.alloc w0 (.cells #[.pointer u0] 23)) (⟨w0.heap.size, 0, none⟩)).bind fun v1 =>
(asP v1).bind fun p2 =>
p2.bind fun a3 =>
(World.cell? (World.alloc w0 (.cells #[.pointer u0] 23)) a3).bind fun v4 =>
(asSl v4).bind fun q5 =>
(idxA q5.1 q5.2.1 3 u1).bind fun a6 =>
(World.cell? (World.alloc w0 (.cells #[.pointer u0] 23)) a6).bind fun v7 =>
(asB v7).bind fun b8 =>
if (!b8) = true then
(some (.int .i64 4, (World.alloc w0 (.cells #[.pointer u0] 23))))
else
((World.cell? (World.alloc w0 (.cells #[.pointer u0] 23)) (⟨w0.heap.size, 0, none⟩)).bind fun v9 =>
(asP v9).bind fun p10 =>
p10.bind fun a11 =>
(World.cell? (World.alloc w0 (.cells #[.pointer u0] 23)) a11).bind fun v12 =>
(asSl v12).bind fun q13 =>
(idxA q13.1 q13.2.1 3 u1).bind fun a14 =>
(st1 (World.alloc w0 (.cells #[.pointer u0] 23)) a14 (.bool false)).bind fun w15 =>
(World.cell? w15 (⟨w0.heap.size, 0, none⟩)).bind fun v16 =>
(asP v16).bind fun p17 =>
p17.bind fun a18 =>
(World.cell? w15 (Addr.add a18 1)).bind fun v19 =>
(asSl v19).bind fun q20 =>
g38_l22 u1 w0 q20 0 w15)

theorem g38_eq (u0 : Option Addr) (u1 : Int) (w0 : World) : evFn Try.prog 38 g38_ann #[.pointer u0, .int .i64 u1] w0 = g38 u0 u1 w0 := by kernel_rfl

theorem g38_call {u0 : Option Addr} {u1 : Int} {w0 : World} {r : Value × World} (h : g38 u0 u1 w0 = some r) : callF Try.prog 38 #[.pointer u0, .int .i64 u1] w0 = some r :=
  callF_of_evFn (ann := g38_ann) Try.call38 (by kernel_rfl) ((g38_eq u0 u1 w0).trans h)

theorem g38_l22_x0_of {u1 : Int} {w0 : World} {q20 : Option Addr × Nat × Nat} {s t : Int} {w w' : World} (h : loopS (g38_l22_b q20 w0 u1) s w = some (.exit 0, t, w')) : g38_l22 u1 w0 q20 s w = g38_l22_x0 t w' := by
  have h1 : g38_l22 u1 w0 q20 s w = loopM Try.prog 75 38 g38_ann (cAt [1, 1, 1, 0, 1, 0, 0] (bodyOf Try.f38)) [0, 1, 0, 1, 1, 1] g38_K58 ((g38_l22_cs u1 w0 q20) ++ sputs [(29, .i .i64)] s) w := by kernel_rfl
  have h2 : loopM Try.prog 75 38 g38_ann (cAt [1, 1, 1, 0, 1, 0, 0] (bodyOf Try.f38)) [0, 1, 0, 1, 1, 1] g38_K58 ((g38_l22_cs u1 w0 q20) ++ sputs [(29, .i .i64)] s) w = g38_K58 (.exit 0) (puts 75 ((g38_l22_cs u1 w0 q20) ++ sputs [(29, .i .i64)] t)) w' :=
    loop_rule (P := Try.prog) (N := 75) (f := 38) (ann := g38_ann) (body := (cAt [1, 1, 1, 0, 1, 0, 0] (bodyOf Try.f38))) (pt := [0, 1, 0, 1, 1, 1]) (K := g38_K58) (g38_l22_cs u1 w0 q20) [(29, .i .i64)] (b := g38_l22_b q20 w0 u1) (fun s w => by kernel_rfl) (by kernel_rfl) (by kernel_rfl) (by kernel_rfl) h
  have h3 : g38_K58 (.exit 0) (puts 75 ((g38_l22_cs u1 w0 q20) ++ sputs [(29, .i .i64)] t)) w' = g38_l22_x0 t w' := by kernel_rfl
  exact h1.trans (h2.trans h3)

end Go.Proofs.Ytjcenfgmpbeldaa
