/-
  GroupT: lemmas on what Go functions of this seat come to (for whatever arguments, as each says). No condition but those that stand in each lemma.
-/
import Derived.Test.YtcakijeoeankfaaGroupF0
namespace Go.Proofs.Ytcakijeoeankfaa
open Go Go.Ev
set_option maxRecDepth 100000
set_option linter.unusedVariables false
/-! 63: slices.IndexFunc[[]int,int] (s: []int, f: func(int) bool) -/
def g63x48_ann : List (List Nat × List Nat) := [([0, 1, 0, 1], [0, 1, 7, 4, 8])]

def g63x48_l2_cs (u0 : Option Addr × Nat × Nat) (u1 : Addr) : List (Nat × Value) := ([(0, .slice u0.1 u0.2.1 u0.2.2), (1, .func (.func 48) #[] #[.pointer (some u1)]), (7, .int .i64 (u0.2.1 : Int))] : List (Nat × Value))

/-- the round of a loop (slices.IndexFunc[[]int,int]) -/
noncomputable def g63x48_l2_b (u0 : Option Addr × Nat × Nat) (u1 : Addr) (s3 : Int × Int) (w4 : World) : Option (Exit × (Int × Int) × World) :=
if (decide ((s3.2 : Int) < (u0.2.1 : Int))) = true then
((idxA u0.1 u0.2.1 1 s3.2).bind fun a5 =>
(World.cell? w4 a5).bind fun v6 =>
(asI .i64 v6).bind fun n7 =>
(callF Try.prog 48 #[.int .i64 n7, .pointer (some u1)] w4).bind fun r8 =>
(asB r8.1).bind fun b9 =>
if b9 = true then
(some (.ret, (s3.2, s3.2), r8.2))
else
(some (.normal, (s3.1, (IntKind.i64.wrap (s3.2 + 1))), r8.2)))
else
(some ((.exit 0), (s3.1, s3.2), w4))

noncomputable def g63x48_K10  : Exit → Env → World → Option (Value × World) :=
  retK Try.prog Try.f63.results.toList

noncomputable def g63x48_K11  : Exit → Env → World → Option (Value × World) :=
  seqK (ev Try.prog 19 63 g63x48_ann (cAt [1, 1] (bodyOf Try.f63)) [1, 1] g63x48_K10) g63x48_K10

noncomputable def g63x48_K12  : Exit → Env → World → Option (Value × World) :=
  blkK 0 g63x48_K11

/-- the loop, from a state on -/
noncomputable def g63x48_l2 (u0 : Option Addr × Nat × Nat) (u1 : Addr) (s : Int × Int) (w : World) : Option (Value × World) :=
  loopM Try.prog 19 63 g63x48_ann (cAt [1, 0, 1, 0, 0] (bodyOf Try.f63)) [0, 1, 0, 1] g63x48_K12 ((g63x48_l2_cs u0 u1) ++ sputs [(4, .i .i64), (8, .i .i64)] s) w

/-- behind the loop, left by x0 -/
noncomputable def g63x48_l2_x0  (t13 : Int × Int) (w14 : World) : Option (Value × World) :=
some (.int .i64 (-1), w14)

/-- behind the loop, left by ret -/
noncomputable def g63x48_l2_ret  (t15 : Int × Int) (w16 : World) : Option (Value × World) :=
some (.int .i64 t15.1, w16)

noncomputable def g63x48 (u0 : Option Addr × Nat × Nat) (u1 : Addr) (w0 : World) : Option (Value × World) :=
g63x48_l2 u0 u1 (0, 0) w0

theorem g63x48_eq (u0 : Option Addr × Nat × Nat) (u1 : Addr) (w0 : World) : evFn Try.prog 63 g63x48_ann #[.slice u0.1 u0.2.1 u0.2.2, .func (.func 48) #[] #[.pointer (some u1)]] w0 = g63x48 u0 u1 w0 := by kernel_rfl

theorem g63x48_call {u0 : Option Addr × Nat × Nat} {u1 : Addr} {w0 : World} {r : Value × World} (h : g63x48 u0 u1 w0 = some r) : callF Try.prog 63 #[.slice u0.1 u0.2.1 u0.2.2, .func (.func 48) #[] #[.pointer (some u1)]] w0 = some r :=
  callF_of_evFn (ann := g63x48_ann) Try.call63 (by kernel_rfl) ((g63x48_eq u0 u1 w0).trans h)

theorem g63x48_l2_x0_of {u0 : Option Addr × Nat × Nat} {u1 : Addr} {s t : Int × Int} {w w' : World} (h : loopS (g63x48_l2_b u0 u1) s w = some (.exit 0, t, w')) : g63x48_l2 u0 u1 s w = g63x48_l2_x0 t w' := by
  have h1 : g63x48_l2 u0 u1 s w = loopM Try.prog 19 63 g63x48_ann (cAt [1, 0, 1, 0, 0] (bodyOf Try.f63)) [0, 1, 0, 1] g63x48_K12 ((g63x48_l2_cs u0 u1) ++ sputs [(4, .i .i64), (8, .i .i64)] s) w := by kernel_rfl
  have h2 : loopM Try.prog 19 63 g63x48_ann (cAt [1, 0, 1, 0, 0] (bodyOf Try.f63)) [0, 1, 0, 1] g63x48_K12 ((g63x48_l2_cs u0 u1) ++ sputs [(4, .i .i64), (8, .i .i64)] s) w = g63x48_K12 (.exit 0) (puts 19 ((g63x48_l2_cs u0 u1) ++ sputs [(4, .i .i64), (8, .i .i64)] t)) w' :=
    loop_rule (P := Try.prog) (N := 19) (f := 63) (ann := g63x48_ann) (body := (cAt [1, 0, 1, 0, 0] (bodyOf Try.f63))) (pt := [0, 1, 0, 1]) (K := g63x48_K12) (g63x48_l2_cs u0 u1) [(4, .i .i64), (8, .i .i64)] (b := g63x48_l2_b u0 u1) (fun s w => by kernel_rfl) (by kernel_rfl) (by kernel_rfl) (by kernel_rfl) h
  have h3 : g63x48_K12 (.exit 0) (puts 19 ((g63x48_l2_cs u0 u1) ++ sputs [(4, .i .i64), (8, .i .i64)] t)) w' = g63x48_l2_x0 t w' := by kernel_rfl
  exact h1.trans (h2.trans h3)

theorem g63x48_l2_ret_of {u0 : Option Addr × Nat × Nat} {u1 : Addr} {s t : Int × Int} {w w' : World} (h : loopS (g63x48_l2_b u0 u1) s w = some (.ret, t, w')) : g63x48_l2 u0 u1 s w = g63x48_l2_ret t w' := by
  have h1 : g63x48_l2 u0 u1 s w = loopM Try.prog 19 63 g63x48_ann (cAt [1, 0, 1, 0, 0] (bodyOf Try.f63)) [0, 1, 0, 1] g63x48_K12 ((g63x48_l2_cs u0 u1) ++ sputs [(4, .i .i64), (8, .i .i64)] s) w := by kernel_rfl
  have h2 : loopM Try.prog 19 63 g63x48_ann (cAt [1, 0, 1, 0, 0] (bodyOf Try.f63)) [0, 1, 0, 1] g63x48_K12 ((g63x48_l2_cs u0 u1) ++ sputs [(4, .i .i64), (8, .i .i64)] s) w = g63x48_K12 (.ret) (puts 19 ((g63x48_l2_cs u0 u1) ++ sputs [(4, .i .i64), (8, .i .i64)] t)) w' :=
    loop_rule (P := Try.prog) (N := 19) (f := 63) (ann := g63x48_ann) (body := (cAt [1, 0, 1, 0, 0] (bodyOf Try.f63))) (pt := [0, 1, 0, 1]) (K := g63x48_K12) (g63x48_l2_cs u0 u1) [(4, .i .i64), (8, .i .i64)] (b := g63x48_l2_b u0 u1) (fun s w => by kernel_rfl) (by kernel_rfl) (by kernel_rfl) (by kernel_rfl) h
  have h3 : g63x48_K12 (.ret) (puts 19 ((g63x48_l2_cs u0 u1) ++ sputs [(4, .i .i64), (8, .i .i64)] t)) w' = g63x48_l2_ret t w' := by kernel_rfl
  exact h1.trans (h2.trans h3)

/-! 47: slices.DeleteFunc[[]int,int] (s: []int, del: func(int) bool) -/
def g47x48_ann : List (List Nat × List Nat) := [([0, 1, 0, 1, 1, 1], [0, 1, 5, 6])]

def g47x48_l3_cs (u0 : Option Addr × Nat × Nat) (u1 : Addr) : List (Nat × Value) := ([(0, .slice u0.1 u0.2.1 u0.2.2), (1, .func (.func 48) #[] #[.pointer (some u1)])] : List (Nat × Value))

/-- the round of a loop (slices.DeleteFunc[[]int,int]) -/
noncomputable def g47x48_l3_b (u0 : Option Addr × Nat × Nat) (u1 : Addr) (s4 : Int × Int) (w5 : World) : Option (Exit × (Int × Int) × World) :=
if (decide ((s4.2 : Int) < (u0.2.1 : Int))) = true then
((idxA u0.1 u0.2.1 1 s4.2).bind fun a7 =>
(World.cell? w5 a7).bind fun v8 =>
(asI .i64 v8).bind fun n9 =>
(callF Try.prog 48 #[.int .i64 n9, .pointer (some u1)] w5).bind fun r10 =>
(asB r10.1).bind fun b11 =>
if (!b11) = true then
((idxA u0.1 u0.2.1 1 s4.1).bind fun a12 =>
(st1 r10.2 a12 (.int .i64 n9)).bind fun w13 =>
some (.normal, ((IntKind.i64.wrap (s4.1 + 1)), (IntKind.i64.wrap (s4.2 + 1))), w13))
else
(some (.normal, (s4.1, (IntKind.i64.wrap (s4.2 + 1))), r10.2)))
else
(some ((.exit 0), (s4.1, s4.2), w5))

noncomputable def g47x48_K14  : Exit → Env → World → Option (Value × World) :=
  retK Try.prog Try.f47.results.toList

noncomputable def g47x48_K15  : Exit → Env → World → Option (Value × World) :=
  seqK (ev Try.prog 42 47 g47x48_ann (cAt [1, 1, 1, 1] (bodyOf Try.f47)) [1, 1, 1, 1] g47x48_K14) g47x48_K14

noncomputable def g47x48_K16  : Exit → Env → World → Option (Value × World) :=
  blkK 0 g47x48_K15

/-- the loop, from a state on -/
noncomputable def g47x48_l3 (u0 : Option Addr × Nat × Nat) (u1 : Addr) (s : Int × Int) (w : World) : Option (Value × World) :=
  loopM Try.prog 42 47 g47x48_ann (cAt [1, 1, 1, 0, 1, 0, 0] (bodyOf Try.f47)) [0, 1, 0, 1, 1, 1] g47x48_K16 ((g47x48_l3_cs u0 u1) ++ sputs [(5, .i .i64), (6, .i .i64)] s) w

/-- behind the loop, left by x0 -/
noncomputable def g47x48_l3_x0 (u0 : Option Addr × Nat × Nat) (t17 : Int × Int) (w18 : World) : Option (Value × World) :=
(slc u0.1 u0.2.1 u0.2.2 1 (some t17.1) none none).bind fun q19 =>
(callB Try.prog .clear #[22] 0 #[false] #[.slice q19.1 q19.2.1 q19.2.2] w18).bind fun r20 =>
(asTup 0 r20.1).bind fun _ =>
(slc u0.1 u0.2.1 u0.2.2 1 none (some t17.1) none).bind fun q21 =>
some (.slice q21.1 q21.2.1 q21.2.2, r20.2)

noncomputable def g47x48 (u0 : Option Addr × Nat × Nat) (u1 : Addr) (w0 : World) : Option (Value × World) :=
(callF Try.prog 63 #[.slice u0.1 u0.2.1 u0.2.2, .func (.func 48) #[] #[.pointer (some u1)]] w0).bind fun r1 =>
(asI .i64 r1.1).bind fun n2 =>
if ((n2 : Int) == (-1)) = true then
(some (.slice u0.1 u0.2.1 u0.2.2, r1.2))
else
(g47x48_l3 u0 u1 (n2, (IntKind.i64.wrap (n2 + 1))) r1.2)

theorem g47x48_eq (u0 : Option Addr × Nat × Nat) (u1 : Addr) (w0 : World) : evFn Try.prog 47 g47x48_ann #[.slice u0.1 u0.2.1 u0.2.2, .func (.func 48) #[] #[.pointer (some u1)]] w0 = g47x48 u0 u1 w0 := by kernel_rfl

theorem g47x48_call {u0 : Option Addr × Nat × Nat} {u1 : Addr} {w0 : World} {r : Value × World} (h : g47x48 u0 u1 w0 = some r) : callF Try.prog 47 #[.slice u0.1 u0.2.1 u0.2.2, .func (.func 48) #[] #[.pointer (some u1)]] w0 = some r :=
  callF_of_evFn (ann := g47x48_ann) Try.call47 (by kernel_rfl) ((g47x48_eq u0 u1 w0).trans h)

theorem g47x48_l3_x0_of {u0 : Option Addr × Nat × Nat} {u1 : Addr} {s t : Int × Int} {w w' : World} (h : loopS (g47x48_l3_b u0 u1) s w = some (.exit 0, t, w')) : g47x48_l3 u0 u1 s w = g47x48_l3_x0 u0 t w' := by
  have h1 : g47x48_l3 u0 u1 s w = loopM Try.prog 42 47 g47x48_ann (cAt [1, 1, 1, 0, 1, 0, 0] (bodyOf Try.f47)) [0, 1, 0, 1, 1, 1] g47x48_K16 ((g47x48_l3_cs u0 u1) ++ sputs [(5, .i .i64), (6, .i .i64)] s) w := by kernel_rfl
  have h2 : loopM Try.prog 42 47 g47x48_ann (cAt [1, 1, 1, 0, 1, 0, 0] (bodyOf Try.f47)) [0, 1, 0, 1, 1, 1] g47x48_K16 ((g47x48_l3_cs u0 u1) ++ sputs [(5, .i .i64), (6, .i .i64)] s) w = g47x48_K16 (.exit 0) (puts 42 ((g47x48_l3_cs u0 u1) ++ sputs [(5, .i .i64), (6, .i .i64)] t)) w' :=
    loop_rule (P := Try.prog) (N := 42) (f := 47) (ann := g47x48_ann) (body := (cAt [1, 1, 1, 0, 1, 0, 0] (bodyOf Try.f47))) (pt := [0, 1, 0, 1, 1, 1]) (K := g47x48_K16) (g47x48_l3_cs u0 u1) [(5, .i .i64), (6, .i .i64)] (b := g47x48_l3_b u0 u1) (fun s w => by kernel_rfl) (by kernel_rfl) (by kernel_rfl) (by kernel_rfl) h
  have h3 : g47x48_K16 (.exit 0) (puts 42 ((g47x48_l3_cs u0 u1) ++ sputs [(5, .i .i64), (6, .i .i64)] t)) w' = g47x48_l3_x0 u0 t w' := by kernel_rfl
  exact h1.trans (h2.trans h3)

end Go.Proofs.Ytcakijeoeankfaa
