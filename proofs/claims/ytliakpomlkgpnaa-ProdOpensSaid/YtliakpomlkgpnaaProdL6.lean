/-
  ProdL6: lemmas on what Go functions of this seat come to (for whatever arguments, as each says). No condition but those that stand in each lemma.
-/
import Derived.Test.YtliakpomlkgpnaaProdF0
namespace Go.Proofs.Ytliakpomlkgpnaa
open Go Go.Ev
set_option maxRecDepth 100000
set_option linter.unusedVariables false
/-! 6: penstock/penstocklaw09.ProdOpens (l: []api.Batch) -/
def g6_ann : List (List Nat × List Nat) := [([0, 1, 0, 1, 1, 1, 1], [3, 4, 24, 25, 2, 5, 6, 26]), ([0, 1, 0, 1, 1, 1, 0, 0, 1, 1, 0, 0, 1, 0, 1, 1, 1, 1], [2, 3, 4, 5, 6, 8, 24, 25, 26, 9, 10])]

def g6_l8_cs (p5 : Option Addr) (q6 : Option Addr × Nat × Nat) : List (Nat × Value) := ([(3, .pointer p5), (4, .slice q6.1 q6.2.1 q6.2.2), (24, .slice q6.1 q6.2.1 q6.2.2), (25, .int .i64 (q6.2.1 : Int))] : List (Nat × Value))

def g6_l27_cs (s9 : Bool × Int × Bool × Int) (p5 : Option Addr) (q6 : Option Addr × Nat × Nat) (w10 : World) : List (Nat × Value) := ([(2, .bool s9.1), (3, .pointer p5), (4, .slice q6.1 q6.2.1 q6.2.2), (5, .int .i64 s9.2.1), (6, .bool s9.2.2.1), (8, .pointer (some (⟨w10.heap.size, 0, none⟩))), (24, .slice q6.1 q6.2.1 q6.2.2), (25, .int .i64 (q6.2.1 : Int)), (26, .int .i64 s9.2.2.2)] : List (Nat × Value))

/-- the round of a loop (penstock/penstocklaw09.ProdOpens) -/
noncomputable def g6_l27_b (q6 : Option Addr × Nat × Nat) (w10 : World) (s9 : Bool × Int × Bool × Int) (p5 : Option Addr) (s28 : Bool × Int) (w29 : World) : Option (Exit × (Bool × Int) × World) :=
if (decide ((s28.2 : Int) < (q6.2.1 : Int))) = true then
(if s28.1 = true then
(some (.normal, (true, (IntKind.i64.wrap (s28.2 + 1))), (World.drew w29)))
else
((idxA q6.1 q6.2.1 9 s28.2).bind fun a31 =>
(World.cell? (World.drew w29) (Addr.add a31 6)).bind fun v32 =>
(asB v32).bind fun b33 =>
if b33 = true then
((idxA q6.1 q6.2.1 9 s28.2).bind fun a34 =>
(World.cell? (World.drew w29) (Addr.add a34 2)).bind fun v35 =>
(asI .u64 v35).bind fun n36 =>
(World.cell? (World.drew w29) (Addr.add (⟨w10.heap.size, 0, none⟩) 2)).bind fun v37 =>
(asI .u64 v37).bind fun n38 =>
some (.normal, (((n36 : Int) == n38), (IntKind.i64.wrap (s28.2 + 1))), (World.drew w29)))
else
(some (.normal, (false, (IntKind.i64.wrap (s28.2 + 1))), (World.drew w29)))))
else
(some ((.exit 2), (s28.1, s28.2), w29))

noncomputable def g6_K39 (p5 : Option Addr) (q6 : Option Addr × Nat × Nat) : Exit → Env → World → Option (Exit × (Bool × Int × Bool × Int) × World) :=
  fun e ρ w => ((List.map (·.1) (g6_l8_cs p5 q6)).mapM ρ).bind fun _ => loopK [(2, .b), (5, .i .i64), (6, .b), (26, .i .i64)] e ρ w

noncomputable def g6_K40 (p5 : Option Addr) (q6 : Option Addr × Nat × Nat) : Exit → Env → World → Option (Exit × (Bool × Int × Bool × Int) × World) :=
  seqK (ev Try.prog 104 6 g6_ann (cAt [1, 1, 1, 1, 0, 1, 0, 0, 1, 1, 1] (bodyOf Try.f6)) [1, 1, 1, 0, 0, 1, 0, 1, 1, 1, 1] (g6_K39 p5 q6)) (g6_K39 p5 q6)

noncomputable def g6_K41 (p5 : Option Addr) (q6 : Option Addr × Nat × Nat) : Exit → Env → World → Option (Exit × (Bool × Int × Bool × Int) × World) :=
  blkK 1 (g6_K40 p5 q6)

noncomputable def g6_K42 (p5 : Option Addr) (q6 : Option Addr × Nat × Nat) : Exit → Env → World → Option (Exit × (Bool × Int × Bool × Int) × World) :=
  seqK (ev Try.prog 104 6 g6_ann (cAt [1, 1, 1, 1, 0, 1, 0, 0, 1, 1, 0, 0, 1, 1, 1, 1] (bodyOf Try.f6)) [1, 1, 1, 1, 0, 0, 1, 1, 0, 0, 1, 0, 1, 1, 1, 1] (g6_K41 p5 q6)) (g6_K41 p5 q6)

noncomputable def g6_K43 (p5 : Option Addr) (q6 : Option Addr × Nat × Nat) : Exit → Env → World → Option (Exit × (Bool × Int × Bool × Int) × World) :=
  blkK 2 (g6_K42 p5 q6)

/-- the loop, from a state on -/
noncomputable def g6_l27 (s9 : Bool × Int × Bool × Int) (p5 : Option Addr) (q6 : Option Addr × Nat × Nat) (w10 : World) (s : Bool × Int) (w : World) : Option (Exit × (Bool × Int × Bool × Int) × World) :=
  loopM Try.prog 104 6 g6_ann (cAt [1, 1, 1, 1, 0, 1, 0, 0, 1, 1, 0, 0, 1, 1, 1, 0, 1, 0, 0] (bodyOf Try.f6)) [0, 1, 0, 1, 1, 1, 0, 0, 1, 1, 0, 0, 1, 0, 1, 1, 1, 1] (g6_K43 p5 q6) ((g6_l27_cs s9 p5 q6 w10) ++ sputs [(9, .b), (10, .i .i64)] s) w

noncomputable def g6_j46 (w45 : World) (w10 : World) (p5 : Option Addr) (s9 : Bool × Int × Bool × Int) (x49 : Int) (x50 : Bool) : Option (Exit × (Bool × Int × Bool × Int) × World) :=
(World.cell? w45 (Addr.add (⟨w10.heap.size, 0, none⟩) 2)).bind fun v51 =>
(asI .u64 v51).bind fun n52 =>
(callF Try.prog 10 #[.pointer p5, .int .u64 n52] w45).bind fun r53 =>
(asTup 4 r53.1).bind fun l54 =>
(asI .i64 (l54.getD 0 undef)).bind fun n55 =>
(asI .i64 (l54.getD 1 undef)).bind fun n56 =>
(asI .i64 (l54.getD 2 undef)).bind fun n57 =>
(asB (l54.getD 3 undef)).bind fun b58 =>
if (!b58) = true then
(some (.ret, (false, x49, x50, s9.2.2.2), r53.2))
else
(if (decide ((n57 : Int) < 0)) = true then
(some (.ret, (false, x49, x50, s9.2.2.2), r53.2))
else
((World.cell? r53.2 (⟨w10.heap.size, 0, none⟩)).bind fun v59 =>
(asI .i64 v59).bind fun n60 =>
if (decide ((n57 : Int) > n60)) = true then
(some (.ret, (false, x49, x50, s9.2.2.2), r53.2))
else
(some (.normal, (s9.1, x49, x50, (IntKind.i64.wrap (s9.2.2.2 + 1))), r53.2))))

/-- behind the loop, left by x2 -/
noncomputable def g6_l27_x2 (s9 : Bool × Int × Bool × Int) (w10 : World) (p5 : Option Addr) (t44 : Bool × Int) (w45 : World) : Option (Exit × (Bool × Int × Bool × Int) × World) :=
if t44.1 = true then
(some (.normal, (s9.1, s9.2.1, s9.2.2.1, (IntKind.i64.wrap (s9.2.2.2 + 1))), w45))
else
(if (!s9.2.2.1) = true then
((World.cell? w45 (⟨w10.heap.size, 0, none⟩)).bind fun v47 =>
(asI .i64 v47).bind fun n48 =>
g6_j46 w45 w10 p5 s9 n48 true)
else
(g6_j46 w45 w10 p5 s9 s9.2.1 s9.2.2.1))

/-- the round of a loop (penstock/penstocklaw09.ProdOpens) -/
noncomputable def g6_l8_b (q6 : Option Addr × Nat × Nat) (p5 : Option Addr) (s9 : Bool × Int × Bool × Int) (w10 : World) : Option (Exit × (Bool × Int × Bool × Int) × World) :=
if (decide ((s9.2.2.2 : Int) < (q6.2.1 : Int))) = true then
((idxA q6.1 q6.2.1 9 s9.2.2.2).bind fun a11 =>
(ldN w10 a11 0 9).bind fun l12 =>
(asI .i64 (l12.getD 0 undef)).bind fun n13 =>
(asI .i64 (l12.getD 1 undef)).bind fun n14 =>
(asI .u64 (l12.getD 2 undef)).bind fun n15 =>
(asI .i64 (l12.getD 3 undef)).bind fun n16 =>
(asI .i64 (l12.getD 4 undef)).bind fun n17 =>
(asB (l12.getD 5 undef)).bind fun b18 =>
(asB (l12.getD 6 undef)).bind fun b19 =>
(asB (l12.getD 7 undef)).bind fun b20 =>
(asSl (l12.getD 8 undef)).bind fun q21 =>
(stL (World.alloc w10 (.cells #[.int .i64 0, .int .i64 0, .int .u64 0, .int .i64 0, .int .i64 0, .bool false, .bool false, .bool false, .slice none 0 0] 30)) (⟨w10.heap.size, 0, none⟩) [.int .i64 n13, .int .i64 n14, .int .u64 n15, .int .i64 n16, .int .i64 n17, .bool b18, .bool b19, .bool b20, .slice q21.1 q21.2.1 q21.2.2] 0).bind fun w22 =>
(World.cell? w22 (Addr.add (⟨w10.heap.size, 0, none⟩) 5)).bind fun v23 =>
(asB v23).bind fun b24 =>
if (!b24) = true then
(some (.normal, (s9.1, s9.2.1, s9.2.2.1, (IntKind.i64.wrap (s9.2.2.2 + 1))), w22))
else
((World.cell? w22 (Addr.add (⟨w10.heap.size, 0, none⟩) 6)).bind fun v25 =>
(asB v25).bind fun b26 =>
if b26 = true then
(some (.normal, (s9.1, s9.2.1, s9.2.2.1, (IntKind.i64.wrap (s9.2.2.2 + 1))), w22))
else
(g6_l27 s9 p5 q6 w10 (false, (IntKind.i64.wrap (s9.2.2.2 + 1))) w22)))
else
(some ((.exit 0), (s9.1, s9.2.1, s9.2.2.1, s9.2.2.2), w10))

noncomputable def g6_K61  : Exit → Env → World → Option (Value × World) :=
  retK Try.prog Try.f6.results.toList

noncomputable def g6_K62  : Exit → Env → World → Option (Value × World) :=
  seqK (ev Try.prog 104 6 g6_ann (cAt [1, 1, 1, 1, 1] (bodyOf Try.f6)) [1, 1, 1, 1, 1] g6_K61) g6_K61

noncomputable def g6_K63  : Exit → Env → World → Option (Value × World) :=
  blkK 0 g6_K62

/-- the loop, from a state on -/
noncomputable def g6_l8 (p5 : Option Addr) (q6 : Option Addr × Nat × Nat) (s : Bool × Int × Bool × Int) (w : World) : Option (Value × World) :=
  loopM Try.prog 104 6 g6_ann (cAt [1, 1, 1, 1, 0, 1, 0, 0] (bodyOf Try.f6)) [0, 1, 0, 1, 1, 1, 1] g6_K63 ((g6_l8_cs p5 q6) ++ sputs [(2, .b), (5, .i .i64), (6, .b), (26, .i .i64)] s) w

/-- behind the loop, left by x0 -/
noncomputable def g6_l8_x0 (p5 : Option Addr) (t64 : Bool × Int × Bool × Int) (w65 : World) : Option (Value × World) :=
(callF Try.prog 13 #[.pointer p5] w65).bind fun r66 =>
(asTup 2 r66.1).bind fun l67 =>
(asI .i64 (l67.getD 0 undef)).bind fun n68 =>
(asB (l67.getD 1 undef)).bind fun b69 =>
if (b69 == t64.2.2.1) = true then
(some (.bool ((n68 : Int) == t64.2.1), r66.2))
else
(some (.bool false, r66.2))

/-- behind the loop, left by ret -/
noncomputable def g6_l8_ret  (t70 : Bool × Int × Bool × Int) (w71 : World) : Option (Value × World) :=
some (.bool t70.1, w71)

noncomputable def g6 (u0 : Option Addr × Nat × Nat) (w0 : World) : Option (Value × World) :=
(callF Try.prog 8 #[] w0).bind fun r1 =>
(asB r1.1).bind fun b2 =>
if (!b2) = true then
(some (.bool false, r1.2))
else
((callF Try.prog 9 #[.slice u0.1 u0.2.1 u0.2.2] r1.2).bind fun r3 =>
(asTup 2 r3.1).bind fun l4 =>
(asP (l4.getD 0 undef)).bind fun p5 =>
(asSl (l4.getD 1 undef)).bind fun q6 =>
g6_l8 p5 q6 (false, 0, false, 0) r3.2)

theorem g6_eq (u0 : Option Addr × Nat × Nat) (w0 : World) : evFn Try.prog 6 g6_ann #[.slice u0.1 u0.2.1 u0.2.2] w0 = g6 u0 w0 := by kernel_rfl

theorem g6_call {u0 : Option Addr × Nat × Nat} {w0 : World} {r : Value × World} (h : g6 u0 w0 = some r) : callF Try.prog 6 #[.slice u0.1 u0.2.1 u0.2.2] w0 = some r :=
  callF_of_evFn (ann := g6_ann) Try.call6 (by kernel_rfl) ((g6_eq u0 w0).trans h)

theorem g6_l27_x2_of {s9 : Bool × Int × Bool × Int} {p5 : Option Addr} {q6 : Option Addr × Nat × Nat} {w10 : World} {s t : Bool × Int} {w w' : World} (h : loopS (g6_l27_b q6 w10 s9 p5) s w = some (.exit 2, t, w')) : g6_l27 s9 p5 q6 w10 s w = g6_l27_x2 s9 w10 p5 t w' := by
  have h1 : g6_l27 s9 p5 q6 w10 s w = loopM Try.prog 104 6 g6_ann (cAt [1, 1, 1, 1, 0, 1, 0, 0, 1, 1, 0, 0, 1, 1, 1, 0, 1, 0, 0] (bodyOf Try.f6)) [0, 1, 0, 1, 1, 1, 0, 0, 1, 1, 0, 0, 1, 0, 1, 1, 1, 1] (g6_K43 p5 q6) ((g6_l27_cs s9 p5 q6 w10) ++ sputs [(9, .b), (10, .i .i64)] s) w := by kernel_rfl
  have h2 : loopM Try.prog 104 6 g6_ann (cAt [1, 1, 1, 1, 0, 1, 0, 0, 1, 1, 0, 0, 1, 1, 1, 0, 1, 0, 0] (bodyOf Try.f6)) [0, 1, 0, 1, 1, 1, 0, 0, 1, 1, 0, 0, 1, 0, 1, 1, 1, 1] (g6_K43 p5 q6) ((g6_l27_cs s9 p5 q6 w10) ++ sputs [(9, .b), (10, .i .i64)] s) w = (g6_K43 p5 q6) (.exit 2) (puts 104 ((g6_l27_cs s9 p5 q6 w10) ++ sputs [(9, .b), (10, .i .i64)] t)) w' :=
    loop_rule (P := Try.prog) (N := 104) (f := 6) (ann := g6_ann) (body := (cAt [1, 1, 1, 1, 0, 1, 0, 0, 1, 1, 0, 0, 1, 1, 1, 0, 1, 0, 0] (bodyOf Try.f6))) (pt := [0, 1, 0, 1, 1, 1, 0, 0, 1, 1, 0, 0, 1, 0, 1, 1, 1, 1]) (K := (g6_K43 p5 q6)) (g6_l27_cs s9 p5 q6 w10) [(9, .b), (10, .i .i64)] (b := g6_l27_b q6 w10 s9 p5) (fun s w => by kernel_rfl) (by kernel_rfl) (by kernel_rfl) (by kernel_rfl) h
  have h3 : (g6_K43 p5 q6) (.exit 2) (puts 104 ((g6_l27_cs s9 p5 q6 w10) ++ sputs [(9, .b), (10, .i .i64)] t)) w' = g6_l27_x2 s9 w10 p5 t w' := by kernel_rfl
  exact h1.trans (h2.trans h3)

theorem g6_l8_x0_of {p5 : Option Addr} {q6 : Option Addr × Nat × Nat} {s t : Bool × Int × Bool × Int} {w w' : World} (h : loopS (g6_l8_b q6 p5) s w = some (.exit 0, t, w')) : g6_l8 p5 q6 s w = g6_l8_x0 p5 t w' := by
  have h1 : g6_l8 p5 q6 s w = loopM Try.prog 104 6 g6_ann (cAt [1, 1, 1, 1, 0, 1, 0, 0] (bodyOf Try.f6)) [0, 1, 0, 1, 1, 1, 1] g6_K63 ((g6_l8_cs p5 q6) ++ sputs [(2, .b), (5, .i .i64), (6, .b), (26, .i .i64)] s) w := by kernel_rfl
  have h2 : loopM Try.prog 104 6 g6_ann (cAt [1, 1, 1, 1, 0, 1, 0, 0] (bodyOf Try.f6)) [0, 1, 0, 1, 1, 1, 1] g6_K63 ((g6_l8_cs p5 q6) ++ sputs [(2, .b), (5, .i .i64), (6, .b), (26, .i .i64)] s) w = g6_K63 (.exit 0) (puts 104 ((g6_l8_cs p5 q6) ++ sputs [(2, .b), (5, .i .i64), (6, .b), (26, .i .i64)] t)) w' :=
    loop_rule (P := Try.prog) (N := 104) (f := 6) (ann := g6_ann) (body := (cAt [1, 1, 1, 1, 0, 1, 0, 0] (bodyOf Try.f6))) (pt := [0, 1, 0, 1, 1, 1, 1]) (K := g6_K63) (g6_l8_cs p5 q6) [(2, .b), (5, .i .i64), (6, .b), (26, .i .i64)] (b := g6_l8_b q6 p5) (fun s w => by kernel_rfl) (by kernel_rfl) (by kernel_rfl) (by kernel_rfl) h
  have h3 : g6_K63 (.exit 0) (puts 104 ((g6_l8_cs p5 q6) ++ sputs [(2, .b), (5, .i .i64), (6, .b), (26, .i .i64)] t)) w' = g6_l8_x0 p5 t w' := by kernel_rfl
  exact h1.trans (h2.trans h3)

theorem g6_l8_ret_of {p5 : Option Addr} {q6 : Option Addr × Nat × Nat} {s t : Bool × Int × Bool × Int} {w w' : World} (h : loopS (g6_l8_b q6 p5) s w = some (.ret, t, w')) : g6_l8 p5 q6 s w = g6_l8_ret t w' := by
  have h1 : g6_l8 p5 q6 s w = loopM Try.prog 104 6 g6_ann (cAt [1, 1, 1, 1, 0, 1, 0, 0] (bodyOf Try.f6)) [0, 1, 0, 1, 1, 1, 1] g6_K63 ((g6_l8_cs p5 q6) ++ sputs [(2, .b), (5, .i .i64), (6, .b), (26, .i .i64)] s) w := by kernel_rfl
  have h2 : loopM Try.prog 104 6 g6_ann (cAt [1, 1, 1, 1, 0, 1, 0, 0] (bodyOf Try.f6)) [0, 1, 0, 1, 1, 1, 1] g6_K63 ((g6_l8_cs p5 q6) ++ sputs [(2, .b), (5, .i .i64), (6, .b), (26, .i .i64)] s) w = g6_K63 (.ret) (puts 104 ((g6_l8_cs p5 q6) ++ sputs [(2, .b), (5, .i .i64), (6, .b), (26, .i .i64)] t)) w' :=
    loop_rule (P := Try.prog) (N := 104) (f := 6) (ann := g6_ann) (body := (cAt [1, 1, 1, 1, 0, 1, 0, 0] (bodyOf Try.f6))) (pt := [0, 1, 0, 1, 1, 1, 1]) (K := g6_K63) (g6_l8_cs p5 q6) [(2, .b), (5, .i .i64), (6, .b), (26, .i .i64)] (b := g6_l8_b q6 p5) (fun s w => by kernel_rfl) (by kernel_rfl) (by kernel_rfl) (by kernel_rfl) h
  have h3 : g6_K63 (.ret) (puts 104 ((g6_l8_cs p5 q6) ++ sputs [(2, .b), (5, .i .i64), (6, .b), (26, .i .i64)] t)) w' = g6_l8_ret t w' := by kernel_rfl
  exact h1.trans (h2.trans h3)

end Go.Proofs.Ytliakpomlkgpnaa
