/-
  ProdL3: lemmas on what Go functions of this seat come to (for whatever arguments, as each says). No condition but those that stand in each lemma.
-/
import Derived.Test.YtliakpomlkgpnaaProdF0
namespace Go.Proofs.Ytliakpomlkgpnaa
open Go Go.Ev
set_option maxRecDepth 100000
set_option linter.unusedVariables false
/-! 3: penstock/penstocklaw09.ProdOnce (l: []api.Batch) -/
def g3_ann : List (List Nat × List Nat) := [([0, 1, 0, 1, 1, 1], [4, 17, 18, 2, 19]), ([0, 1, 0, 1, 1, 1, 0, 0, 1, 1, 0, 0, 1, 0, 1, 1, 1], [4, 5, 6, 17, 18, 19, 2, 7, 8])]

def g3_l8_cs (q6 : Option Addr × Nat × Nat) : List (Nat × Value) := ([(4, .slice q6.1 q6.2.1 q6.2.2), (17, .slice q6.1 q6.2.1 q6.2.2), (18, .int .i64 (q6.2.1 : Int))] : List (Nat × Value))

def g3_l25_cs (q6 : Option Addr × Nat × Nat) (s9 : Bool × Int) (w10 : World) : List (Nat × Value) := ([(4, .slice q6.1 q6.2.1 q6.2.2), (5, .int .i64 s9.2), (6, .pointer (some (⟨w10.heap.size, 0, none⟩))), (17, .slice q6.1 q6.2.1 q6.2.2), (18, .int .i64 (q6.2.1 : Int)), (19, .int .i64 s9.2)] : List (Nat × Value))

/-- the round of a loop (penstock/penstocklaw09.ProdOnce) -/
noncomputable def g3_l25_b (s9 : Bool × Int) (q6 : Option Addr × Nat × Nat) (w10 : World) (s26 : Bool × Int × Int) (w27 : World) : Option (Exit × (Bool × Int × Int) × World) :=
if (decide ((s26.2.2 : Int) < s9.2)) = true then
((idxA q6.1 q6.2.1 9 s26.2.2).bind fun a28 =>
(ldN w27 a28 0 9).bind fun l29 =>
(asI .i64 (l29.getD 0 undef)).bind fun n30 =>
(asI .i64 (l29.getD 1 undef)).bind fun n31 =>
(asI .u64 (l29.getD 2 undef)).bind fun n32 =>
(asI .i64 (l29.getD 3 undef)).bind fun n33 =>
(asI .i64 (l29.getD 4 undef)).bind fun n34 =>
(asB (l29.getD 5 undef)).bind fun b35 =>
(asB (l29.getD 6 undef)).bind fun b36 =>
(asB (l29.getD 7 undef)).bind fun b37 =>
(asSl (l29.getD 8 undef)).bind fun q38 =>
(stL (World.alloc w27 (.cells #[.int .i64 0, .int .i64 0, .int .u64 0, .int .i64 0, .int .i64 0, .bool false, .bool false, .bool false, .slice none 0 0] 30)) (⟨w27.heap.size, 0, none⟩) [.int .i64 n30, .int .i64 n31, .int .u64 n32, .int .i64 n33, .int .i64 n34, .bool b35, .bool b36, .bool b37, .slice q38.1 q38.2.1 q38.2.2] 0).bind fun w39 =>
(World.cell? w39 (Addr.add (⟨w27.heap.size, 0, none⟩) 2)).bind fun v40 =>
(asI .u64 v40).bind fun n41 =>
(World.cell? w39 (Addr.add (⟨w10.heap.size, 0, none⟩) 2)).bind fun v42 =>
(asI .u64 v42).bind fun n43 =>
if ((n41 : Int) != n43) = true then
(some (.normal, (s26.1, s26.2.1, (IntKind.i64.wrap (s26.2.2 + 1))), w39))
else
((World.cell? w39 (Addr.add (⟨w27.heap.size, 0, none⟩) 3)).bind fun v44 =>
(asI .i64 v44).bind fun n45 =>
(World.cell? w39 (Addr.add (⟨w10.heap.size, 0, none⟩) 3)).bind fun v46 =>
(asI .i64 v46).bind fun n47 =>
if (decide ((n45 : Int) > n47)) = true then
(some (.ret, (false, s26.2.1, s26.2.2), w39))
else
((World.cell? w39 (Addr.add (⟨w27.heap.size, 0, none⟩) 3)).bind fun v48 =>
(asI .i64 v48).bind fun n49 =>
(World.cell? w39 (Addr.add (⟨w10.heap.size, 0, none⟩) 3)).bind fun v50 =>
(asI .i64 v50).bind fun n51 =>
if ((n49 : Int) == n51) = true then
((World.cell? w39 (Addr.add (⟨w27.heap.size, 0, none⟩) 6)).bind fun v52 =>
(asB v52).bind fun b53 =>
if (!b53) = true then
((World.cell? w39 (Addr.add (⟨w27.heap.size, 0, none⟩) 4)).bind fun v54 =>
(asI .i64 v54).bind fun n55 =>
(World.cell? w39 (Addr.add (⟨w27.heap.size, 0, none⟩) 8)).bind fun v56 =>
(asSl v56).bind fun q57 =>
some (.normal, (s26.1, (IntKind.i64.wrap (n55 + (q57.2.1 : Int))), (IntKind.i64.wrap (s26.2.2 + 1))), w39))
else
(some (.normal, (s26.1, s26.2.1, (IntKind.i64.wrap (s26.2.2 + 1))), w39)))
else
(some (.normal, (s26.1, s26.2.1, (IntKind.i64.wrap (s26.2.2 + 1))), w39)))))
else
(some ((.exit 2), (s26.1, s26.2.1, s26.2.2), w27))

noncomputable def g3_K59 (q6 : Option Addr × Nat × Nat) : Exit → Env → World → Option (Exit × (Bool × Int) × World) :=
  fun e ρ w => ((List.map (·.1) (g3_l8_cs q6)).mapM ρ).bind fun _ => loopK [(2, .b), (19, .i .i64)] e ρ w

noncomputable def g3_K60 (q6 : Option Addr × Nat × Nat) : Exit → Env → World → Option (Exit × (Bool × Int) × World) :=
  seqK (ev Try.prog 72 3 g3_ann (cAt [1, 1, 1, 0, 1, 0, 0, 1, 1, 1] (bodyOf Try.f3)) [1, 1, 1, 0, 0, 1, 0, 1, 1, 1] (g3_K59 q6)) (g3_K59 q6)

noncomputable def g3_K61 (q6 : Option Addr × Nat × Nat) : Exit → Env → World → Option (Exit × (Bool × Int) × World) :=
  blkK 1 (g3_K60 q6)

noncomputable def g3_K62 (q6 : Option Addr × Nat × Nat) : Exit → Env → World → Option (Exit × (Bool × Int) × World) :=
  seqK (ev Try.prog 72 3 g3_ann (cAt [1, 1, 1, 0, 1, 0, 0, 1, 1, 0, 0, 1, 1, 1, 1] (bodyOf Try.f3)) [1, 1, 1, 1, 0, 0, 1, 1, 0, 0, 1, 0, 1, 1, 1] (g3_K61 q6)) (g3_K61 q6)

noncomputable def g3_K63 (q6 : Option Addr × Nat × Nat) : Exit → Env → World → Option (Exit × (Bool × Int) × World) :=
  blkK 2 (g3_K62 q6)

/-- the loop, from a state on -/
noncomputable def g3_l25 (q6 : Option Addr × Nat × Nat) (s9 : Bool × Int) (w10 : World) (s : Bool × Int × Int) (w : World) : Option (Exit × (Bool × Int) × World) :=
  loopM Try.prog 72 3 g3_ann (cAt [1, 1, 1, 0, 1, 0, 0, 1, 1, 0, 0, 1, 1, 1, 0, 1, 0, 0] (bodyOf Try.f3)) [0, 1, 0, 1, 1, 1, 0, 0, 1, 1, 0, 0, 1, 0, 1, 1, 1] (g3_K63 q6) ((g3_l25_cs q6 s9 w10) ++ sputs [(2, .b), (7, .i .i64), (8, .i .i64)] s) w

/-- behind the loop, left by x2 -/
noncomputable def g3_l25_x2 (w10 : World) (s9 : Bool × Int) (t64 : Bool × Int × Int) (w65 : World) : Option (Exit × (Bool × Int) × World) :=
(World.cell? w65 (Addr.add (⟨w10.heap.size, 0, none⟩) 6)).bind fun v66 =>
(asB v66).bind fun b67 =>
if (!b67) = true then
((World.cell? w65 (Addr.add (⟨w10.heap.size, 0, none⟩) 4)).bind fun v68 =>
(asI .i64 v68).bind fun n69 =>
if ((n69 : Int) != t64.2.1) = true then
(some (.ret, (false, s9.2), w65))
else
(some (.normal, (t64.1, (IntKind.i64.wrap (s9.2 + 1))), w65)))
else
(some (.normal, (t64.1, (IntKind.i64.wrap (s9.2 + 1))), w65))

/-- behind the loop, left by ret -/
noncomputable def g3_l25_ret (s9 : Bool × Int) (t70 : Bool × Int × Int) (w71 : World) : Option (Exit × (Bool × Int) × World) :=
some (.ret, (t70.1, s9.2), w71)

/-- the round of a loop (penstock/penstocklaw09.ProdOnce) -/
noncomputable def g3_l8_b (q6 : Option Addr × Nat × Nat) (s9 : Bool × Int) (w10 : World) : Option (Exit × (Bool × Int) × World) :=
if (decide ((s9.2 : Int) < (q6.2.1 : Int))) = true then
((idxA q6.1 q6.2.1 9 s9.2).bind fun a11 =>
(ldN w10 a11 0 9).bind fun l12 =>
(asI .i64 (l12.getD 0 undef)).bind fun n13 =>
(asI .i64 (l12.getD 1 undef)).bind fun n14 =>
(asI .u64 (l12.getD 2 undef)).bind fun n15 =>
(asI .i64 (l12.getD 3 undef)).bind fun n16 =>
(asI .i64 (l12.getD 4 undef)).bind fun n17 =>
(asB (l12.getD 5 undef)).bind fun b18 =>
(asB (l12.getD 6 undef)).bind fun b19 =>
(asB (l12.getD 7 undef)).bind fun b20 =>
(asSl (l12.getD 8 undef)).bind fun q21 =>
(stL (World.alloc w10 (.cells #[.int .i64 0, .int .i64 0, .int .u64 0, .int .i64 0, .int .i64 0, .bool false, .bool false, .bool false, .slice none 0 0] 30)) (⟨w10.heap.size, 0, none⟩) [.int .i64 n13, .int .i64 n14, .int .u64 n15, .int .i64 n16, .int .i64 n17, .bool b18, .bool b19, .bool b20, .slice q21.1 q21.2.1 q21.2.2] 0).bind fun w22 =>
(World.cell? w22 (Addr.add (⟨w10.heap.size, 0, none⟩) 2)).bind fun v23 =>
(asI .u64 v23).bind fun n24 =>
if ((n24 : Int) == 0) = true then
(some (.normal, (s9.1, (IntKind.i64.wrap (s9.2 + 1))), w22))
else
(g3_l25 q6 s9 w10 (s9.1, 0, 0) w22))
else
(some ((.exit 0), (s9.1, s9.2), w10))

noncomputable def g3_K72  : Exit → Env → World → Option (Value × World) :=
  retK Try.prog Try.f3.results.toList

noncomputable def g3_K73  : Exit → Env → World → Option (Value × World) :=
  seqK (ev Try.prog 72 3 g3_ann (cAt [1, 1, 1, 1] (bodyOf Try.f3)) [1, 1, 1, 1] g3_K72) g3_K72

noncomputable def g3_K74  : Exit → Env → World → Option (Value × World) :=
  blkK 0 g3_K73

/-- the loop, from a state on -/
noncomputable def g3_l8 (q6 : Option Addr × Nat × Nat) (s : Bool × Int) (w : World) : Option (Value × World) :=
  loopM Try.prog 72 3 g3_ann (cAt [1, 1, 1, 0, 1, 0, 0] (bodyOf Try.f3)) [0, 1, 0, 1, 1, 1] g3_K74 ((g3_l8_cs q6) ++ sputs [(2, .b), (19, .i .i64)] s) w

/-- behind the loop, left by x0 -/
noncomputable def g3_l8_x0  (t75 : Bool × Int) (w76 : World) : Option (Value × World) :=
some (.bool true, w76)

/-- behind the loop, left by ret -/
noncomputable def g3_l8_ret  (t77 : Bool × Int) (w78 : World) : Option (Value × World) :=
some (.bool t77.1, w78)

noncomputable def g3 (u0 : Option Addr × Nat × Nat) (w0 : World) : Option (Value × World) :=
(callF Try.prog 8 #[] w0).bind fun r1 =>
(asB r1.1).bind fun b2 =>
if (!b2) = true then
(some (.bool false, r1.2))
else
((callF Try.prog 9 #[.slice u0.1 u0.2.1 u0.2.2] r1.2).bind fun r3 =>
(asTup 2 r3.1).bind fun l4 =>
(asP (l4.getD 0 undef)).bind fun p5 =>
(asSl (l4.getD 1 undef)).bind fun q6 =>
g3_l8 q6 (false, 0) r3.2)

theorem g3_eq (u0 : Option Addr × Nat × Nat) (w0 : World) : evFn Try.prog 3 g3_ann #[.slice u0.1 u0.2.1 u0.2.2] w0 = g3 u0 w0 := by kernel_rfl

theorem g3_call {u0 : Option Addr × Nat × Nat} {w0 : World} {r : Value × World} (h : g3 u0 w0 = some r) : callF Try.prog 3 #[.slice u0.1 u0.2.1 u0.2.2] w0 = some r :=
  callF_of_evFn (ann := g3_ann) Try.call3 (by kernel_rfl) ((g3_eq u0 w0).trans h)

theorem g3_l25_x2_of {q6 : Option Addr × Nat × Nat} {s9 : Bool × Int} {w10 : World} {s t : Bool × Int × Int} {w w' : World} (h : loopS (g3_l25_b s9 q6 w10) s w = some (.exit 2, t, w')) : g3_l25 q6 s9 w10 s w = g3_l25_x2 w10 s9 t w' := by
  have h1 : g3_l25 q6 s9 w10 s w = loopM Try.prog 72 3 g3_ann (cAt [1, 1, 1, 0, 1, 0, 0, 1, 1, 0, 0, 1, 1, 1, 0, 1, 0, 0] (bodyOf Try.f3)) [0, 1, 0, 1, 1, 1, 0, 0, 1, 1, 0, 0, 1, 0, 1, 1, 1] (g3_K63 q6) ((g3_l25_cs q6 s9 w10) ++ sputs [(2, .b), (7, .i .i64), (8, .i .i64)] s) w := by kernel_rfl
  have h2 : loopM Try.prog 72 3 g3_ann (cAt [1, 1, 1, 0, 1, 0, 0, 1, 1, 0, 0, 1, 1, 1, 0, 1, 0, 0] (bodyOf Try.f3)) [0, 1, 0, 1, 1, 1, 0, 0, 1, 1, 0, 0, 1, 0, 1, 1, 1] (g3_K63 q6) ((g3_l25_cs q6 s9 w10) ++ sputs [(2, .b), (7, .i .i64), (8, .i .i64)] s) w = (g3_K63 q6) (.exit 2) (puts 72 ((g3_l25_cs q6 s9 w10) ++ sputs [(2, .b), (7, .i .i64), (8, .i .i64)] t)) w' :=
    loop_rule (P := Try.prog) (N := 72) (f := 3) (ann := g3_ann) (body := (cAt [1, 1, 1, 0, 1, 0, 0, 1, 1, 0, 0, 1, 1, 1, 0, 1, 0, 0] (bodyOf Try.f3))) (pt := [0, 1, 0, 1, 1, 1, 0, 0, 1, 1, 0, 0, 1, 0, 1, 1, 1]) (K := (g3_K63 q6)) (g3_l25_cs q6 s9 w10) [(2, .b), (7, .i .i64), (8, .i .i64)] (b := g3_l25_b s9 q6 w10) (fun s w => by kernel_rfl) (by kernel_rfl) (by kernel_rfl) (by kernel_rfl) h
  have h3 : (g3_K63 q6) (.exit 2) (puts 72 ((g3_l25_cs q6 s9 w10) ++ sputs [(2, .b), (7, .i .i64), (8, .i .i64)] t)) w' = g3_l25_x2 w10 s9 t w' := by kernel_rfl
  exact h1.trans (h2.trans h3)

theorem g3_l25_ret_of {q6 : Option Addr × Nat × Nat} {s9 : Bool × Int} {w10 : World} {s t : Bool × Int × Int} {w w' : World} (h : loopS (g3_l25_b s9 q6 w10) s w = some (.ret, t, w')) : g3_l25 q6 s9 w10 s w = g3_l25_ret s9 t w' := by
  have h1 : g3_l25 q6 s9 w10 s w = loopM Try.prog 72 3 g3_ann (cAt [1, 1, 1, 0, 1, 0, 0, 1, 1, 0, 0, 1, 1, 1, 0, 1, 0, 0] (bodyOf Try.f3)) [0, 1, 0, 1, 1, 1, 0, 0, 1, 1, 0, 0, 1, 0, 1, 1, 1] (g3_K63 q6) ((g3_l25_cs q6 s9 w10) ++ sputs [(2, .b), (7, .i .i64), (8, .i .i64)] s) w := by kernel_rfl
  have h2 : loopM Try.prog 72 3 g3_ann (cAt [1, 1, 1, 0, 1, 0, 0, 1, 1, 0, 0, 1, 1, 1, 0, 1, 0, 0] (bodyOf Try.f3)) [0, 1, 0, 1, 1, 1, 0, 0, 1, 1, 0, 0, 1, 0, 1, 1, 1] (g3_K63 q6) ((g3_l25_cs q6 s9 w10) ++ sputs [(2, .b), (7, .i .i64), (8, .i .i64)] s) w = (g3_K63 q6) (.ret) (puts 72 ((g3_l25_cs q6 s9 w10) ++ sputs [(2, .b), (7, .i .i64), (8, .i .i64)] t)) w' :=
    loop_rule (P := Try.prog) (N := 72) (f := 3) (ann := g3_ann) (body := (cAt [1, 1, 1, 0, 1, 0, 0, 1, 1, 0, 0, 1, 1, 1, 0, 1, 0, 0] (bodyOf Try.f3))) (pt := [0, 1, 0, 1, 1, 1, 0, 0, 1, 1, 0, 0, 1, 0, 1, 1, 1]) (K := (g3_K63 q6)) (g3_l25_cs q6 s9 w10) [(2, .b), (7, .i .i64), (8, .i .i64)] (b := g3_l25_b s9 q6 w10) (fun s w => by kernel_rfl) (by kernel_rfl) (by kernel_rfl) (by kernel_rfl) h
  have h3 : (g3_K63 q6) (.ret) (puts 72 ((g3_l25_cs q6 s9 w10) ++ sputs [(2, .b), (7, .i .i64), (8, .i .i64)] t)) w' = g3_l25_ret s9 t w' := by kernel_rfl
  exact h1.trans (h2.trans h3)

theorem g3_l8_x0_of {q6 : Option Addr × Nat × Nat} {s t : Bool × Int} {w w' : World} (h : loopS (g3_l8_b q6) s w = some (.exit 0, t, w')) : g3_l8 q6 s w = g3_l8_x0 t w' := by
  have h1 : g3_l8 q6 s w = loopM Try.prog 72 3 g3_ann (cAt [1, 1, 1, 0, 1, 0, 0] (bodyOf Try.f3)) [0, 1, 0, 1, 1, 1] g3_K74 ((g3_l8_cs q6) ++ sputs [(2, .b), (19, .i .i64)] s) w := by kernel_rfl
  have h2 : loopM Try.prog 72 3 g3_ann (cAt [1, 1, 1, 0, 1, 0, 0] (bodyOf Try.f3)) [0, 1, 0, 1, 1, 1] g3_K74 ((g3_l8_cs q6) ++ sputs [(2, .b), (19, .i .i64)] s) w = g3_K74 (.exit 0) (puts 72 ((g3_l8_cs q6) ++ sputs [(2, .b), (19, .i .i64)] t)) w' :=
    loop_rule (P := Try.prog) (N := 72) (f := 3) (ann := g3_ann) (body := (cAt [1, 1, 1, 0, 1, 0, 0] (bodyOf Try.f3))) (pt := [0, 1, 0, 1, 1, 1]) (K := g3_K74) (g3_l8_cs q6) [(2, .b), (19, .i .i64)] (b := g3_l8_b q6) (fun s w => by kernel_rfl) (by kernel_rfl) (by kernel_rfl) (by kernel_rfl) h
  have h3 : g3_K74 (.exit 0) (puts 72 ((g3_l8_cs q6) ++ sputs [(2, .b), (19, .i .i64)] t)) w' = g3_l8_x0 t w' := by kernel_rfl
  exact h1.trans (h2.trans h3)

theorem g3_l8_ret_of {q6 : Option Addr × Nat × Nat} {s t : Bool × Int} {w w' : World} (h : loopS (g3_l8_b q6) s w = some (.ret, t, w')) : g3_l8 q6 s w = g3_l8_ret t w' := by
  have h1 : g3_l8 q6 s w = loopM Try.prog 72 3 g3_ann (cAt [1, 1, 1, 0, 1, 0, 0] (bodyOf Try.f3)) [0, 1, 0, 1, 1, 1] g3_K74 ((g3_l8_cs q6) ++ sputs [(2, .b), (19, .i .i64)] s) w := by kernel_rfl
  have h2 : loopM Try.prog 72 3 g3_ann (cAt [1, 1, 1, 0, 1, 0, 0] (bodyOf Try.f3)) [0, 1, 0, 1, 1, 1] g3_K74 ((g3_l8_cs q6) ++ sputs [(2, .b), (19, .i .i64)] s) w = g3_K74 (.ret) (puts 72 ((g3_l8_cs q6) ++ sputs [(2, .b), (19, .i .i64)] t)) w' :=
    loop_rule (P := Try.prog) (N := 72) (f := 3) (ann := g3_ann) (body := (cAt [1, 1, 1, 0, 1, 0, 0] (bodyOf Try.f3))) (pt := [0, 1, 0, 1, 1, 1]) (K := g3_K74) (g3_l8_cs q6) [(2, .b), (19, .i .i64)] (b := g3_l8_b q6) (fun s w => by kernel_rfl) (by kernel_rfl) (by kernel_rfl) (by kernel_rfl) h
  have h3 : g3_K74 (.ret) (puts 72 ((g3_l8_cs q6) ++ sputs [(2, .b), (19, .i .i64)] t)) w' = g3_l8_ret t w' := by kernel_rfl
  exact h1.trans (h2.trans h3)

end Go.Proofs.Ytliakpomlkgpnaa
