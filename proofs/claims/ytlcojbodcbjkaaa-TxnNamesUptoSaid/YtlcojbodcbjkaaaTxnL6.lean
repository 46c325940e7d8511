/-
  TxnL6: lemmas on what Go functions of this seat come to (for whatever arguments, as each says). No condition but those that stand in each lemma.
-/
import Derived.Test.YtlcojbodcbjkaaaTxnF0
namespace Go.Proofs.Ytlcojbodcbjkaaa
open Go Go.Ev
set_option maxRecDepth 100000
set_option linter.unusedVariables false
/-! 6: penstock/penstocklaw15.TxnNames (l: []api.TxRec) -/
def g6_ann : List (List Nat × List Nat) := [([0, 1, 0, 1, 1, 1], [0, 2, 3, 21, 22, 23]), ([0, 1, 0, 1, 1, 1, 1, 1], [0, 6, 34, 35, 2, 36]), ([0, 1, 0, 1, 1, 1, 1, 1, 1], [6, 59, 60, 2, 61]), ([0, 1, 0, 1, 1, 0, 0, 1, 1, 0, 0, 1, 0, 1, 1, 1, 1, 1, 1], [2, 6, 10, 59, 60, 61, 65, 66, 11, 67])]

def g6_l6_cs (u0 : Option Addr × Nat × Nat) (p2 : Option Addr) : List (Nat × Value) := ([(0, .slice u0.1 u0.2.1 u0.2.2), (2, .bool false), (3, .pointer p2), (21, .slice u0.1 u0.2.1 u0.2.2), (22, .int .i64 (u0.2.1 : Int))] : List (Nat × Value))

/-- the round of a loop (penstock/penstocklaw15.TxnNames) -/
noncomputable def g6_l6_b (u0 : Option Addr × Nat × Nat) (p2 : Option Addr) (s7 : Int) (w8 : World) : Option (Exit × (Int) × World) :=
if (decide ((s7 : Int) < (u0.2.1 : Int))) = true then
((idxA u0.1 u0.2.1 7 s7).bind fun a9 =>
(ldN w8 a9 0 7).bind fun l10 =>
(asI .i64 (l10.getD 0 undef)).bind fun n11 =>
(asI .i64 (l10.getD 1 undef)).bind fun n12 =>
(asI .i64 (l10.getD 2 undef)).bind fun n13 =>
(asI .u64 (l10.getD 3 undef)).bind fun n14 =>
(asI .i64 (l10.getD 4 undef)).bind fun n15 =>
(asSl (l10.getD 5 undef)).bind fun q16 =>
(asB (l10.getD 6 undef)).bind fun b17 =>
(stL (World.alloc w8 (.cells #[.int .i64 0, .int .i64 0, .int .i64 0, .int .u64 0, .int .i64 0, .slice none 0 0, .bool false] 30)) (⟨w8.heap.size, 0, none⟩) [.int .i64 n11, .int .i64 n12, .int .i64 n13, .int .u64 n14, .int .i64 n15, .slice q16.1 q16.2.1 q16.2.2, .bool b17] 0).bind fun w18 =>
(ldN w18 (⟨w8.heap.size, 0, none⟩) 0 7).bind fun l19 =>
(asI .i64 (l19.getD 0 undef)).bind fun n20 =>
(asI .i64 (l19.getD 1 undef)).bind fun n21 =>
(asI .i64 (l19.getD 2 undef)).bind fun n22 =>
(asI .u64 (l19.getD 3 undef)).bind fun n23 =>
(asI .i64 (l19.getD 4 undef)).bind fun n24 =>
(asSl (l19.getD 5 undef)).bind fun q25 =>
(asB (l19.getD 6 undef)).bind fun b26 =>
(callF Try.prog 12 #[.agg #[.int .i64 n20, .int .i64 n21, .int .i64 n22, .int .u64 n23, .int .i64 n24, .slice q25.1 q25.2.1 q25.2.2, .bool b26]] w18).bind fun r27 =>
(Ev.asAgg 7 r27.1).bind fun l28 =>
(asI .i64 (l28.getD 0 undef)).bind fun n29 =>
(asI .i64 (l28.getD 1 undef)).bind fun n30 =>
(asI .i64 (l28.getD 2 undef)).bind fun n31 =>
(asI .u64 (l28.getD 3 undef)).bind fun n32 =>
(asI .i64 (l28.getD 4 undef)).bind fun n33 =>
(asSl (l28.getD 5 undef)).bind fun q34 =>
(asB (l28.getD 6 undef)).bind fun b35 =>
(callF Try.prog 13 #[.pointer p2, .agg #[.int .i64 n29, .int .i64 n30, .int .i64 n31, .int .u64 n32, .int .i64 n33, .slice q34.1 q34.2.1 q34.2.2, .bool b35]] r27.2).bind fun r36 =>
(asTup 0 r36.1).bind fun _ =>
some (.normal, (IntKind.i64.wrap (s7 + 1)), r36.2))
else
(some ((.exit 0), s7, w8))

noncomputable def g6_K37  : Exit → Env → World → Option (Value × World) :=
  retK Try.prog Try.f6.results.toList

noncomputable def g6_K38  : Exit → Env → World → Option (Value × World) :=
  seqK (ev Try.prog 82 6 g6_ann (cAt [1, 1, 1, 1] (bodyOf Try.f6)) [1, 1, 1, 1] g6_K37) g6_K37

noncomputable def g6_K39  : Exit → Env → World → Option (Value × World) :=
  blkK 0 g6_K38

/-- the loop, from a state on -/
noncomputable def g6_l6 (u0 : Option Addr × Nat × Nat) (p2 : Option Addr) (s : Int) (w : World) : Option (Value × World) :=
  loopM Try.prog 82 6 g6_ann (cAt [1, 1, 1, 0, 1, 0, 0] (bodyOf Try.f6)) [0, 1, 0, 1, 1, 1] g6_K39 ((g6_l6_cs u0 p2) ++ sputs [(23, .i .i64)] s) w

def g6_l45_cs (u0 : Option Addr × Nat × Nat) (q43 : Option Addr × Nat × Nat) : List (Nat × Value) := ([(0, .slice u0.1 u0.2.1 u0.2.2), (6, .slice q43.1 q43.2.1 q43.2.2), (34, .slice q43.1 q43.2.1 q43.2.2), (35, .int .i64 (q43.2.1 : Int))] : List (Nat × Value))

/-- the round of a loop (penstock/penstocklaw15.TxnNames) -/
noncomputable def g6_l45_b (q43 : Option Addr × Nat × Nat) (u0 : Option Addr × Nat × Nat) (s46 : Bool × Int) (w47 : World) : Option (Exit × (Bool × Int) × World) :=
if (decide ((s46.2 : Int) < (q43.2.1 : Int))) = true then
((idxA q43.1 q43.2.1 1 s46.2).bind fun a48 =>
(World.cell? w47 a48).bind fun v49 =>
(asI .i64 v49).bind fun n50 =>
(callF Try.prog 26 #[.slice u0.1 u0.2.1 u0.2.2, .int .i64 n50] w47).bind fun r51 =>
(asB r51.1).bind fun b52 =>
if (!b52) = true then
(some (.ret, (false, s46.2), r51.2))
else
(if (decide ((s46.2 : Int) > 0)) = true then
((idxA q43.1 q43.2.1 1 (IntKind.i64.wrap (s46.2 - 1))).bind fun a53 =>
(World.cell? r51.2 a53).bind fun v54 =>
(asI .i64 v54).bind fun n55 =>
if (decide ((n55 : Int) ≥ n50)) = true then
(some (.ret, (false, s46.2), r51.2))
else
(some (.normal, (s46.1, (IntKind.i64.wrap (s46.2 + 1))), r51.2)))
else
(some (.normal, (s46.1, (IntKind.i64.wrap (s46.2 + 1))), r51.2))))
else
(some ((.exit 2), (s46.1, s46.2), w47))

noncomputable def g6_K56  : Exit → Env → World → Option (Value × World) :=
  seqK (ev Try.prog 82 6 g6_ann (cAt [1, 1, 1, 1, 1, 1] (bodyOf Try.f6)) [1, 1, 1, 1, 1, 1] g6_K37) g6_K37

noncomputable def g6_K57  : Exit → Env → World → Option (Value × World) :=
  blkK 2 g6_K56

/-- the loop, from a state on -/
noncomputable def g6_l45 (u0 : Option Addr × Nat × Nat) (q43 : Option Addr × Nat × Nat) (s : Bool × Int) (w : World) : Option (Value × World) :=
  loopM Try.prog 82 6 g6_ann (cAt [1, 1, 1, 1, 1, 0, 1, 0, 0] (bodyOf Try.f6)) [0, 1, 0, 1, 1, 1, 1, 1] g6_K57 ((g6_l45_cs u0 q43) ++ sputs [(2, .b), (36, .i .i64)] s) w

def g6_l61_cs (q43 : Option Addr × Nat × Nat) (u0 : Option Addr × Nat × Nat) : List (Nat × Value) := ([(6, .slice q43.1 q43.2.1 q43.2.2), (59, .slice u0.1 u0.2.1 u0.2.2), (60, .int .i64 (u0.2.1 : Int))] : List (Nat × Value))

def g6_l75_cs (s62 : Bool × Int) (q43 : Option Addr × Nat × Nat) (w63 : World) (u0 : Option Addr × Nat × Nat) : List (Nat × Value) := ([(2, .bool s62.1), (6, .slice q43.1 q43.2.1 q43.2.2), (10, .pointer (some (⟨w63.heap.size, 0, none⟩))), (59, .slice u0.1 u0.2.1 u0.2.2), (60, .int .i64 (u0.2.1 : Int)), (61, .int .i64 s62.2), (65, .slice q43.1 q43.2.1 q43.2.2), (66, .int .i64 (q43.2.1 : Int))] : List (Nat × Value))

/-- the round of a loop (penstock/penstocklaw15.TxnNames) -/
noncomputable def g6_l75_b (q43 : Option Addr × Nat × Nat) (w63 : World) (s62 : Bool × Int) (u0 : Option Addr × Nat × Nat) (s76 : Bool × Int) (w77 : World) : Option (Exit × (Bool × Int) × World) :=
if (decide ((s76.2 : Int) < (q43.2.1 : Int))) = true then
((idxA q43.1 q43.2.1 1 s76.2).bind fun a78 =>
(World.cell? w77 a78).bind fun v79 =>
(asI .i64 v79).bind fun n80 =>
if s76.1 = true then
(some (.normal, (true, (IntKind.i64.wrap (s76.2 + 1))), w77))
else
((World.cell? w77 (Addr.add (⟨w63.heap.size, 0, none⟩) 1)).bind fun v81 =>
(asI .i64 v81).bind fun n82 =>
some (.normal, (((n80 : Int) == n82), (IntKind.i64.wrap (s76.2 + 1))), w77)))
else
(some ((.exit 6), (s76.1, s76.2), w77))

noncomputable def g6_K83 (q43 : Option Addr × Nat × Nat) (u0 : Option Addr × Nat × Nat) : Exit → Env → World → Option (Exit × (Bool × Int) × World) :=
  fun e ρ w => ((List.map (·.1) (g6_l61_cs q43 u0)).mapM ρ).bind fun _ => loopK [(2, .b), (61, .i .i64)] e ρ w

noncomputable def g6_K84 (q43 : Option Addr × Nat × Nat) (u0 : Option Addr × Nat × Nat) : Exit → Env → World → Option (Exit × (Bool × Int) × World) :=
  seqK (ev Try.prog 82 6 g6_ann (cAt [1, 1, 1, 1, 1, 1, 0, 1, 0, 0, 1, 1, 1] (bodyOf Try.f6)) [1, 1, 1, 0, 0, 1, 0, 1, 1, 1, 1, 1, 1] (g6_K83 q43 u0)) (g6_K83 q43 u0)

noncomputable def g6_K85 (q43 : Option Addr × Nat × Nat) (u0 : Option Addr × Nat × Nat) : Exit → Env → World → Option (Exit × (Bool × Int) × World) :=
  blkK 5 (g6_K84 q43 u0)

noncomputable def g6_K86 (q43 : Option Addr × Nat × Nat) (u0 : Option Addr × Nat × Nat) : Exit → Env → World → Option (Exit × (Bool × Int) × World) :=
  seqK (ev Try.prog 82 6 g6_ann (cAt [1, 1, 1, 1, 1, 1, 0, 1, 0, 0, 1, 1, 0, 0, 1, 1, 1] (bodyOf Try.f6)) [1, 1, 1, 0, 0, 1, 1, 0, 0, 1, 0, 1, 1, 1, 1, 1, 1] (g6_K85 q43 u0)) (g6_K85 q43 u0)

noncomputable def g6_K87 (q43 : Option Addr × Nat × Nat) (u0 : Option Addr × Nat × Nat) : Exit → Env → World → Option (Exit × (Bool × Int) × World) :=
  blkK 6 (g6_K86 q43 u0)

/-- the loop, from a state on -/
noncomputable def g6_l75 (s62 : Bool × Int) (q43 : Option Addr × Nat × Nat) (w63 : World) (u0 : Option Addr × Nat × Nat) (s : Bool × Int) (w : World) : Option (Exit × (Bool × Int) × World) :=
  loopM Try.prog 82 6 g6_ann (cAt [1, 1, 1, 1, 1, 1, 0, 1, 0, 0, 1, 1, 0, 0, 1, 1, 0, 1, 0, 0] (bodyOf Try.f6)) [0, 1, 0, 1, 1, 0, 0, 1, 1, 0, 0, 1, 0, 1, 1, 1, 1, 1, 1] (g6_K87 q43 u0) ((g6_l75_cs s62 q43 w63 u0) ++ sputs [(11, .b), (67, .i .i64)] s) w

/-- behind the loop, left by x6 -/
noncomputable def g6_l75_x6 (s62 : Bool × Int) (t88 : Bool × Int) (w89 : World) : Option (Exit × (Bool × Int) × World) :=
if (!t88.1) = true then
(some (.ret, (false, s62.2), w89))
else
(some (.normal, (s62.1, (IntKind.i64.wrap (s62.2 + 1))), w89))

/-- the round of a loop (penstock/penstocklaw15.TxnNames) -/
noncomputable def g6_l61_b (u0 : Option Addr × Nat × Nat) (q43 : Option Addr × Nat × Nat) (s62 : Bool × Int) (w63 : World) : Option (Exit × (Bool × Int) × World) :=
if (decide ((s62.2 : Int) < (u0.2.1 : Int))) = true then
((idxA u0.1 u0.2.1 7 s62.2).bind fun a64 =>
(ldN w63 a64 0 7).bind fun l65 =>
(asI .i64 (l65.getD 0 undef)).bind fun n66 =>
(asI .i64 (l65.getD 1 undef)).bind fun n67 =>
(asI .i64 (l65.getD 2 undef)).bind fun n68 =>
(asI .u64 (l65.getD 3 undef)).bind fun n69 =>
(asI .i64 (l65.getD 4 undef)).bind fun n70 =>
(asSl (l65.getD 5 undef)).bind fun q71 =>
(asB (l65.getD 6 undef)).bind fun b72 =>
(stL (World.alloc w63 (.cells #[.int .i64 0, .int .i64 0, .int .i64 0, .int .u64 0, .int .i64 0, .slice none 0 0, .bool false] 30)) (⟨w63.heap.size, 0, none⟩) [.int .i64 n66, .int .i64 n67, .int .i64 n68, .int .u64 n69, .int .i64 n70, .slice q71.1 q71.2.1 q71.2.2, .bool b72] 0).bind fun w73 =>
g6_l75 s62 q43 w63 u0 (false, 0) w73)
else
(some ((.exit 4), (s62.1, s62.2), w63))

noncomputable def g6_K90  : Exit → Env → World → Option (Value × World) :=
  seqK (ev Try.prog 82 6 g6_ann (cAt [1, 1, 1, 1, 1, 1, 1] (bodyOf Try.f6)) [1, 1, 1, 1, 1, 1, 1] g6_K37) g6_K37

noncomputable def g6_K91  : Exit → Env → World → Option (Value × World) :=
  blkK 4 g6_K90

/-- the loop, from a state on -/
noncomputable def g6_l61 (q43 : Option Addr × Nat × Nat) (u0 : Option Addr × Nat × Nat) (s : Bool × Int) (w : World) : Option (Value × World) :=
  loopM Try.prog 82 6 g6_ann (cAt [1, 1, 1, 1, 1, 1, 0, 1, 0, 0] (bodyOf Try.f6)) [0, 1, 0, 1, 1, 1, 1, 1, 1] g6_K91 ((g6_l61_cs q43 u0) ++ sputs [(2, .b), (61, .i .i64)] s) w

/-- behind the loop, left by x4 -/
noncomputable def g6_l61_x4  (t92 : Bool × Int) (w93 : World) : Option (Value × World) :=
some (.bool true, w93)

/-- behind the loop, left by ret -/
noncomputable def g6_l61_ret  (t94 : Bool × Int) (w95 : World) : Option (Value × World) :=
some (.bool t94.1, w95)

/-- behind the loop, left by x2 -/
noncomputable def g6_l45_x2 (q43 : Option Addr × Nat × Nat) (u0 : Option Addr × Nat × Nat) (t58 : Bool × Int) (w59 : World) : Option (Value × World) :=
g6_l61 q43 u0 (t58.1, 0) w59

/-- behind the loop, left by ret -/
noncomputable def g6_l45_ret  (t96 : Bool × Int) (w97 : World) : Option (Value × World) :=
some (.bool t96.1, w97)

/-- behind the loop, left by x0 -/
noncomputable def g6_l6_x0 (p2 : Option Addr) (u0 : Option Addr × Nat × Nat) (t40 : Int) (w41 : World) : Option (Value × World) :=
(callF Try.prog 25 #[.pointer p2] w41).bind fun r42 =>
(asSl r42.1).bind fun q43 =>
g6_l45 u0 q43 (false, 0) r42.2

noncomputable def g6 (u0 : Option Addr × Nat × Nat) (w0 : World) : Option (Value × World) :=
(callF Try.prog 10 #[] w0).bind fun r1 =>
(asP r1.1).bind fun p2 =>
(callF Try.prog 11 #[] r1.2).bind fun r3 =>
(asB r3.1).bind fun b4 =>
if (!b4) = true then
(some (.bool false, r3.2))
else
(if (p2.isNone) = true then
(some (.bool false, r3.2))
else
(g6_l6 u0 p2 0 r3.2))

theorem g6_eq (u0 : Option Addr × Nat × Nat) (w0 : World) : evFn Try.prog 6 g6_ann #[.slice u0.1 u0.2.1 u0.2.2] w0 = g6 u0 w0 := by kernel_rfl

theorem g6_call {u0 : Option Addr × Nat × Nat} {w0 : World} {r : Value × World} (h : g6 u0 w0 = some r) : callF Try.prog 6 #[.slice u0.1 u0.2.1 u0.2.2] w0 = some r :=
  callF_of_evFn (ann := g6_ann) Try.call6 (by kernel_rfl) ((g6_eq u0 w0).trans h)

theorem g6_l75_x6_of {s62 : Bool × Int} {q43 : Option Addr × Nat × Nat} {w63 : World} {u0 : Option Addr × Nat × Nat} {s t : Bool × Int} {w w' : World} (h : loopS (g6_l75_b q43 w63 s62 u0) s w = some (.exit 6, t, w')) : g6_l75 s62 q43 w63 u0 s w = g6_l75_x6 s62 t w' := by
  have h1 : g6_l75 s62 q43 w63 u0 s w = loopM Try.prog 82 6 g6_ann (cAt [1, 1, 1, 1, 1, 1, 0, 1, 0, 0, 1, 1, 0, 0, 1, 1, 0, 1, 0, 0] (bodyOf Try.f6)) [0, 1, 0, 1, 1, 0, 0, 1, 1, 0, 0, 1, 0, 1, 1, 1, 1, 1, 1] (g6_K87 q43 u0) ((g6_l75_cs s62 q43 w63 u0) ++ sputs [(11, .b), (67, .i .i64)] s) w := by kernel_rfl
  have h2 : loopM Try.prog 82 6 g6_ann (cAt [1, 1, 1, 1, 1, 1, 0, 1, 0, 0, 1, 1, 0, 0, 1, 1, 0, 1, 0, 0] (bodyOf Try.f6)) [0, 1, 0, 1, 1, 0, 0, 1, 1, 0, 0, 1, 0, 1, 1, 1, 1, 1, 1] (g6_K87 q43 u0) ((g6_l75_cs s62 q43 w63 u0) ++ sputs [(11, .b), (67, .i .i64)] s) w = (g6_K87 q43 u0) (.exit 6) (puts 82 ((g6_l75_cs s62 q43 w63 u0) ++ sputs [(11, .b), (67, .i .i64)] t)) w' :=
    loop_rule (P := Try.prog) (N := 82) (f := 6) (ann := g6_ann) (body := (cAt [1, 1, 1, 1, 1, 1, 0, 1, 0, 0, 1, 1, 0, 0, 1, 1, 0, 1, 0, 0] (bodyOf Try.f6))) (pt := [0, 1, 0, 1, 1, 0, 0, 1, 1, 0, 0, 1, 0, 1, 1, 1, 1, 1, 1]) (K := (g6_K87 q43 u0)) (g6_l75_cs s62 q43 w63 u0) [(11, .b), (67, .i .i64)] (b := g6_l75_b q43 w63 s62 u0) (fun s w => by kernel_rfl) (by kernel_rfl) (by kernel_rfl) (by kernel_rfl) h
  have h3 : (g6_K87 q43 u0) (.exit 6) (puts 82 ((g6_l75_cs s62 q43 w63 u0) ++ sputs [(11, .b), (67, .i .i64)] t)) w' = g6_l75_x6 s62 t w' := by kernel_rfl
  exact h1.trans (h2.trans h3)

theorem g6_l61_x4_of {q43 : Option Addr × Nat × Nat} {u0 : Option Addr × Nat × Nat} {s t : Bool × Int} {w w' : World} (h : loopS (g6_l61_b u0 q43) s w = some (.exit 4, t, w')) : g6_l61 q43 u0 s w = g6_l61_x4 t w' := by
  have h1 : g6_l61 q43 u0 s w = loopM Try.prog 82 6 g6_ann (cAt [1, 1, 1, 1, 1, 1, 0, 1, 0, 0] (bodyOf Try.f6)) [0, 1, 0, 1, 1, 1, 1, 1, 1] g6_K91 ((g6_l61_cs q43 u0) ++ sputs [(2, .b), (61, .i .i64)] s) w := by kernel_rfl
  have h2 : loopM Try.prog 82 6 g6_ann (cAt [1, 1, 1, 1, 1, 1, 0, 1, 0, 0] (bodyOf Try.f6)) [0, 1, 0, 1, 1, 1, 1, 1, 1] g6_K91 ((g6_l61_cs q43 u0) ++ sputs [(2, .b), (61, .i .i64)] s) w = g6_K91 (.exit 4) (puts 82 ((g6_l61_cs q43 u0) ++ sputs [(2, .b), (61, .i .i64)] t)) w' :=
    loop_rule (P := Try.prog) (N := 82) (f := 6) (ann := g6_ann) (body := (cAt [1, 1, 1, 1, 1, 1, 0, 1, 0, 0] (bodyOf Try.f6))) (pt := [0, 1, 0, 1, 1, 1, 1, 1, 1]) (K := g6_K91) (g6_l61_cs q43 u0) [(2, .b), (61, .i .i64)] (b := g6_l61_b u0 q43) (fun s w => by kernel_rfl) (by kernel_rfl) (by kernel_rfl) (by kernel_rfl) h
  have h3 : g6_K91 (.exit 4) (puts 82 ((g6_l61_cs q43 u0) ++ sputs [(2, .b), (61, .i .i64)] t)) w' = g6_l61_x4 t w' := by kernel_rfl
  exact h1.trans (h2.trans h3)

theorem g6_l61_ret_of {q43 : Option Addr × Nat × Nat} {u0 : Option Addr × Nat × Nat} {s t : Bool × Int} {w w' : World} (h : loopS (g6_l61_b u0 q43) s w = some (.ret, t, w')) : g6_l61 q43 u0 s w = g6_l61_ret t w' := by
  have h1 : g6_l61 q43 u0 s w = loopM Try.prog 82 6 g6_ann (cAt [1, 1, 1, 1, 1, 1, 0, 1, 0, 0] (bodyOf Try.f6)) [0, 1, 0, 1, 1, 1, 1, 1, 1] g6_K91 ((g6_l61_cs q43 u0) ++ sputs [(2, .b), (61, .i .i64)] s) w := by kernel_rfl
  have h2 : loopM Try.prog 82 6 g6_ann (cAt [1, 1, 1, 1, 1, 1, 0, 1, 0, 0] (bodyOf Try.f6)) [0, 1, 0, 1, 1, 1, 1, 1, 1] g6_K91 ((g6_l61_cs q43 u0) ++ sputs [(2, .b), (61, .i .i64)] s) w = g6_K91 (.ret) (puts 82 ((g6_l61_cs q43 u0) ++ sputs [(2, .b), (61, .i .i64)] t)) w' :=
    loop_rule (P := Try.prog) (N := 82) (f := 6) (ann := g6_ann) (body := (cAt [1, 1, 1, 1, 1, 1, 0, 1, 0, 0] (bodyOf Try.f6))) (pt := [0, 1, 0, 1, 1, 1, 1, 1, 1]) (K := g6_K91) (g6_l61_cs q43 u0) [(2, .b), (61, .i .i64)] (b := g6_l61_b u0 q43) (fun s w => by kernel_rfl) (by kernel_rfl) (by kernel_rfl) (by kernel_rfl) h
  have h3 : g6_K91 (.ret) (puts 82 ((g6_l61_cs q43 u0) ++ sputs [(2, .b), (61, .i .i64)] t)) w' = g6_l61_ret t w' := by kernel_rfl
  exact h1.trans (h2.trans h3)

theorem g6_l45_x2_of {u0 : Option Addr × Nat × Nat} {q43 : Option Addr × Nat × Nat} {s t : Bool × Int} {w w' : World} (h : loopS (g6_l45_b q43 u0) s w = some (.exit 2, t, w')) : g6_l45 u0 q43 s w = g6_l45_x2 q43 u0 t w' := by
  have h1 : g6_l45 u0 q43 s w = loopM Try.prog 82 6 g6_ann (cAt [1, 1, 1, 1, 1, 0, 1, 0, 0] (bodyOf Try.f6)) [0, 1, 0, 1, 1, 1, 1, 1] g6_K57 ((g6_l45_cs u0 q43) ++ sputs [(2, .b), (36, .i .i64)] s) w := by kernel_rfl
  have h2 : loopM Try.prog 82 6 g6_ann (cAt [1, 1, 1, 1, 1, 0, 1, 0, 0] (bodyOf Try.f6)) [0, 1, 0, 1, 1, 1, 1, 1] g6_K57 ((g6_l45_cs u0 q43) ++ sputs [(2, .b), (36, .i .i64)] s) w = g6_K57 (.exit 2) (puts 82 ((g6_l45_cs u0 q43) ++ sputs [(2, .b), (36, .i .i64)] t)) w' :=
    loop_rule (P := Try.prog) (N := 82) (f := 6) (ann := g6_ann) (body := (cAt [1, 1, 1, 1, 1, 0, 1, 0, 0] (bodyOf Try.f6))) (pt := [0, 1, 0, 1, 1, 1, 1, 1]) (K := g6_K57) (g6_l45_cs u0 q43) [(2, .b), (36, .i .i64)] (b := g6_l45_b q43 u0) (fun s w => by kernel_rfl) (by kernel_rfl) (by kernel_rfl) (by kernel_rfl) h
  have h3 : g6_K57 (.exit 2) (puts 82 ((g6_l45_cs u0 q43) ++ sputs [(2, .b), (36, .i .i64)] t)) w' = g6_l45_x2 q43 u0 t w' := by kernel_rfl
  exact h1.trans (h2.trans h3)

theorem g6_l45_ret_of {u0 : Option Addr × Nat × Nat} {q43 : Option Addr × Nat × Nat} {s t : Bool × Int} {w w' : World} (h : loopS (g6_l45_b q43 u0) s w = some (.ret, t, w')) : g6_l45 u0 q43 s w = g6_l45_ret t w' := by
  have h1 : g6_l45 u0 q43 s w = loopM Try.prog 82 6 g6_ann (cAt [1, 1, 1, 1, 1, 0, 1, 0, 0] (bodyOf Try.f6)) [0, 1, 0, 1, 1, 1, 1, 1] g6_K57 ((g6_l45_cs u0 q43) ++ sputs [(2, .b), (36, .i .i64)] s) w := by kernel_rfl
  have h2 : loopM Try.prog 82 6 g6_ann (cAt [1, 1, 1, 1, 1, 0, 1, 0, 0] (bodyOf Try.f6)) [0, 1, 0, 1, 1, 1, 1, 1] g6_K57 ((g6_l45_cs u0 q43) ++ sputs [(2, .b), (36, .i .i64)] s) w = g6_K57 (.ret) (puts 82 ((g6_l45_cs u0 q43) ++ sputs [(2, .b), (36, .i .i64)] t)) w' :=
    loop_rule (P := Try.prog) (N := 82) (f := 6) (ann := g6_ann) (body := (cAt [1, 1, 1, 1, 1, 0, 1, 0, 0] (bodyOf Try.f6))) (pt := [0, 1, 0, 1, 1, 1, 1, 1]) (K := g6_K57) (g6_l45_cs u0 q43) [(2, .b), (36, .i .i64)] (b := g6_l45_b q43 u0) (fun s w => by kernel_rfl) (by kernel_rfl) (by kernel_rfl) (by kernel_rfl) h
  have h3 : g6_K57 (.ret) (puts 82 ((g6_l45_cs u0 q43) ++ sputs [(2, .b), (36, .i .i64)] t)) w' = g6_l45_ret t w' := by kernel_rfl
  exact h1.trans (h2.trans h3)

theorem g6_l6_x0_of {u0 : Option Addr × Nat × Nat} {p2 : Option Addr} {s t : Int} {w w' : World} (h : loopS (g6_l6_b u0 p2) s w = some (.exit 0, t, w')) : g6_l6 u0 p2 s w = g6_l6_x0 p2 u0 t w' := by
  have h1 : g6_l6 u0 p2 s w = loopM Try.prog 82 6 g6_ann (cAt [1, 1, 1, 0, 1, 0, 0] (bodyOf Try.f6)) [0, 1, 0, 1, 1, 1] g6_K39 ((g6_l6_cs u0 p2) ++ sputs [(23, .i .i64)] s) w := by kernel_rfl
  have h2 : loopM Try.prog 82 6 g6_ann (cAt [1, 1, 1, 0, 1, 0, 0] (bodyOf Try.f6)) [0, 1, 0, 1, 1, 1] g6_K39 ((g6_l6_cs u0 p2) ++ sputs [(23, .i .i64)] s) w = g6_K39 (.exit 0) (puts 82 ((g6_l6_cs u0 p2) ++ sputs [(23, .i .i64)] t)) w' :=
    loop_rule (P := Try.prog) (N := 82) (f := 6) (ann := g6_ann) (body := (cAt [1, 1, 1, 0, 1, 0, 0] (bodyOf Try.f6))) (pt := [0, 1, 0, 1, 1, 1]) (K := g6_K39) (g6_l6_cs u0 p2) [(23, .i .i64)] (b := g6_l6_b u0 p2) (fun s w => by kernel_rfl) (by kernel_rfl) (by kernel_rfl) (by kernel_rfl) h
  have h3 : g6_K39 (.exit 0) (puts 82 ((g6_l6_cs u0 p2) ++ sputs [(23, .i .i64)] t)) w' = g6_l6_x0 p2 u0 t w' := by kernel_rfl
  exact h1.trans (h2.trans h3)

end Go.Proofs.Ytlcojbodcbjkaaa
