/-
  ImageV3: lemmas on what Go functions of this seat come to (for whatever arguments, as each says). No condition but those that stand in each lemma.
-/
import Derived.Test.YtjcenfgmpbeldaaLb9
import Derived.Test.YtjcenfgmpbeldaaProg
namespace Go.Proofs.Ytjcenfgmpbeldaa
open Go Go.Ev
set_option maxRecDepth 100000
set_option linter.unusedVariables false
/-! 24: (*penstock/image.Image).Bytes (m: *image.Image) -/
def g24_ann : List (List Nat × List Nat) := [([0, 1, 0, 1, 1, 1, 1], [0, 2, 3, 4, 27, 28, 29]), ([0, 1, 0, 1, 1, 1, 1, 1, 1], [0, 2, 3, 4, 57, 58, 59]), ([0, 1, 1, 1, 1, 1, 0, 0, 1, 1, 0, 0, 1, 0, 1, 1, 1, 1, 1, 1], [0, 2, 3, 4, 57, 58, 59, 81, 82, 83])]

def g24_l12_cs (u0 : Option Addr) (p2 : Option Addr) (q10 : Option Addr × Nat × Nat) : List (Nat × Value) := ([(0, .pointer u0), (2, .slice none 0 0), (3, .int .i64 0), (4, .pointer p2), (27, .slice q10.1 q10.2.1 q10.2.2), (28, .int .i64 (q10.2.1 : Int))] : List (Nat × Value))

/-- the round of a loop ((*penstock/image.Image).Bytes) -/
noncomputable def g24_l12_b (q10 : Option Addr × Nat × Nat) (p2 : Option Addr) (u0 : Option Addr) (s13 : Int) (w14 : World) : Option (Exit × (Int) × World) :=
if (decide ((s13 : Int) < (q10.2.1 : Int))) = true then
((idxA q10.1 q10.2.1 3 s13).bind fun a15 =>
(ldN w14 a15 0 3).bind fun l16 =>
(asB (l16.getD 0 undef)).bind fun b17 =>
(asI .i64 (l16.getD 1 undef)).bind fun n18 =>
(asI .u64 (l16.getD 2 undef)).bind fun n19 =>
(stL (World.alloc w14 (.cells #[.bool false, .int .i64 0, .int .u64 0] 85)) (⟨w14.heap.size, 0, none⟩) [.bool b17, .int .i64 n18, .int .u64 n19] 0).bind fun w20 =>
(World.cell? w20 (⟨w14.heap.size, 0, none⟩)).bind fun v21 =>
(asB v21).bind fun b22 =>
(callF Try.prog 46 #[.pointer p2, .bool b22] w20).bind fun r23 =>
(asTup 0 r23.1).bind fun _ =>
(World.cell? r23.2 (Addr.add (⟨w14.heap.size, 0, none⟩) 1)).bind fun v24 =>
(asI .i64 v24).bind fun n25 =>
(callF Try.prog 47 #[.pointer p2, .int .i64 n25] r23.2).bind fun r26 =>
(asTup 0 r26.1).bind fun _ =>
(World.cell? r26.2 (Addr.add (⟨w14.heap.size, 0, none⟩) 2)).bind fun v27 =>
(asI .u64 v27).bind fun n28 =>
(callF Try.prog 45 #[.pointer p2, .int .u64 n28] r26.2).bind fun r29 =>
(asTup 0 r29.1).bind fun _ =>
some (.normal, (IntKind.i64.wrap (s13 + 1)), r29.2))
else
(some ((.exit 0), s13, w14))

noncomputable def g24_K30  : Exit → Env → World → Option (Value × World) :=
  retK Try.prog Try.f24.results.toList

noncomputable def g24_K31  : Exit → Env → World → Option (Value × World) :=
  seqK (ev Try.prog 113 24 g24_ann (cAt [1, 1, 1, 1, 1] (bodyOf Try.f24)) [1, 1, 1, 1, 1] g24_K30) g24_K30

noncomputable def g24_K32  : Exit → Env → World → Option (Value × World) :=
  blkK 0 g24_K31

/-- the loop, from a state on -/
noncomputable def g24_l12 (u0 : Option Addr) (p2 : Option Addr) (q10 : Option Addr × Nat × Nat) (s : Int) (w : World) : Option (Value × World) :=
  loopM Try.prog 113 24 g24_ann (cAt [1, 1, 1, 1, 0, 1, 0, 0] (bodyOf Try.f24)) [0, 1, 0, 1, 1, 1, 1] g24_K32 ((g24_l12_cs u0 p2 q10) ++ sputs [(29, .i .i64)] s) w

def g24_l44_cs (u0 : Option Addr) (p2 : Option Addr) (q42 : Option Addr × Nat × Nat) : List (Nat × Value) := ([(0, .pointer u0), (2, .slice none 0 0), (3, .int .i64 0), (4, .pointer p2), (57, .slice q42.1 q42.2.1 q42.2.2), (58, .int .i64 (q42.2.1 : Int))] : List (Nat × Value))

def g24_l72_cs (u0 : Option Addr) (p2 : Option Addr) (q42 : Option Addr × Nat × Nat) (s45 : Int) (r64 : Value × World) : List (Nat × Value) := ([(0, .pointer u0), (2, .slice none 0 0), (3, .int .i64 0), (4, .pointer p2), (57, .slice q42.1 q42.2.1 q42.2.2), (58, .int .i64 (q42.2.1 : Int)), (59, .int .i64 s45), (81, .slice (some (⟨r64.2.heap.size, 0, none⟩)) 3 3), (82, .int .i64 3)] : List (Nat × Value))

/-- the round of a loop ((*penstock/image.Image).Bytes) -/
noncomputable def g24_l72_b (r64 : Value × World) (p2 : Option Addr) (u0 : Option Addr) (q42 : Option Addr × Nat × Nat) (s45 : Int) (s73 : Int) (w74 : World) : Option (Exit × (Int) × World) :=
if (decide ((s73 : Int) < 3)) = true then
((idxA (some (⟨r64.2.heap.size, 0, none⟩)) 3 1 s73).bind fun a75 =>
(World.cell? w74 a75).bind fun v76 =>
(asSl v76).bind fun q77 =>
(callF Try.prog 48 #[.pointer p2, .slice q77.1 q77.2.1 q77.2.2] w74).bind fun r78 =>
(asTup 0 r78.1).bind fun _ =>
some (.normal, (IntKind.i64.wrap (s73 + 1)), r78.2))
else
(some ((.exit 4), s73, w74))

noncomputable def g24_K79 (u0 : Option Addr) (p2 : Option Addr) (q42 : Option Addr × Nat × Nat) : Exit → Env → World → Option (Exit × (Int) × World) :=
  fun e ρ w => ((List.map (·.1) (g24_l44_cs u0 p2 q42)).mapM ρ).bind fun _ => loopK [(59, .i .i64)] e ρ w

noncomputable def g24_K80 (u0 : Option Addr) (p2 : Option Addr) (q42 : Option Addr × Nat × Nat) : Exit → Env → World → Option (Exit × (Int) × World) :=
  seqK (ev Try.prog 113 24 g24_ann (cAt [1, 1, 1, 1, 1, 1, 0, 1, 0, 0, 1, 1, 1] (bodyOf Try.f24)) [1, 1, 1, 0, 0, 1, 0, 1, 1, 1, 1, 1, 1] (g24_K79 u0 p2 q42)) (g24_K79 u0 p2 q42)

noncomputable def g24_K81 (u0 : Option Addr) (p2 : Option Addr) (q42 : Option Addr × Nat × Nat) : Exit → Env → World → Option (Exit × (Int) × World) :=
  blkK 3 (g24_K80 u0 p2 q42)

noncomputable def g24_K82 (u0 : Option Addr) (p2 : Option Addr) (q42 : Option Addr × Nat × Nat) : Exit → Env → World → Option (Exit × (Int) × World) :=
  blkK 4 (g24_K81 u0 p2 q42)

/-- the loop, from a state on -/
noncomputable def g24_l72 (u0 : Option Addr) (p2 : Option Addr) (q42 : Option Addr × Nat × Nat) (s45 : Int) (r64 : Value × World) (s : Int) (w : World) : Option (Exit × (Int) × World) :=
  loopM Try.prog 113 24 g24_ann (cAt [1, 1, 1, 1, 1, 1, 0, 1, 0, 0, 1, 1, 0, 0, 1, 1, 1, 1, 1, 0, 0] (bodyOf Try.f24)) [0, 1, 1, 1, 1, 1, 0, 0, 1, 1, 0, 0, 1, 0, 1, 1, 1, 1, 1, 1] (g24_K82 u0 p2 q42) ((g24_l72_cs u0 p2 q42 s45 r64) ++ sputs [(83, .i .i64)] s) w

/-- behind the loop, left by x4 -/
noncomputable def g24_l72_x4 (s45 : Int) (t83 : Int) (w84 : World) : Option (Exit × (Int) × World) :=
some (.normal, (IntKind.i64.wrap (s45 + 1)), w84)

/-- the round of a loop ((*penstock/image.Image).Bytes) -/
noncomputable def g24_l44_b (q42 : Option Addr × Nat × Nat) (p2 : Option Addr) (u0 : Option Addr) (s45 : Int) (w46 : World) : Option (Exit × (Int) × World) :=
if (decide ((s45 : Int) < (q42.2.1 : Int))) = true then
((idxA q42.1 q42.2.1 6 s45).bind fun a47 =>
(ldN w46 a47 0 6).bind fun l48 =>
(asI .i64 (l48.getD 0 undef)).bind fun n49 =>
(asI .i64 (l48.getD 1 undef)).bind fun n50 =>
(asI .i64 (l48.getD 2 undef)).bind fun n51 =>
(asSl (l48.getD 3 undef)).bind fun q52 =>
(asSl (l48.getD 4 undef)).bind fun q53 =>
(asSl (l48.getD 5 undef)).bind fun q54 =>
(stL (World.alloc w46 (.cells #[.int .i64 0, .int .i64 0, .int .i64 0, .slice none 0 0, .slice none 0 0, .slice none 0 0] 30)) (⟨w46.heap.size, 0, none⟩) [.int .i64 n49, .int .i64 n50, .int .i64 n51, .slice q52.1 q52.2.1 q52.2.2, .slice q53.1 q53.2.1 q53.2.2, .slice q54.1 q54.2.1 q54.2.2] 0).bind fun w55 =>
(World.cell? w55 (⟨w46.heap.size, 0, none⟩)).bind fun v56 =>
(asI .i64 v56).bind fun n57 =>
(callF Try.prog 47 #[.pointer p2, .int .i64 n57] w55).bind fun r58 =>
(asTup 0 r58.1).bind fun _ =>
(World.cell? r58.2 (Addr.add (⟨w46.heap.size, 0, none⟩) 1)).bind fun v59 =>
(asI .i64 v59).bind fun n60 =>
(callF Try.prog 47 #[.pointer p2, .int .i64 n60] r58.2).bind fun r61 =>
(asTup 0 r61.1).bind fun _ =>
(World.cell? r61.2 (Addr.add (⟨w46.heap.size, 0, none⟩) 2)).bind fun v62 =>
(asI .i64 v62).bind fun n63 =>
(callF Try.prog 47 #[.pointer p2, .int .i64 n63] r61.2).bind fun r64 =>
(asTup 0 r64.1).bind fun _ =>
(World.cell? r64.2 (Addr.add (⟨w46.heap.size, 0, none⟩) 3)).bind fun v65 =>
(asSl v65).bind fun q66 =>
(World.cell? r64.2 (Addr.add (⟨w46.heap.size, 0, none⟩) 4)).bind fun v67 =>
(asSl v67).bind fun q68 =>
(World.cell? r64.2 (Addr.add (⟨w46.heap.size, 0, none⟩) 5)).bind fun v69 =>
(asSl v69).bind fun q70 =>
g24_l72 u0 p2 q42 s45 r64 0 (World.alloc r64.2 (.cells #[.slice q66.1 q66.2.1 q66.2.2, .slice q68.1 q68.2.1 q68.2.2, .slice q70.1 q70.2.1 q70.2.2] 28)))
else
(some ((.exit 2), s45, w46))

noncomputable def g24_K85  : Exit → Env → World → Option (Value × World) :=
  seqK (ev Try.prog 113 24 g24_ann (cAt [1, 1, 1, 1, 1, 1, 1] (bodyOf Try.f24)) [1, 1, 1, 1, 1, 1, 1] g24_K30) g24_K30

noncomputable def g24_K86  : Exit → Env → World → Option (Value × World) :=
  blkK 2 g24_K85

/-- the loop, from a state on -/
noncomputable def g24_l44 (u0 : Option Addr) (p2 : Option Addr) (q42 : Option Addr × Nat × Nat) (s : Int) (w : World) : Option (Value × World) :=
  loopM Try.prog 113 24 g24_ann (cAt [1, 1, 1, 1, 1, 1, 0, 1, 0, 0] (bodyOf Try.f24)) [0, 1, 0, 1, 1, 1, 1, 1, 1] g24_K86 ((g24_l44_cs u0 p2 q42) ++ sputs [(59, .i .i64)] s) w

/-- behind the loop, left by x2 -/
noncomputable def g24_l44_x2 (u0 : Option Addr) (p2 : Option Addr) (t87 : Int) (w88 : World) : Option (Value × World) :=
u0.bind fun a89 =>
(World.cell? w88 (Addr.add a89 2)).bind fun v90 =>
(asP v90).bind fun p91 =>
(callF Try.prog 42 #[.pointer p91] w88).bind fun r92 =>
(asTup 2 r92.1).bind fun l93 =>
(asI .u64 (l93.getD 0 undef)).bind fun n94 =>
(asI .u64 (l93.getD 1 undef)).bind fun n95 =>
(callF Try.prog 45 #[.pointer p2, .int .u64 n94] r92.2).bind fun r96 =>
(asTup 0 r96.1).bind fun _ =>
u0.bind fun a97 =>
(World.cell? r96.2 (Addr.add a97 3)).bind fun v98 =>
(asI .i64 v98).bind fun n99 =>
(callF Try.prog 47 #[.pointer p2, .int .i64 n99] r96.2).bind fun r100 =>
(asTup 0 r100.1).bind fun _ =>
(callF Try.prog 49 #[.pointer p2] r100.2).bind fun r101 =>
(asTup 2 r101.1).bind fun l102 =>
(asSl (l102.getD 0 undef)).bind fun q103 =>
(asI .i64 (l102.getD 1 undef)).bind fun n104 =>
some (.tuple #[.slice q103.1 q103.2.1 q103.2.2, .int .i64 n104], r101.2)

/-- behind the loop, left by x0 -/
noncomputable def g24_l12_x0 (u0 : Option Addr) (p2 : Option Addr) (t33 : Int) (w34 : World) : Option (Value × World) :=
u0.bind fun a35 =>
(World.cell? w34 (Addr.add a35 1)).bind fun v36 =>
(asSl v36).bind fun q37 =>
(callF Try.prog 45 #[.pointer p2, .int .u64 (IntKind.u64.wrap (q37.2.1 : Int))] w34).bind fun r39 =>
(asTup 0 r39.1).bind fun _ =>
u0.bind fun a40 =>
(World.cell? r39.2 (Addr.add a40 1)).bind fun v41 =>
(asSl v41).bind fun q42 =>
g24_l44 u0 p2 q42 0 r39.2

noncomputable def g24 (u0 : Option Addr) (w0 : World) : Option (Value × World) :=
if (u0.isNone) = true then
(some (.tuple #[.slice none 0 0, .int .i64 5], w0))
else
((callF Try.prog 44 #[] w0).bind fun r1 =>
(asP r1.1).bind fun p2 =>
u0.bind fun a3 =>
(World.cell? r1.2 a3).bind fun v4 =>
(asSl v4).bind fun q5 =>
(callF Try.prog 45 #[.pointer p2, .int .u64 (IntKind.u64.wrap (q5.2.1 : Int))] r1.2).bind fun r7 =>
(asTup 0 r7.1).bind fun _ =>
u0.bind fun a8 =>
(World.cell? r7.2 a8).bind fun v9 =>
(asSl v9).bind fun q10 =>
g24_l12 u0 p2 q10 0 r7.2)

theorem g24_eq (u0 : Option Addr) (w0 : World) : evFn Try.prog 24 g24_ann #[.pointer u0] w0 = g24 u0 w0 := by kernel_rfl

theorem g24_call {u0 : Option Addr} {w0 : World} {r : Value × World} (h : g24 u0 w0 = some r) : callF Try.prog 24 #[.pointer u0] w0 = some r :=
  callF_of_evFn (ann := g24_ann) Try.call24 (by kernel_rfl) ((g24_eq u0 w0).trans h)

theorem g24_l72_x4_of {u0 : Option Addr} {p2 : Option Addr} {q42 : Option Addr × Nat × Nat} {s45 : Int} {r64 : Value × World} {s t : Int} {w w' : World} (h : loopS (g24_l72_b r64 p2 u0 q42 s45) s w = some (.exit 4, t, w')) : g24_l72 u0 p2 q42 s45 r64 s w = g24_l72_x4 s45 t w' := by
  have h1 : g24_l72 u0 p2 q42 s45 r64 s w = loopM Try.prog 113 24 g24_ann (cAt [1, 1, 1, 1, 1, 1, 0, 1, 0, 0, 1, 1, 0, 0, 1, 1, 1, 1, 1, 0, 0] (bodyOf Try.f24)) [0, 1, 1, 1, 1, 1, 0, 0, 1, 1, 0, 0, 1, 0, 1, 1, 1, 1, 1, 1] (g24_K82 u0 p2 q42) ((g24_l72_cs u0 p2 q42 s45 r64) ++ sputs [(83, .i .i64)] s) w := by kernel_rfl
  have h2 : loopM Try.prog 113 24 g24_ann (cAt [1, 1, 1, 1, 1, 1, 0, 1, 0, 0, 1, 1, 0, 0, 1, 1, 1, 1, 1, 0, 0] (bodyOf Try.f24)) [0, 1, 1, 1, 1, 1, 0, 0, 1, 1, 0, 0, 1, 0, 1, 1, 1, 1, 1, 1] (g24_K82 u0 p2 q42) ((g24_l72_cs u0 p2 q42 s45 r64) ++ sputs [(83, .i .i64)] s) w = (g24_K82 u0 p2 q42) (.exit 4) (puts 113 ((g24_l72_cs u0 p2 q42 s45 r64) ++ sputs [(83, .i .i64)] t)) w' :=
    loop_rule (P := Try.prog) (N := 113) (f := 24) (ann := g24_ann) (body := (cAt [1, 1, 1, 1, 1, 1, 0, 1, 0, 0, 1, 1, 0, 0, 1, 1, 1, 1, 1, 0, 0] (bodyOf Try.f24))) (pt := [0, 1, 1, 1, 1, 1, 0, 0, 1, 1, 0, 0, 1, 0, 1, 1, 1, 1, 1, 1]) (K := (g24_K82 u0 p2 q42)) (g24_l72_cs u0 p2 q42 s45 r64) [(83, .i .i64)] (b := g24_l72_b r64 p2 u0 q42 s45) (fun s w => by kernel_rfl) (by kernel_rfl) (by kernel_rfl) (by kernel_rfl) h
  have h3 : (g24_K82 u0 p2 q42) (.exit 4) (puts 113 ((g24_l72_cs u0 p2 q42 s45 r64) ++ sputs [(83, .i .i64)] t)) w' = g24_l72_x4 s45 t w' := by kernel_rfl
  exact h1.trans (h2.trans h3)

theorem g24_l44_x2_of {u0 : Option Addr} {p2 : Option Addr} {q42 : Option Addr × Nat × Nat} {s t : Int} {w w' : World} (h : loopS (g24_l44_b q42 p2 u0) s w = some (.exit 2, t, w')) : g24_l44 u0 p2 q42 s w = g24_l44_x2 u0 p2 t w' := by
  have h1 : g24_l44 u0 p2 q42 s w = loopM Try.prog 113 24 g24_ann (cAt [1, 1, 1, 1, 1, 1, 0, 1, 0, 0] (bodyOf Try.f24)) [0, 1, 0, 1, 1, 1, 1, 1, 1] g24_K86 ((g24_l44_cs u0 p2 q42) ++ sputs [(59, .i .i64)] s) w := by kernel_rfl
  have h2 : loopM Try.prog 113 24 g24_ann (cAt [1, 1, 1, 1, 1, 1, 0, 1, 0, 0] (bodyOf Try.f24)) [0, 1, 0, 1, 1, 1, 1, 1, 1] g24_K86 ((g24_l44_cs u0 p2 q42) ++ sputs [(59, .i .i64)] s) w = g24_K86 (.exit 2) (puts 113 ((g24_l44_cs u0 p2 q42) ++ sputs [(59, .i .i64)] t)) w' :=
    loop_rule (P := Try.prog) (N := 113) (f := 24) (ann := g24_ann) (body := (cAt [1, 1, 1, 1, 1, 1, 0, 1, 0, 0] (bodyOf Try.f24))) (pt := [0, 1, 0, 1, 1, 1, 1, 1, 1]) (K := g24_K86) (g24_l44_cs u0 p2 q42) [(59, .i .i64)] (b := g24_l44_b q42 p2 u0) (fun s w => by kernel_rfl) (by kernel_rfl) (by kernel_rfl) (by kernel_rfl) h
  have h3 : g24_K86 (.exit 2) (puts 113 ((g24_l44_cs u0 p2 q42) ++ sputs [(59, .i .i64)] t)) w' = g24_l44_x2 u0 p2 t w' := by kernel_rfl
  exact h1.trans (h2.trans h3)

theorem g24_l12_x0_of {u0 : Option Addr} {p2 : Option Addr} {q10 : Option Addr × Nat × Nat} {s t : Int} {w w' : World} (h : loopS (g24_l12_b q10 p2 u0) s w = some (.exit 0, t, w')) : g24_l12 u0 p2 q10 s w = g24_l12_x0 u0 p2 t w' := by
  have h1 : g24_l12 u0 p2 q10 s w = loopM Try.prog 113 24 g24_ann (cAt [1, 1, 1, 1, 0, 1, 0, 0] (bodyOf Try.f24)) [0, 1, 0, 1, 1, 1, 1] g24_K32 ((g24_l12_cs u0 p2 q10) ++ sputs [(29, .i .i64)] s) w := by kernel_rfl
  have h2 : loopM Try.prog 113 24 g24_ann (cAt [1, 1, 1, 1, 0, 1, 0, 0] (bodyOf Try.f24)) [0, 1, 0, 1, 1, 1, 1] g24_K32 ((g24_l12_cs u0 p2 q10) ++ sputs [(29, .i .i64)] s) w = g24_K32 (.exit 0) (puts 113 ((g24_l12_cs u0 p2 q10) ++ sputs [(29, .i .i64)] t)) w' :=
    loop_rule (P := Try.prog) (N := 113) (f := 24) (ann := g24_ann) (body := (cAt [1, 1, 1, 1, 0, 1, 0, 0] (bodyOf Try.f24))) (pt := [0, 1, 0, 1, 1, 1, 1]) (K := g24_K32) (g24_l12_cs u0 p2 q10) [(29, .i .i64)] (b := g24_l12_b q10 p2 u0) (fun s w => by kernel_rfl) (by kernel_rfl) (by kernel_rfl) (by kernel_rfl) h
  have h3 : g24_K32 (.exit 0) (puts 113 ((g24_l12_cs u0 p2 q10) ++ sputs [(29, .i .i64)] t)) w' = g24_l12_x0 u0 p2 t w' := by kernel_rfl
  exact h1.trans (h2.trans h3)

/-! 31: penstock/penstockref13.Read (text: []uint8) -/
def g31_ann : List (List Nat × List Nat) := [([0, 1, 0, 1, 1, 1, 1, 1], [2, 3, 4, 5, 6, 7]), ([0, 1, 0, 1, 1, 1, 1, 1, 1, 1, 1], [2, 3, 4, 5, 6, 8]), ([0, 1, 0, 1, 1, 1, 1, 1, 1, 1, 1, 1, 1, 1, 1, 1], [5, 2, 3, 11])]

def g31_l5_cs (w0 : World) (u0 : Option Addr × Nat × Nat) (x4 : Int) : List (Nat × Value) := ([(2, .pointer none), (3, .int .i64 0), (4, .pointer (some (⟨w0.heap.size, 0, none⟩))), (5, .pointer (some (⟨(World.alloc w0 (.cells #[.slice u0.1 u0.2.1 u0.2.2, .int .i64 0, .int .i64 0] 101)).heap.size, 0, none⟩))), (6, .int .u64 x4)] : List (Nat × Value))

noncomputable def g31_j94 (w0 : World) (u0 : Option Addr × Nat × Nat) (x4 : Int) (s6 : Int) (x31 : Option Addr × Nat × Nat) (x32 : Option Addr × Nat × Nat) (q35 : Option Addr × Nat × Nat) (x64 : Option Addr × Nat × Nat) (x65 : Option Addr × Nat × Nat) (q68 : Option Addr × Nat × Nat) (w72 : World) (x97 : Option Addr × Nat × Nat) (x98 : Option Addr × Nat × Nat) (w99 : World) : Option (Exit × (Int) × World) :=
(callB Try.prog .append #[87, 87] 87 #[false, false] #[.slice x97.1 x97.2.1 x97.2.2, .slice x98.1 x98.2.1 x98.2.2] w99).bind fun r100 =>
(asSl r100.1).bind fun q101 =>
(st1 r100.2 (Addr.add (⟨(World.alloc w0 (.cells #[.slice u0.1 u0.2.1 u0.2.2, .int .i64 0, .int .i64 0] 101)).heap.size, 0, none⟩) 2) (.slice q101.1 q101.2.1 q101.2.2)).bind fun w105 =>
some (.normal, (IntKind.i64.wrap (s6 + 1)), w105)

noncomputable def g31_j87 (w0 : World) (u0 : Option Addr × Nat × Nat) (x4 : Int) (s6 : Int) (x31 : Option Addr × Nat × Nat) (x32 : Option Addr × Nat × Nat) (q35 : Option Addr × Nat × Nat) (x64 : Option Addr × Nat × Nat) (x65 : Option Addr × Nat × Nat) (q68 : Option Addr × Nat × Nat) (w72 : World) (x91 : Option Addr × Nat × Nat) (x92 : Int) (w93 : World) : Option (Exit × (Int) × World) :=
g31_j94 w0 u0 x4 s6 x31 x32 q35 x64 x65 q68 w72 (x91.1, x91.2.1, x91.2.2) ((some (⟨w93.heap.size, 0, none⟩)), 1, 1) (World.alloc w93 (.cells #[.int .u64 x92] 38))

noncomputable def g31_j61 (w0 : World) (u0 : Option Addr × Nat × Nat) (x4 : Int) (s6 : Int) (x31 : Option Addr × Nat × Nat) (x32 : Option Addr × Nat × Nat) (q35 : Option Addr × Nat × Nat) (w39 : World) (x64 : Option Addr × Nat × Nat) (x65 : Option Addr × Nat × Nat) (w66 : World) : Option (Exit × (Int) × World) :=
(callB Try.prog .append #[28, 28] 28 #[false, false] #[.slice x64.1 x64.2.1 x64.2.2, .slice x65.1 x65.2.1 x65.2.2] w66).bind fun r67 =>
(asSl r67.1).bind fun q68 =>
(st1 r67.2 (Addr.add (⟨(World.alloc w0 (.cells #[.slice u0.1 u0.2.1 u0.2.2, .int .i64 0, .int .i64 0] 101)).heap.size, 0, none⟩) 1) (.slice q68.1 q68.2.1 q68.2.2)).bind fun w72 =>
if (ahd (Region.schedule true (opsOf (cAt [1, 1, 1, 1, 1, 0, 1, 0, 0, 1, 0, 0, 1, 1] (bodyOf Try.f31))) (World.tape w72 (World.drawn w72) (.order 31 11))) 4 6 && true) = true then
((World.cell? (World.drew w72) (Addr.add (⟨(World.alloc w0 (.cells #[.slice u0.1 u0.2.1 u0.2.2, .int .i64 0, .int .i64 0] 101)).heap.size, 0, none⟩) 2)).bind fun v79 =>
(asSl v79).bind fun q80 =>
(callF Try.prog 59 #[.pointer (some (⟨w0.heap.size, 0, none⟩))] (World.drew w72)).bind fun r85 =>
(asI .u64 r85.1).bind fun n86 =>
g31_j87 w0 u0 x4 s6 x31 x32 q35 x64 x65 q68 w72 (q80.1, q80.2.1, q80.2.2) n86 r85.2)
else
((callF Try.prog 59 #[.pointer (some (⟨w0.heap.size, 0, none⟩))] (World.drew w72)).bind fun r82 =>
(asI .u64 r82.1).bind fun n83 =>
if (ahd (Region.schedule true (opsOf (cAt [1, 1, 1, 1, 1, 0, 1, 0, 0, 1, 0, 0, 1, 1] (bodyOf Try.f31))) (World.tape w72 (World.drawn w72) (.order 31 11))) 4 7 && true) = true then
((World.cell? r82.2 (Addr.add (⟨(World.alloc w0 (.cells #[.slice u0.1 u0.2.1 u0.2.2, .int .i64 0, .int .i64 0] 101)).heap.size, 0, none⟩) 2)).bind fun v88 =>
(asSl v88).bind fun q89 =>
g31_j87 w0 u0 x4 s6 x31 x32 q35 x64 x65 q68 w72 (q89.1, q89.2.1, q89.2.2) n83 r82.2)
else
((World.cell? (World.alloc r82.2 (.cells #[.int .u64 n83] 38)) (Addr.add (⟨(World.alloc w0 (.cells #[.slice u0.1 u0.2.1 u0.2.2, .int .i64 0, .int .i64 0] 101)).heap.size, 0, none⟩) 2)).bind fun v95 =>
(asSl v95).bind fun q96 =>
g31_j94 w0 u0 x4 s6 x31 x32 q35 x64 x65 q68 w72 (q96.1, q96.2.1, q96.2.2) ((some (⟨r82.2.heap.size, 0, none⟩)), 1, 1) (World.alloc r82.2 (.cells #[.int .u64 n83] 38))))

noncomputable def g31_j54 (w0 : World) (u0 : Option Addr × Nat × Nat) (x4 : Int) (s6 : Int) (x31 : Option Addr × Nat × Nat) (x32 : Option Addr × Nat × Nat) (q35 : Option Addr × Nat × Nat) (w39 : World) (x58 : Option Addr × Nat × Nat) (x59 : Int) (w60 : World) : Option (Exit × (Int) × World) :=
g31_j61 w0 u0 x4 s6 x31 x32 q35 w39 (x58.1, x58.2.1, x58.2.2) ((some (⟨w60.heap.size, 0, none⟩)), 1, 1) (World.alloc w60 (.cells #[.int .i64 x59] 3))

noncomputable def g31_j28 (w0 : World) (u0 : Option Addr × Nat × Nat) (x4 : Int) (s6 : Int) (w7 : World) (x31 : Option Addr × Nat × Nat) (x32 : Option Addr × Nat × Nat) (w33 : World) : Option (Exit × (Int) × World) :=
(callB Try.prog .append #[86, 86] 86 #[false, false] #[.slice x31.1 x31.2.1 x31.2.2, .slice x32.1 x32.2.1 x32.2.2] w33).bind fun r34 =>
(asSl r34.1).bind fun q35 =>
(st1 r34.2 (⟨(World.alloc w0 (.cells #[.slice u0.1 u0.2.1 u0.2.2, .int .i64 0, .int .i64 0] 101)).heap.size, 0, none⟩) (.slice q35.1 q35.2.1 q35.2.2)).bind fun w39 =>
if (ahd (Region.schedule true (opsOf (cAt [1, 1, 1, 1, 1, 0, 1, 0, 0, 1, 0, 0, 1, 0] (bodyOf Try.f31))) (World.tape w39 (World.drawn w39) (.order 31 10))) 4 6 && true) = true then
((World.cell? (World.drew w39) (Addr.add (⟨(World.alloc w0 (.cells #[.slice u0.1 u0.2.1 u0.2.2, .int .i64 0, .int .i64 0] 101)).heap.size, 0, none⟩) 1)).bind fun v46 =>
(asSl v46).bind fun q47 =>
(callF Try.prog 52 #[.pointer (some (⟨w0.heap.size, 0, none⟩))] (World.drew w39)).bind fun r52 =>
(asI .i64 r52.1).bind fun n53 =>
g31_j54 w0 u0 x4 s6 x31 x32 q35 w39 (q47.1, q47.2.1, q47.2.2) n53 r52.2)
else
((callF Try.prog 52 #[.pointer (some (⟨w0.heap.size, 0, none⟩))] (World.drew w39)).bind fun r49 =>
(asI .i64 r49.1).bind fun n50 =>
if (ahd (Region.schedule true (opsOf (cAt [1, 1, 1, 1, 1, 0, 1, 0, 0, 1, 0, 0, 1, 0] (bodyOf Try.f31))) (World.tape w39 (World.drawn w39) (.order 31 10))) 4 7 && true) = true then
((World.cell? r49.2 (Addr.add (⟨(World.alloc w0 (.cells #[.slice u0.1 u0.2.1 u0.2.2, .int .i64 0, .int .i64 0] 101)).heap.size, 0, none⟩) 1)).bind fun v55 =>
(asSl v55).bind fun q56 =>
g31_j54 w0 u0 x4 s6 x31 x32 q35 w39 (q56.1, q56.2.1, q56.2.2) n50 r49.2)
else
((World.cell? (World.alloc r49.2 (.cells #[.int .i64 n50] 3)) (Addr.add (⟨(World.alloc w0 (.cells #[.slice u0.1 u0.2.1 u0.2.2, .int .i64 0, .int .i64 0] 101)).heap.size, 0, none⟩) 1)).bind fun v62 =>
(asSl v62).bind fun q63 =>
g31_j61 w0 u0 x4 s6 x31 x32 q35 w39 (q63.1, q63.2.1, q63.2.2) ((some (⟨r49.2.heap.size, 0, none⟩)), 1, 1) (World.alloc r49.2 (.cells #[.int .i64 n50] 3))))

noncomputable def g31_j21 (w0 : World) (u0 : Option Addr × Nat × Nat) (x4 : Int) (s6 : Int) (w7 : World) (x25 : Option Addr × Nat × Nat) (x26 : Bool) (w27 : World) : Option (Exit × (Int) × World) :=
g31_j28 w0 u0 x4 s6 w7 (x25.1, x25.2.1, x25.2.2) ((some (⟨w27.heap.size, 0, none⟩)), 1, 1) (World.alloc w27 (.cells #[.bool x26] 4))

/-- the round of a loop (penstock/penstockref13.Read) -/
noncomputable def g31_l5_b (x4 : Int) (w0 : World) (u0 : Option Addr × Nat × Nat) (s6 : Int) (w7 : World) : Option (Exit × (Int) × World) :=
if (decide ((s6 : Int) < (IntKind.i64.wrap x4))) = true then
(if (ahd (Region.schedule true (opsOf (cAt [1, 1, 1, 1, 1, 0, 1, 0, 0, 1, 0, 0, 0] (bodyOf Try.f31))) (World.tape w7 (World.drawn w7) (.order 31 9))) 4 6 && true) = true then
((World.cell? (World.drew w7) (⟨(World.alloc w0 (.cells #[.slice u0.1 u0.2.1 u0.2.2, .int .i64 0, .int .i64 0] 101)).heap.size, 0, none⟩)).bind fun v13 =>
(asSl v13).bind fun q14 =>
(callF Try.prog 60 #[.pointer (some (⟨w0.heap.size, 0, none⟩))] (World.drew w7)).bind fun r19 =>
(asB r19.1).bind fun b20 =>
g31_j21 w0 u0 x4 s6 w7 (q14.1, q14.2.1, q14.2.2) b20 r19.2)
else
((callF Try.prog 60 #[.pointer (some (⟨w0.heap.size, 0, none⟩))] (World.drew w7)).bind fun r16 =>
(asB r16.1).bind fun b17 =>
if (ahd (Region.schedule true (opsOf (cAt [1, 1, 1, 1, 1, 0, 1, 0, 0, 1, 0, 0, 0] (bodyOf Try.f31))) (World.tape w7 (World.drawn w7) (.order 31 9))) 4 7 && true) = true then
((World.cell? r16.2 (⟨(World.alloc w0 (.cells #[.slice u0.1 u0.2.1 u0.2.2, .int .i64 0, .int .i64 0] 101)).heap.size, 0, none⟩)).bind fun v22 =>
(asSl v22).bind fun q23 =>
g31_j21 w0 u0 x4 s6 w7 (q23.1, q23.2.1, q23.2.2) b17 r16.2)
else
((World.cell? (World.alloc r16.2 (.cells #[.bool b17] 4)) (⟨(World.alloc w0 (.cells #[.slice u0.1 u0.2.1 u0.2.2, .int .i64 0, .int .i64 0] 101)).heap.size, 0, none⟩)).bind fun v29 =>
(asSl v29).bind fun q30 =>
g31_j28 w0 u0 x4 s6 w7 (q30.1, q30.2.1, q30.2.2) ((some (⟨r16.2.heap.size, 0, none⟩)), 1, 1) (World.alloc r16.2 (.cells #[.bool b17] 4)))))
else
(some ((.exit 0), s6, w7))

noncomputable def g31_K107  : Exit → Env → World → Option (Value × World) :=
  retK Try.prog Try.f31.results.toList

noncomputable def g31_K108  : Exit → Env → World → Option (Value × World) :=
  seqK (ev Try.prog 216 31 g31_ann (cAt [1, 1, 1, 1, 1, 1] (bodyOf Try.f31)) [1, 1, 1, 1, 1, 1] g31_K107) g31_K107

noncomputable def g31_K109  : Exit → Env → World → Option (Value × World) :=
  blkK 0 g31_K108

/-- the loop, from a state on -/
noncomputable def g31_l5 (w0 : World) (u0 : Option Addr × Nat × Nat) (x4 : Int) (s : Int) (w : World) : Option (Value × World) :=
  loopM Try.prog 216 31 g31_ann (cAt [1, 1, 1, 1, 1, 0, 1, 0, 0] (bodyOf Try.f31)) [0, 1, 0, 1, 1, 1, 1, 1] g31_K109 ((g31_l5_cs w0 u0 x4) ++ sputs [(7, .i .i64)] s) w

def g31_l116_cs (w0 : World) (u0 : Option Addr × Nat × Nat) (x115 : Int) : List (Nat × Value) := ([(2, .pointer none), (3, .int .i64 0), (4, .pointer (some (⟨w0.heap.size, 0, none⟩))), (5, .pointer (some (⟨(World.alloc w0 (.cells #[.slice u0.1 u0.2.1 u0.2.2, .int .i64 0, .int .i64 0] 101)).heap.size, 0, none⟩))), (6, .int .u64 x115)] : List (Nat × Value))

noncomputable def g31_j153 (w136 : World) (n142 : Int) (n143 : Int) (n144 : Int) (q145 : Option Addr × Nat × Nat) (q146 : Option Addr × Nat × Nat) (q147 : Option Addr × Nat × Nat) (w0 : World) (u0 : Option Addr × Nat × Nat) (x115 : Int) (s117 : Int) (w118 : World) (n120 : Int) (n123 : Int) (n126 : Int) (q129 : Option Addr × Nat × Nat) (q132 : Option Addr × Nat × Nat) (q135 : Option Addr × Nat × Nat) (x156 : Option Addr × Nat × Nat) : Option (Exit × (Int) × World) :=
(callB Try.prog .append #[77, 77] 77 #[false, false] #[.slice x156.1 x156.2.1 x156.2.2, .slice (some (⟨(World.drew w136).heap.size, 0, none⟩)) 1 1] (World.alloc (World.drew w136) (.cells #[.int .i64 n142, .int .i64 n143, .int .i64 n144, .slice q145.1 q145.2.1 q145.2.2, .slice q146.1 q146.2.1 q146.2.2, .slice q147.1 q147.2.1 q147.2.2] 30))).bind fun r157 =>
(asSl r157.1).bind fun q158 =>
(st1 r157.2 (Addr.add (⟨(World.alloc w0 (.cells #[.slice u0.1 u0.2.1 u0.2.2, .int .i64 0, .int .i64 0] 101)).heap.size, 0, none⟩) 3) (.slice q158.1 q158.2.1 q158.2.2)).bind fun w162 =>
some (.normal, (IntKind.i64.wrap (s117 + 1)), w162)

/-- the round of a loop (penstock/penstockref13.Read) -/
noncomputable def g31_l116_b (x115 : Int) (w0 : World) (u0 : Option Addr × Nat × Nat) (s117 : Int) (w118 : World) : Option (Exit × (Int) × World) :=
if (decide ((s117 : Int) < (IntKind.i64.wrap x115))) = true then
((callF Try.prog 52 #[.pointer (some (⟨w0.heap.size, 0, none⟩))] (World.alloc w118 (.cells #[.int .i64 0, .int .i64 0, .int .i64 0, .slice none 0 0, .slice none 0 0, .slice none 0 0] 30))).bind fun r119 =>
(asI .i64 r119.1).bind fun n120 =>
(st1 r119.2 (⟨w118.heap.size, 0, none⟩) (.int .i64 n120)).bind fun w121 =>
(callF Try.prog 52 #[.pointer (some (⟨w0.heap.size, 0, none⟩))] w121).bind fun r122 =>
(asI .i64 r122.1).bind fun n123 =>
(st1 r122.2 (Addr.add (⟨w118.heap.size, 0, none⟩) 1) (.int .i64 n123)).bind fun w124 =>
(callF Try.prog 52 #[.pointer (some (⟨w0.heap.size, 0, none⟩))] w124).bind fun r125 =>
(asI .i64 r125.1).bind fun n126 =>
(st1 r125.2 (Addr.add (⟨w118.heap.size, 0, none⟩) 2) (.int .i64 n126)).bind fun w127 =>
(callF Try.prog 53 #[.pointer (some (⟨w0.heap.size, 0, none⟩))] w127).bind fun r128 =>
(asSl r128.1).bind fun q129 =>
(st1 r128.2 (Addr.add (⟨w118.heap.size, 0, none⟩) 3) (.slice q129.1 q129.2.1 q129.2.2)).bind fun w130 =>
(callF Try.prog 53 #[.pointer (some (⟨w0.heap.size, 0, none⟩))] w130).bind fun r131 =>
(asSl r131.1).bind fun q132 =>
(st1 r131.2 (Addr.add (⟨w118.heap.size, 0, none⟩) 4) (.slice q132.1 q132.2.1 q132.2.2)).bind fun w133 =>
(callF Try.prog 53 #[.pointer (some (⟨w0.heap.size, 0, none⟩))] w133).bind fun r134 =>
(asSl r134.1).bind fun q135 =>
(st1 r134.2 (Addr.add (⟨w118.heap.size, 0, none⟩) 5) (.slice q135.1 q135.2.1 q135.2.2)).bind fun w136 =>
(ldN (World.drew w136) (⟨w118.heap.size, 0, none⟩) 0 6).bind fun l141 =>
(asI .i64 (l141.getD 0 undef)).bind fun n142 =>
(asI .i64 (l141.getD 1 undef)).bind fun n143 =>
(asI .i64 (l141.getD 2 undef)).bind fun n144 =>
(asSl (l141.getD 3 undef)).bind fun q145 =>
(asSl (l141.getD 4 undef)).bind fun q146 =>
(asSl (l141.getD 5 undef)).bind fun q147 =>
if (ahd (Region.schedule true (opsOf (cAt [1, 1, 1, 1, 1, 1, 1, 1, 0, 1, 0, 0, 1, 0, 0, 1, 1, 1, 1, 1, 1, 1] (bodyOf Try.f31))) (World.tape w136 (World.drawn w136) (.order 31 25))) 4 6 && true) = true then
((World.cell? (World.drew w136) (Addr.add (⟨(World.alloc w0 (.cells #[.slice u0.1 u0.2.1 u0.2.2, .int .i64 0, .int .i64 0] 101)).heap.size, 0, none⟩) 3)).bind fun v149 =>
(asSl v149).bind fun q150 =>
g31_j153 w136 n142 n143 n144 q145 q146 q147 w0 u0 x115 s117 w118 n120 n123 n126 q129 q132 q135 (q150.1, q150.2.1, q150.2.2))
else
((World.cell? (World.alloc (World.drew w136) (.cells #[.int .i64 n142, .int .i64 n143, .int .i64 n144, .slice q145.1 q145.2.1 q145.2.2, .slice q146.1 q146.2.1 q146.2.2, .slice q147.1 q147.2.1 q147.2.2] 30)) (Addr.add (⟨(World.alloc w0 (.cells #[.slice u0.1 u0.2.1 u0.2.2, .int .i64 0, .int .i64 0] 101)).heap.size, 0, none⟩) 3)).bind fun v154 =>
(asSl v154).bind fun q155 =>
g31_j153 w136 n142 n143 n144 q145 q146 q147 w0 u0 x115 s117 w118 n120 n123 n126 q129 q132 q135 (q155.1, q155.2.1, q155.2.2)))
else
(some ((.exit 2), s117, w118))

noncomputable def g31_K164  : Exit → Env → World → Option (Value × World) :=
  seqK (ev Try.prog 216 31 g31_ann (cAt [1, 1, 1, 1, 1, 1, 1, 1, 1] (bodyOf Try.f31)) [1, 1, 1, 1, 1, 1, 1, 1, 1] g31_K107) g31_K107

noncomputable def g31_K165  : Exit → Env → World → Option (Value × World) :=
  blkK 2 g31_K164

/-- the loop, from a state on -/
noncomputable def g31_l116 (w0 : World) (u0 : Option Addr × Nat × Nat) (x115 : Int) (s : Int) (w : World) : Option (Value × World) :=
  loopM Try.prog 216 31 g31_ann (cAt [1, 1, 1, 1, 1, 1, 1, 1, 0, 1, 0, 0] (bodyOf Try.f31)) [0, 1, 0, 1, 1, 1, 1, 1, 1, 1, 1] g31_K165 ((g31_l116_cs w0 u0 x115) ++ sputs [(8, .i .i64)] s) w

def g31_l188_cs (w0 : World) (u0 : Option Addr × Nat × Nat) : List (Nat × Value) := ([(5, .pointer (some (⟨(World.alloc w0 (.cells #[.slice u0.1 u0.2.1 u0.2.2, .int .i64 0, .int .i64 0] 101)).heap.size, 0, none⟩)))] : List (Nat × Value))

/-- the round of a loop (penstock/penstockref13.Read) -/
noncomputable def g31_l188_b (w0 : World) (u0 : Option Addr × Nat × Nat) (s189 : Option Addr × Int × Int) (w190 : World) : Option (Exit × (Option Addr × Int × Int) × World) :=
(World.cell? w190 (Addr.add (⟨(World.alloc w0 (.cells #[.slice u0.1 u0.2.1 u0.2.2, .int .i64 0, .int .i64 0] 101)).heap.size, 0, none⟩) 3)).bind fun v191 =>
(asSl v191).bind fun q192 =>
if (decide ((s189.2.2 : Int) < (q192.2.1 : Int))) = true then
((World.cell? w190 (Addr.add (⟨(World.alloc w0 (.cells #[.slice u0.1 u0.2.1 u0.2.2, .int .i64 0, .int .i64 0] 101)).heap.size, 0, none⟩) 3)).bind fun v194 =>
(asSl v194).bind fun q195 =>
(idxA q195.1 q195.2.1 6 s189.2.2).bind fun a196 =>
(ldN w190 a196 0 6).bind fun l197 =>
(asI .i64 (l197.getD 0 undef)).bind fun n198 =>
(asI .i64 (l197.getD 1 undef)).bind fun n199 =>
(asI .i64 (l197.getD 2 undef)).bind fun n200 =>
(asSl (l197.getD 3 undef)).bind fun q201 =>
(asSl (l197.getD 4 undef)).bind fun q202 =>
(asSl (l197.getD 5 undef)).bind fun q203 =>
(stL (World.alloc w190 (.cells #[.int .i64 0, .int .i64 0, .int .i64 0, .slice none 0 0, .slice none 0 0, .slice none 0 0] 30)) (⟨w190.heap.size, 0, none⟩) [.int .i64 n198, .int .i64 n199, .int .i64 n200, .slice q201.1 q201.2.1 q201.2.2, .slice q202.1 q202.2.1 q202.2.2, .slice q203.1 q203.2.1 q203.2.2] 0).bind fun w204 =>
(World.cell? (World.drew w204) (Addr.add (⟨w190.heap.size, 0, none⟩) 3)).bind fun v205 =>
(asSl v205).bind fun q206 =>
(callF Try.prog 61 #[.pointer (some (⟨(World.alloc w0 (.cells #[.slice u0.1 u0.2.1 u0.2.2, .int .i64 0, .int .i64 0] 101)).heap.size, 0, none⟩)), .slice q206.1 q206.2.1 q206.2.2] (World.drew w204)).bind fun r207 =>
(asB r207.1).bind fun b208 =>
if (!b208) = true then
(some (.ret, (none, 7, s189.2.2), r207.2))
else
((World.cell? r207.2 (Addr.add (⟨w190.heap.size, 0, none⟩) 4)).bind fun v209 =>
(asSl v209).bind fun q210 =>
(callF Try.prog 61 #[.pointer (some (⟨(World.alloc w0 (.cells #[.slice u0.1 u0.2.1 u0.2.2, .int .i64 0, .int .i64 0] 101)).heap.size, 0, none⟩)), .slice q210.1 q210.2.1 q210.2.2] r207.2).bind fun r211 =>
(asB r211.1).bind fun b212 =>
if (!b212) = true then
(some (.ret, (none, 7, s189.2.2), r211.2))
else
((World.cell? r211.2 (Addr.add (⟨w190.heap.size, 0, none⟩) 5)).bind fun v213 =>
(asSl v213).bind fun q214 =>
if (decide (((q214.2.1 : Int) : Int) > 0)) = true then
((World.cell? r211.2 (Addr.add (⟨w190.heap.size, 0, none⟩) 5)).bind fun v216 =>
(asSl v216).bind fun q217 =>
(callF Try.prog 61 #[.pointer (some (⟨(World.alloc w0 (.cells #[.slice u0.1 u0.2.1 u0.2.2, .int .i64 0, .int .i64 0] 101)).heap.size, 0, none⟩)), .slice q217.1 q217.2.1 q217.2.2] r211.2).bind fun r218 =>
(asB r218.1).bind fun b219 =>
if (!b219) = true then
(some (.ret, (none, 7, s189.2.2), r218.2))
else
((World.cell? r218.2 (⟨w190.heap.size, 0, none⟩)).bind fun v220 =>
(asI .i64 v220).bind fun n221 =>
if (decide ((n221 : Int) < (-1))) = true then
(some (.ret, (none, 7, s189.2.2), r218.2))
else
((World.cell? r218.2 (⟨w190.heap.size, 0, none⟩)).bind fun v222 =>
(asI .i64 v222).bind fun n223 =>
(World.cell? r218.2 (⟨(World.alloc w0 (.cells #[.slice u0.1 u0.2.1 u0.2.2, .int .i64 0, .int .i64 0] 101)).heap.size, 0, none⟩)).bind fun v224 =>
(asSl v224).bind fun q225 =>
if (decide ((n223 : Int) ≥ (q225.2.1 : Int))) = true then
(some (.ret, (none, 7, s189.2.2), r218.2))
else
((World.cell? r218.2 (Addr.add (⟨w190.heap.size, 0, none⟩) 1)).bind fun v227 =>
(asI .i64 v227).bind fun n228 =>
if (decide ((n228 : Int) < 0)) = true then
(some (.ret, (none, 7, s189.2.2), r218.2))
else
((World.cell? r218.2 (Addr.add (⟨w190.heap.size, 0, none⟩) 2)).bind fun v229 =>
(asI .i64 v229).bind fun n230 =>
if (decide ((n230 : Int) < 0)) = true then
(some (.ret, (none, 7, s189.2.2), r218.2))
else
(some (.normal, (s189.1, s189.2.1, (IntKind.i64.wrap (s189.2.2 + 1))), r218.2)))))))
else
((World.cell? r211.2 (⟨w190.heap.size, 0, none⟩)).bind fun v231 =>
(asI .i64 v231).bind fun n232 =>
if (decide ((n232 : Int) < (-1))) = true then
(some (.ret, (none, 7, s189.2.2), r211.2))
else
((World.cell? r211.2 (⟨w190.heap.size, 0, none⟩)).bind fun v233 =>
(asI .i64 v233).bind fun n234 =>
(World.cell? r211.2 (⟨(World.alloc w0 (.cells #[.slice u0.1 u0.2.1 u0.2.2, .int .i64 0, .int .i64 0] 101)).heap.size, 0, none⟩)).bind fun v235 =>
(asSl v235).bind fun q236 =>
if (decide ((n234 : Int) ≥ (q236.2.1 : Int))) = true then
(some (.ret, (none, 7, s189.2.2), r211.2))
else
((World.cell? r211.2 (Addr.add (⟨w190.heap.size, 0, none⟩) 1)).bind fun v238 =>
(asI .i64 v238).bind fun n239 =>
if (decide ((n239 : Int) < 0)) = true then
(some (.ret, (none, 7, s189.2.2), r211.2))
else
((World.cell? r211.2 (Addr.add (⟨w190.heap.size, 0, none⟩) 2)).bind fun v240 =>
(asI .i64 v240).bind fun n241 =>
if (decide ((n241 : Int) < 0)) = true then
(some (.ret, (none, 7, s189.2.2), r211.2))
else
(some (.normal, (s189.1, s189.2.1, (IntKind.i64.wrap (s189.2.2 + 1))), r211.2)))))))))
else
(some ((.exit 4), (s189.1, s189.2.1, s189.2.2), w190))

noncomputable def g31_K242  : Exit → Env → World → Option (Value × World) :=
  seqK (ev Try.prog 216 31 g31_ann (cAt [1, 1, 1, 1, 1, 1, 1, 1, 1, 1, 1, 1, 1, 1] (bodyOf Try.f31)) [1, 1, 1, 1, 1, 1, 1, 1, 1, 1, 1, 1, 1, 1] g31_K107) g31_K107

noncomputable def g31_K243  : Exit → Env → World → Option (Value × World) :=
  blkK 4 g31_K242

/-- the loop, from a state on -/
noncomputable def g31_l188 (w0 : World) (u0 : Option Addr × Nat × Nat) (s : Option Addr × Int × Int) (w : World) : Option (Value × World) :=
  loopM Try.prog 216 31 g31_ann (cAt [1, 1, 1, 1, 1, 1, 1, 1, 1, 1, 1, 1, 1, 0, 1, 0, 0] (bodyOf Try.f31)) [0, 1, 0, 1, 1, 1, 1, 1, 1, 1, 1, 1, 1, 1, 1, 1] g31_K243 ((g31_l188_cs w0 u0) ++ sputs [(2, .p), (3, .i .i64), (11, .i .i64)] s) w

/-- behind the loop, left by x4 -/
noncomputable def g31_l188_x4 (w0 : World) (u0 : Option Addr × Nat × Nat) (t244 : Option Addr × Int × Int) (w245 : World) : Option (Value × World) :=
some (.tuple #[.pointer (some (⟨(World.alloc w0 (.cells #[.slice u0.1 u0.2.1 u0.2.2, .int .i64 0, .int .i64 0] 101)).heap.size, 0, none⟩)), .int .i64 0], w245)

/-- behind the loop, left by ret -/
noncomputable def g31_l188_ret  (t246 : Option Addr × Int × Int) (w247 : World) : Option (Value × World) :=
some (.tuple #[.pointer t246.1, .int .i64 t246.2.1], w247)

/-- behind the loop, left by x2 -/
noncomputable def g31_l116_x2 (w0 : World) (u0 : Option Addr × Nat × Nat) (t166 : Int) (w167 : World) : Option (Value × World) :=
(callF Try.prog 59 #[.pointer (some (⟨w0.heap.size, 0, none⟩))] w167).bind fun r168 =>
(asI .u64 r168.1).bind fun n169 =>
(st1 r168.2 (Addr.add (⟨(World.alloc w0 (.cells #[.slice u0.1 u0.2.1 u0.2.2, .int .i64 0, .int .i64 0] 101)).heap.size, 0, none⟩) 4) (.int .u64 n169)).bind fun w170 =>
(callF Try.prog 52 #[.pointer (some (⟨w0.heap.size, 0, none⟩))] w170).bind fun r171 =>
(asI .i64 r171.1).bind fun n172 =>
(st1 r171.2 (Addr.add (⟨(World.alloc w0 (.cells #[.slice u0.1 u0.2.1 u0.2.2, .int .i64 0, .int .i64 0] 101)).heap.size, 0, none⟩) 5) (.int .i64 n172)).bind fun w173 =>
(callF Try.prog 54 #[.pointer (some (⟨w0.heap.size, 0, none⟩))] w173).bind fun r174 =>
(asI .i64 r174.1).bind fun n175 =>
if ((n175 : Int) != 0) = true then
(some (.tuple #[.pointer none, .int .i64 n175], r174.2))
else
((World.cell? r174.2 (⟨(World.alloc w0 (.cells #[.slice u0.1 u0.2.1 u0.2.2, .int .i64 0, .int .i64 0] 101)).heap.size, 0, none⟩)).bind fun v176 =>
(asSl v176).bind fun q177 =>
if (((q177.2.1 : Int) : Int) == 0) = true then
(some (.tuple #[.pointer none, .int .i64 7], r174.2))
else
((World.cell? r174.2 (Addr.add (⟨(World.alloc w0 (.cells #[.slice u0.1 u0.2.1 u0.2.2, .int .i64 0, .int .i64 0] 101)).heap.size, 0, none⟩) 3)).bind fun v179 =>
(asSl v179).bind fun q180 =>
if (((q180.2.1 : Int) : Int) == 0) = true then
(some (.tuple #[.pointer none, .int .i64 7], r174.2))
else
((World.cell? r174.2 (Addr.add (⟨(World.alloc w0 (.cells #[.slice u0.1 u0.2.1 u0.2.2, .int .i64 0, .int .i64 0] 101)).heap.size, 0, none⟩) 4)).bind fun v182 =>
(asI .u64 v182).bind fun n183 =>
if ((n183 : Int) == 0) = true then
(some (.tuple #[.pointer none, .int .i64 7], r174.2))
else
((World.cell? r174.2 (Addr.add (⟨(World.alloc w0 (.cells #[.slice u0.1 u0.2.1 u0.2.2, .int .i64 0, .int .i64 0] 101)).heap.size, 0, none⟩) 4)).bind fun v184 =>
(asI .u64 v184).bind fun n185 =>
if (decide ((n185 : Int) > 1001)) = true then
(some (.tuple #[.pointer none, .int .i64 7], r174.2))
else
((World.cell? r174.2 (Addr.add (⟨(World.alloc w0 (.cells #[.slice u0.1 u0.2.1 u0.2.2, .int .i64 0, .int .i64 0] 101)).heap.size, 0, none⟩) 5)).bind fun v186 =>
(asI .i64 v186).bind fun n187 =>
if (decide ((n187 : Int) < 0)) = true then
(some (.tuple #[.pointer none, .int .i64 7], r174.2))
else
(g31_l188 w0 u0 (none, 0, 0) r174.2))))))

noncomputable def g31_j114 (w0 : World) (u0 : Option Addr × Nat × Nat) (r112 : Value × World) (x115 : Int) : Option (Value × World) :=
g31_l116 w0 u0 x115 0 r112.2

/-- behind the loop, left by x0 -/
noncomputable def g31_l5_x0 (w0 : World) (u0 : Option Addr × Nat × Nat) (t110 : Int) (w111 : World) : Option (Value × World) :=
(callF Try.prog 59 #[.pointer (some (⟨w0.heap.size, 0, none⟩))] w111).bind fun r112 =>
(asI .u64 r112.1).bind fun n113 =>
if (decide ((n113 : Int) > 6)) = true then
(g31_j114 w0 u0 r112 0)
else
(g31_j114 w0 u0 r112 n113)

noncomputable def g31_j3 (w0 : World) (u0 : Option Addr × Nat × Nat) (r1 : Value × World) (x4 : Int) : Option (Value × World) :=
g31_l5 w0 u0 x4 0 r1.2

noncomputable def g31 (u0 : Option Addr × Nat × Nat) (w0 : World) : Option (Value × World) :=
(callF Try.prog 59 #[.pointer (some (⟨w0.heap.size, 0, none⟩))] (World.alloc (World.alloc w0 (.cells #[.slice u0.1 u0.2.1 u0.2.2, .int .i64 0, .int .i64 0] 101)) (.cells #[.slice none 0 0, .slice none 0 0, .slice none 0 0, .slice none 0 0, .int .u64 0, .int .i64 0] 89))).bind fun r1 =>
(asI .u64 r1.1).bind fun n2 =>
if (decide ((n2 : Int) > 5)) = true then
(g31_j3 w0 u0 r1 0)
else
(g31_j3 w0 u0 r1 n2)

theorem g31_eq (u0 : Option Addr × Nat × Nat) (w0 : World) : evFn Try.prog 31 g31_ann #[.slice u0.1 u0.2.1 u0.2.2] w0 = g31 u0 w0 := by kernel_rfl

theorem g31_call {u0 : Option Addr × Nat × Nat} {w0 : World} {r : Value × World} (h : g31 u0 w0 = some r) : callF Try.prog 31 #[.slice u0.1 u0.2.1 u0.2.2] w0 = some r :=
  callF_of_evFn (ann := g31_ann) Try.call31 (by kernel_rfl) ((g31_eq u0 w0).trans h)

theorem g31_l188_x4_of {w0 : World} {u0 : Option Addr × Nat × Nat} {s t : Option Addr × Int × Int} {w w' : World} (h : loopS (g31_l188_b w0 u0) s w = some (.exit 4, t, w')) : g31_l188 w0 u0 s w = g31_l188_x4 w0 u0 t w' := by
  have h1 : g31_l188 w0 u0 s w = loopM Try.prog 216 31 g31_ann (cAt [1, 1, 1, 1, 1, 1, 1, 1, 1, 1, 1, 1, 1, 0, 1, 0, 0] (bodyOf Try.f31)) [0, 1, 0, 1, 1, 1, 1, 1, 1, 1, 1, 1, 1, 1, 1, 1] g31_K243 ((g31_l188_cs w0 u0) ++ sputs [(2, .p), (3, .i .i64), (11, .i .i64)] s) w := by kernel_rfl
  have h2 : loopM Try.prog 216 31 g31_ann (cAt [1, 1, 1, 1, 1, 1, 1, 1, 1, 1, 1, 1, 1, 0, 1, 0, 0] (bodyOf Try.f31)) [0, 1, 0, 1, 1, 1, 1, 1, 1, 1, 1, 1, 1, 1, 1, 1] g31_K243 ((g31_l188_cs w0 u0) ++ sputs [(2, .p), (3, .i .i64), (11, .i .i64)] s) w = g31_K243 (.exit 4) (puts 216 ((g31_l188_cs w0 u0) ++ sputs [(2, .p), (3, .i .i64), (11, .i .i64)] t)) w' :=
    loop_rule (P := Try.prog) (N := 216) (f := 31) (ann := g31_ann) (body := (cAt [1, 1, 1, 1, 1, 1, 1, 1, 1, 1, 1, 1, 1, 0, 1, 0, 0] (bodyOf Try.f31))) (pt := [0, 1, 0, 1, 1, 1, 1, 1, 1, 1, 1, 1, 1, 1, 1, 1]) (K := g31_K243) (g31_l188_cs w0 u0) [(2, .p), (3, .i .i64), (11, .i .i64)] (b := g31_l188_b w0 u0) (fun s w => by kernel_rfl) (by kernel_rfl) (by kernel_rfl) (by kernel_rfl) h
  have h3 : g31_K243 (.exit 4) (puts 216 ((g31_l188_cs w0 u0) ++ sputs [(2, .p), (3, .i .i64), (11, .i .i64)] t)) w' = g31_l188_x4 w0 u0 t w' := by kernel_rfl
  exact h1.trans (h2.trans h3)

theorem g31_l188_ret_of {w0 : World} {u0 : Option Addr × Nat × Nat} {s t : Option Addr × Int × Int} {w w' : World} (h : loopS (g31_l188_b w0 u0) s w = some (.ret, t, w')) : g31_l188 w0 u0 s w = g31_l188_ret t w' := by
  have h1 : g31_l188 w0 u0 s w = loopM Try.prog 216 31 g31_ann (cAt [1, 1, 1, 1, 1, 1, 1, 1, 1, 1, 1, 1, 1, 0, 1, 0, 0] (bodyOf Try.f31)) [0, 1, 0, 1, 1, 1, 1, 1, 1, 1, 1, 1, 1, 1, 1, 1] g31_K243 ((g31_l188_cs w0 u0) ++ sputs [(2, .p), (3, .i .i64), (11, .i .i64)] s) w := by kernel_rfl
  have h2 : loopM Try.prog 216 31 g31_ann (cAt [1, 1, 1, 1, 1, 1, 1, 1, 1, 1, 1, 1, 1, 0, 1, 0, 0] (bodyOf Try.f31)) [0, 1, 0, 1, 1, 1, 1, 1, 1, 1, 1, 1, 1, 1, 1, 1] g31_K243 ((g31_l188_cs w0 u0) ++ sputs [(2, .p), (3, .i .i64), (11, .i .i64)] s) w = g31_K243 (.ret) (puts 216 ((g31_l188_cs w0 u0) ++ sputs [(2, .p), (3, .i .i64), (11, .i .i64)] t)) w' :=
    loop_rule (P := Try.prog) (N := 216) (f := 31) (ann := g31_ann) (body := (cAt [1, 1, 1, 1, 1, 1, 1, 1, 1, 1, 1, 1, 1, 0, 1, 0, 0] (bodyOf Try.f31))) (pt := [0, 1, 0, 1, 1, 1, 1, 1, 1, 1, 1, 1, 1, 1, 1, 1]) (K := g31_K243) (g31_l188_cs w0 u0) [(2, .p), (3, .i .i64), (11, .i .i64)] (b := g31_l188_b w0 u0) (fun s w => by kernel_rfl) (by kernel_rfl) (by kernel_rfl) (by kernel_rfl) h
  have h3 : g31_K243 (.ret) (puts 216 ((g31_l188_cs w0 u0) ++ sputs [(2, .p), (3, .i .i64), (11, .i .i64)] t)) w' = g31_l188_ret t w' := by kernel_rfl
  exact h1.trans (h2.trans h3)

theorem g31_l116_x2_of {w0 : World} {u0 : Option Addr × Nat × Nat} {x115 : Int} {s t : Int} {w w' : World} (h : loopS (g31_l116_b x115 w0 u0) s w = some (.exit 2, t, w')) : g31_l116 w0 u0 x115 s w = g31_l116_x2 w0 u0 t w' := by
  have h1 : g31_l116 w0 u0 x115 s w = loopM Try.prog 216 31 g31_ann (cAt [1, 1, 1, 1, 1, 1, 1, 1, 0, 1, 0, 0] (bodyOf Try.f31)) [0, 1, 0, 1, 1, 1, 1, 1, 1, 1, 1] g31_K165 ((g31_l116_cs w0 u0 x115) ++ sputs [(8, .i .i64)] s) w := by kernel_rfl
  have h2 : loopM Try.prog 216 31 g31_ann (cAt [1, 1, 1, 1, 1, 1, 1, 1, 0, 1, 0, 0] (bodyOf Try.f31)) [0, 1, 0, 1, 1, 1, 1, 1, 1, 1, 1] g31_K165 ((g31_l116_cs w0 u0 x115) ++ sputs [(8, .i .i64)] s) w = g31_K165 (.exit 2) (puts 216 ((g31_l116_cs w0 u0 x115) ++ sputs [(8, .i .i64)] t)) w' :=
    loop_rule (P := Try.prog) (N := 216) (f := 31) (ann := g31_ann) (body := (cAt [1, 1, 1, 1, 1, 1, 1, 1, 0, 1, 0, 0] (bodyOf Try.f31))) (pt := [0, 1, 0, 1, 1, 1, 1, 1, 1, 1, 1]) (K := g31_K165) (g31_l116_cs w0 u0 x115) [(8, .i .i64)] (b := g31_l116_b x115 w0 u0) (fun s w => by kernel_rfl) (by kernel_rfl) (by kernel_rfl) (by kernel_rfl) h
  have h3 : g31_K165 (.exit 2) (puts 216 ((g31_l116_cs w0 u0 x115) ++ sputs [(8, .i .i64)] t)) w' = g31_l116_x2 w0 u0 t w' := by kernel_rfl
  exact h1.trans (h2.trans h3)

theorem g31_l5_x0_of {w0 : World} {u0 : Option Addr × Nat × Nat} {x4 : Int} {s t : Int} {w w' : World} (h : loopS (g31_l5_b x4 w0 u0) s w = some (.exit 0, t, w')) : g31_l5 w0 u0 x4 s w = g31_l5_x0 w0 u0 t w' := by
  have h1 : g31_l5 w0 u0 x4 s w = loopM Try.prog 216 31 g31_ann (cAt [1, 1, 1, 1, 1, 0, 1, 0, 0] (bodyOf Try.f31)) [0, 1, 0, 1, 1, 1, 1, 1] g31_K109 ((g31_l5_cs w0 u0 x4) ++ sputs [(7, .i .i64)] s) w := by kernel_rfl
  have h2 : loopM Try.prog 216 31 g31_ann (cAt [1, 1, 1, 1, 1, 0, 1, 0, 0] (bodyOf Try.f31)) [0, 1, 0, 1, 1, 1, 1, 1] g31_K109 ((g31_l5_cs w0 u0 x4) ++ sputs [(7, .i .i64)] s) w = g31_K109 (.exit 0) (puts 216 ((g31_l5_cs w0 u0 x4) ++ sputs [(7, .i .i64)] t)) w' :=
    loop_rule (P := Try.prog) (N := 216) (f := 31) (ann := g31_ann) (body := (cAt [1, 1, 1, 1, 1, 0, 1, 0, 0] (bodyOf Try.f31))) (pt := [0, 1, 0, 1, 1, 1, 1, 1]) (K := g31_K109) (g31_l5_cs w0 u0 x4) [(7, .i .i64)] (b := g31_l5_b x4 w0 u0) (fun s w => by kernel_rfl) (by kernel_rfl) (by kernel_rfl) (by kernel_rfl) h
  have h3 : g31_K109 (.exit 0) (puts 216 ((g31_l5_cs w0 u0 x4) ++ sputs [(7, .i .i64)] t)) w' = g31_l5_x0 w0 u0 t w' := by kernel_rfl
  exact h1.trans (h2.trans h3)

/-! 32: penstock/image.Read (b: []uint8) -/
def g32_ann : List (List Nat × List Nat) := [([0, 1, 0, 1, 1, 0, 1, 1, 1], [2, 3, 4, 5, 23, 24]), ([0, 1, 0, 1, 1, 0, 1, 1, 1, 1], [2, 3, 4, 5, 52, 53]), ([0, 1, 0, 1, 1, 0, 1, 1, 1, 1], [2, 3, 4, 5, 52, 53]), ([0, 1, 0, 1, 1, 0, 1, 1, 1, 1], [2, 3, 4, 5, 52, 53])]

def g32_l5_cs (p2 : Option Addr) (r1 : Value × World) (n4 : Int) : List (Nat × Value) := ([(2, .pointer none), (3, .int .i64 0), (4, .pointer p2), (5, .pointer (some (⟨r1.2.heap.size, 0, none⟩))), (23, .int .u64 n4)] : List (Nat × Value))

noncomputable def g32_j28 (w14 : World) (b20 : Bool) (n21 : Int) (n22 : Int) (p2 : Option Addr) (r1 : Value × World) (r12 : Value × World) (n4 : Int) (s6 : Int) (b9 : Bool) (n11 : Int) (n13 : Int) (x31 : Option Addr × Nat × Nat) : Option (Exit × (Int) × World) :=
(callB Try.prog .append #[74, 74] 74 #[false, false] #[.slice x31.1 x31.2.1 x31.2.2, .slice (some (⟨(World.drew w14).heap.size, 0, none⟩)) 1 1] (World.alloc (World.drew w14) (.cells #[.bool b20, .int .i64 n21, .int .u64 n22] 85))).bind fun r32 =>
(asSl r32.1).bind fun q33 =>
(st1 r32.2 (⟨r1.2.heap.size, 0, none⟩) (.slice q33.1 q33.2.1 q33.2.2)).bind fun w37 =>
some (.normal, (IntKind.u64.wrap (s6 + 1)), w37)

/-- the round of a loop (penstock/image.Read) -/
noncomputable def g32_l5_b (n4 : Int) (p2 : Option Addr) (r1 : Value × World) (s6 : Int) (w7 : World) : Option (Exit × (Int) × World) :=
if (decide ((s6 : Int) < n4)) = true then
((callF Try.prog 63 #[.pointer p2] w7).bind fun r8 =>
(asB r8.1).bind fun b9 =>
(callF Try.prog 56 #[.pointer p2] r8.2).bind fun r10 =>
(asI .i64 r10.1).bind fun n11 =>
(callF Try.prog 62 #[.pointer p2] r10.2).bind fun r12 =>
(asI .u64 r12.1).bind fun n13 =>
(stL (World.alloc r12.2 (.cells #[.bool false, .int .i64 0, .int .u64 0] 85)) (⟨r12.2.heap.size, 0, none⟩) [.bool b9, .int .i64 n11, .int .u64 n13] 0).bind fun w14 =>
(ldN (World.drew w14) (⟨r12.2.heap.size, 0, none⟩) 0 3).bind fun l19 =>
(asB (l19.getD 0 undef)).bind fun b20 =>
(asI .i64 (l19.getD 1 undef)).bind fun n21 =>
(asI .u64 (l19.getD 2 undef)).bind fun n22 =>
if (ahd (Region.schedule true (opsOf (cAt [1, 1, 1, 0, 1, 1, 0, 1, 0, 0, 1, 1, 0, 0, 1] (bodyOf Try.f32))) (World.tape w14 (World.drawn w14) (.order 32 8))) 4 6 && true) = true then
((World.cell? (World.drew w14) (⟨r1.2.heap.size, 0, none⟩)).bind fun v24 =>
(asSl v24).bind fun q25 =>
g32_j28 w14 b20 n21 n22 p2 r1 r12 n4 s6 b9 n11 n13 (q25.1, q25.2.1, q25.2.2))
else
((World.cell? (World.alloc (World.drew w14) (.cells #[.bool b20, .int .i64 n21, .int .u64 n22] 85)) (⟨r1.2.heap.size, 0, none⟩)).bind fun v29 =>
(asSl v29).bind fun q30 =>
g32_j28 w14 b20 n21 n22 p2 r1 r12 n4 s6 b9 n11 n13 (q30.1, q30.2.1, q30.2.2)))
else
(some ((.exit 0), s6, w7))

noncomputable def g32_K39  : Exit → Env → World → Option (Value × World) :=
  retK Try.prog Try.f32.results.toList

noncomputable def g32_K40  : Exit → Env → World → Option (Value × World) :=
  seqK (ev Try.prog 100 32 g32_ann (cAt [1, 1, 1, 1] (bodyOf Try.f32)) [1, 1, 1, 1] g32_K39) g32_K39

noncomputable def g32_K41  : Exit → Env → World → Option (Value × World) :=
  blkK 0 g32_K40

/-- the loop, from a state on -/
noncomputable def g32_l5 (p2 : Option Addr) (r1 : Value × World) (n4 : Int) (s : Int) (w : World) : Option (Value × World) :=
  loopM Try.prog 100 32 g32_ann (cAt [1, 1, 1, 0, 1, 1, 0, 1, 0, 0] (bodyOf Try.f32)) [0, 1, 0, 1, 1, 0, 1, 1, 1] g32_K41 ((g32_l5_cs p2 r1 n4) ++ sputs [(24, .i .u64)] s) w

def g32_l46_cs (p2 : Option Addr) (r1 : Value × World) (n45 : Int) : List (Nat × Value) := ([(2, .pointer none), (3, .int .i64 0), (4, .pointer p2), (5, .pointer (some (⟨r1.2.heap.size, 0, none⟩))), (52, .int .u64 n45)] : List (Nat × Value))

noncomputable def g32_j144 (p2 : Option Addr) (r1 : Value × World) (n45 : Int) (s47 : Int) (w48 : World) (x148 : Option Addr × Nat × Nat) (x149 : Int) (x150 : Int) (x151 : Int) (x152 : Option Addr × Nat × Nat) (x153 : Option Addr × Nat × Nat) (x154 : Option Addr × Nat × Nat) (w155 : World) : Option (Exit × (Int) × World) :=
(callB Try.prog .append #[77, 77] 77 #[false, false] #[.slice x148.1 x148.2.1 x148.2.2, .slice (some (⟨w155.heap.size, 0, none⟩)) 1 1] (World.alloc w155 (.cells #[.int .i64 x149, .int .i64 x150, .int .i64 x151, .slice x152.1 x152.2.1 x152.2.2, .slice x153.1 x153.2.1 x153.2.2, .slice x154.1 x154.2.1 x154.2.2] 30))).bind fun r159 =>
(asSl r159.1).bind fun q160 =>
(st1 r159.2 (Addr.add (⟨r1.2.heap.size, 0, none⟩) 1) (.slice q160.1 q160.2.1 q160.2.2)).bind fun w166 =>
some (.normal, (IntKind.u64.wrap (s47 + 1)), w166)

noncomputable def g32_j132 (p2 : Option Addr) (r1 : Value × World) (n45 : Int) (s47 : Int) (w48 : World) (x136 : Option Addr × Nat × Nat) (x137 : Int) (x138 : Int) (x139 : Int) (x140 : Option Addr × Nat × Nat) (x141 : Option Addr × Nat × Nat) (x142 : Option Addr × Nat × Nat) (w143 : World) : Option (Exit × (Int) × World) :=
g32_j144 p2 r1 n45 s47 w48 (x136.1, x136.2.1, x136.2.2) x137 x138 x139 (x140.1, x140.2.1, x140.2.2) (x141.1, x141.2.1, x141.2.2) (x142.1, x142.2.1, x142.2.2) w143

noncomputable def g32_j117 (p2 : Option Addr) (r1 : Value × World) (n45 : Int) (s47 : Int) (w48 : World) (x123 : Option Addr × Nat × Nat) (x124 : Int) (x125 : Int) (x126 : Int) (x127 : Option Addr × Nat × Nat) (x128 : Option Addr × Nat × Nat) (w129 : World) : Option (Exit × (Int) × World) :=
(callF Try.prog 57 #[.pointer p2] w129).bind fun r130 =>
(asSl r130.1).bind fun q131 =>
g32_j132 p2 r1 n45 s47 w48 (x123.1, x123.2.1, x123.2.2) x124 x125 x126 (x127.1, x127.2.1, x127.2.2) (x128.1, x128.2.1, x128.2.2) (q131.1, q131.2.1, q131.2.2) r130.2

noncomputable def g32_j103 (p2 : Option Addr) (r1 : Value × World) (n45 : Int) (s47 : Int) (w48 : World) (x109 : Option Addr × Nat × Nat) (x110 : Int) (x111 : Int) (x112 : Int) (x113 : Option Addr × Nat × Nat) (w114 : World) : Option (Exit × (Int) × World) :=
(callF Try.prog 57 #[.pointer p2] w114).bind fun r115 =>
(asSl r115.1).bind fun q116 =>
g32_j117 p2 r1 n45 s47 w48 (x109.1, x109.2.1, x109.2.2) x110 x111 x112 (x113.1, x113.2.1, x113.2.2) (q116.1, q116.2.1, q116.2.2) r115.2

noncomputable def g32_j90 (p2 : Option Addr) (r1 : Value × World) (n45 : Int) (s47 : Int) (w48 : World) (x96 : Option Addr × Nat × Nat) (x97 : Int) (x98 : Int) (x99 : Int) (w100 : World) : Option (Exit × (Int) × World) :=
(callF Try.prog 57 #[.pointer p2] w100).bind fun r101 =>
(asSl r101.1).bind fun q102 =>
g32_j103 p2 r1 n45 s47 w48 (x96.1, x96.2.1, x96.2.2) x97 x98 x99 (q102.1, q102.2.1, q102.2.2) r101.2

noncomputable def g32_j78 (p2 : Option Addr) (r1 : Value × World) (n45 : Int) (s47 : Int) (w48 : World) (x84 : Option Addr × Nat × Nat) (x85 : Int) (x86 : Int) (w87 : World) : Option (Exit × (Int) × World) :=
(callF Try.prog 56 #[.pointer p2] w87).bind fun r88 =>
(asI .i64 r88.1).bind fun n89 =>
g32_j90 p2 r1 n45 s47 w48 (x84.1, x84.2.1, x84.2.2) x85 x86 n89 r88.2

noncomputable def g32_j67 (p2 : Option Addr) (r1 : Value × World) (n45 : Int) (s47 : Int) (w48 : World) (x73 : Option Addr × Nat × Nat) (x74 : Int) (w75 : World) : Option (Exit × (Int) × World) :=
(callF Try.prog 56 #[.pointer p2] w75).bind fun r76 =>
(asI .i64 r76.1).bind fun n77 =>
g32_j78 p2 r1 n45 s47 w48 (x73.1, x73.2.1, x73.2.2) x74 n77 r76.2

/-- the round of a loop (penstock/image.Read) -/
noncomputable def g32_l46_b (n45 : Int) (r1 : Value × World) (p2 : Option Addr) (s47 : Int) (w48 : World) : Option (Exit × (Int) × World) :=
if (decide ((s47 : Int) < n45)) = true then
(if (ahd (Region.schedule true (opsOf (cAt [1, 1, 1, 1, 0, 1, 1, 0, 1, 0, 0, 1, 1, 0, 0] (bodyOf Try.f32))) (World.tape w48 (World.drawn w48) (.order 32 14))) 4 6 && true) = true then
((World.cell? (World.drew w48) (Addr.add (⟨r1.2.heap.size, 0, none⟩) 1)).bind fun v59 =>
(asSl v59).bind fun q60 =>
(callF Try.prog 56 #[.pointer p2] (World.drew w48)).bind fun r65 =>
(asI .i64 r65.1).bind fun n66 =>
g32_j67 p2 r1 n45 s47 w48 (q60.1, q60.2.1, q60.2.2) n66 r65.2)
else
((callF Try.prog 56 #[.pointer p2] (World.drew w48)).bind fun r62 =>
(asI .i64 r62.1).bind fun n63 =>
if (ahd (Region.schedule true (opsOf (cAt [1, 1, 1, 1, 0, 1, 1, 0, 1, 0, 0, 1, 1, 0, 0] (bodyOf Try.f32))) (World.tape w48 (World.drawn w48) (.order 32 14))) 4 8 && true) = true then
((World.cell? r62.2 (Addr.add (⟨r1.2.heap.size, 0, none⟩) 1)).bind fun v68 =>
(asSl v68).bind fun q69 =>
g32_j67 p2 r1 n45 s47 w48 (q69.1, q69.2.1, q69.2.2) n63 r62.2)
else
((callF Try.prog 56 #[.pointer p2] r62.2).bind fun r70 =>
(asI .i64 r70.1).bind fun n71 =>
if (ahd (Region.schedule true (opsOf (cAt [1, 1, 1, 1, 0, 1, 1, 0, 1, 0, 0, 1, 1, 0, 0] (bodyOf Try.f32))) (World.tape w48 (World.drawn w48) (.order 32 14))) 4 10 && true) = true then
((World.cell? r70.2 (Addr.add (⟨r1.2.heap.size, 0, none⟩) 1)).bind fun v79 =>
(asSl v79).bind fun q80 =>
g32_j78 p2 r1 n45 s47 w48 (q80.1, q80.2.1, q80.2.2) n63 n71 r70.2)
else
((callF Try.prog 56 #[.pointer p2] r70.2).bind fun r81 =>
(asI .i64 r81.1).bind fun n82 =>
if (ahd (Region.schedule true (opsOf (cAt [1, 1, 1, 1, 0, 1, 1, 0, 1, 0, 0, 1, 1, 0, 0] (bodyOf Try.f32))) (World.tape w48 (World.drawn w48) (.order 32 14))) 4 12 && true) = true then
((World.cell? r81.2 (Addr.add (⟨r1.2.heap.size, 0, none⟩) 1)).bind fun v91 =>
(asSl v91).bind fun q92 =>
g32_j90 p2 r1 n45 s47 w48 (q92.1, q92.2.1, q92.2.2) n63 n71 n82 r81.2)
else
((callF Try.prog 57 #[.pointer p2] r81.2).bind fun r93 =>
(asSl r93.1).bind fun q94 =>
if (ahd (Region.schedule true (opsOf (cAt [1, 1, 1, 1, 0, 1, 1, 0, 1, 0, 0, 1, 1, 0, 0] (bodyOf Try.f32))) (World.tape w48 (World.drawn w48) (.order 32 14))) 4 14 && true) = true then
((World.cell? r93.2 (Addr.add (⟨r1.2.heap.size, 0, none⟩) 1)).bind fun v104 =>
(asSl v104).bind fun q105 =>
g32_j103 p2 r1 n45 s47 w48 (q105.1, q105.2.1, q105.2.2) n63 n71 n82 (q94.1, q94.2.1, q94.2.2) r93.2)
else
((callF Try.prog 57 #[.pointer p2] r93.2).bind fun r106 =>
(asSl r106.1).bind fun q107 =>
if (ahd (Region.schedule true (opsOf (cAt [1, 1, 1, 1, 0, 1, 1, 0, 1, 0, 0, 1, 1, 0, 0] (bodyOf Try.f32))) (World.tape w48 (World.drawn w48) (.order 32 14))) 4 16 && true) = true then
((World.cell? r106.2 (Addr.add (⟨r1.2.heap.size, 0, none⟩) 1)).bind fun v118 =>
(asSl v118).bind fun q119 =>
g32_j117 p2 r1 n45 s47 w48 (q119.1, q119.2.1, q119.2.2) n63 n71 n82 (q94.1, q94.2.1, q94.2.2) (q107.1, q107.2.1, q107.2.2) r106.2)
else
((callF Try.prog 57 #[.pointer p2] r106.2).bind fun r120 =>
(asSl r120.1).bind fun q121 =>
if (ahd (Region.schedule true (opsOf (cAt [1, 1, 1, 1, 0, 1, 1, 0, 1, 0, 0, 1, 1, 0, 0] (bodyOf Try.f32))) (World.tape w48 (World.drawn w48) (.order 32 14))) 4 17 && true) = true then
((World.cell? r120.2 (Addr.add (⟨r1.2.heap.size, 0, none⟩) 1)).bind fun v133 =>
(asSl v133).bind fun q134 =>
g32_j132 p2 r1 n45 s47 w48 (q134.1, q134.2.1, q134.2.2) n63 n71 n82 (q94.1, q94.2.1, q94.2.2) (q107.1, q107.2.1, q107.2.2) (q121.1, q121.2.1, q121.2.2) r120.2)
else
(if (ahd (Region.schedule true (opsOf (cAt [1, 1, 1, 1, 0, 1, 1, 0, 1, 0, 0, 1, 1, 0, 0] (bodyOf Try.f32))) (World.tape w48 (World.drawn w48) (.order 32 14))) 4 18 && true) = true then
((World.cell? r120.2 (Addr.add (⟨r1.2.heap.size, 0, none⟩) 1)).bind fun v145 =>
(asSl v145).bind fun q146 =>
g32_j144 p2 r1 n45 s47 w48 (q146.1, q146.2.1, q146.2.2) n63 n71 n82 (q94.1, q94.2.1, q94.2.2) (q107.1, q107.2.1, q107.2.2) (q121.1, q121.2.1, q121.2.2) r120.2)
else
((World.cell? (World.alloc r120.2 (.cells #[.int .i64 n63, .int .i64 n71, .int .i64 n82, .slice q94.1 q94.2.1 q94.2.2, .slice q107.1 q107.2.1 q107.2.2, .slice q121.1 q121.2.1 q121.2.2] 30)) (Addr.add (⟨r1.2.heap.size, 0, none⟩) 1)).bind fun v157 =>
(asSl v157).bind fun q158 =>
(callB Try.prog .append #[77, 77] 77 #[false, false] #[.slice q158.1 q158.2.1 q158.2.2, .slice (some (⟨r120.2.heap.size, 0, none⟩)) 1 1] (World.alloc r120.2 (.cells #[.int .i64 n63, .int .i64 n71, .int .i64 n82, .slice q94.1 q94.2.1 q94.2.2, .slice q107.1 q107.2.1 q107.2.2, .slice q121.1 q121.2.1 q121.2.2] 30))).bind fun r162 =>
(asSl r162.1).bind fun q163 =>
(st1 r162.2 (Addr.add (⟨r1.2.heap.size, 0, none⟩) 1) (.slice q163.1 q163.2.1 q163.2.2)).bind fun w168 =>
some (.normal, (IntKind.u64.wrap (s47 + 1)), w168))))))))))
else
(some ((.exit 2), s47, w48))

noncomputable def g32_K169  : Exit → Env → World → Option (Value × World) :=
  seqK (ev Try.prog 100 32 g32_ann (cAt [1, 1, 1, 1, 1] (bodyOf Try.f32)) [1, 1, 1, 1, 1] g32_K39) g32_K39

noncomputable def g32_K170  : Exit → Env → World → Option (Value × World) :=
  blkK 2 g32_K169

/-- the loop, from a state on -/
noncomputable def g32_l46 (p2 : Option Addr) (r1 : Value × World) (n45 : Int) (s : Int) (w : World) : Option (Value × World) :=
  loopM Try.prog 100 32 g32_ann (cAt [1, 1, 1, 1, 0, 1, 1, 0, 1, 0, 0] (bodyOf Try.f32)) [0, 1, 0, 1, 1, 0, 1, 1, 1, 1] g32_K170 ((g32_l46_cs p2 r1 n45) ++ sputs [(53, .i .u64)] s) w

/-- behind the loop, left by x2 -/
noncomputable def g32_l46_x2 (p2 : Option Addr) (r1 : Value × World) (t171 : Int) (w172 : World) : Option (Value × World) :=
(callF Try.prog 62 #[.pointer p2] w172).bind fun r173 =>
(asI .u64 r173.1).bind fun n174 =>
(callF Try.prog 34 #[.int .u64 n174, .int .u64 1001] r173.2).bind fun r175 =>
(asP r175.1).bind fun p176 =>
(st1 r175.2 (Addr.add (⟨r1.2.heap.size, 0, none⟩) 2) (.pointer p176)).bind fun w177 =>
(callF Try.prog 56 #[.pointer p2] w177).bind fun r178 =>
(asI .i64 r178.1).bind fun n179 =>
(st1 r178.2 (Addr.add (⟨r1.2.heap.size, 0, none⟩) 3) (.int .i64 n179)).bind fun w180 =>
(callF Try.prog 58 #[.pointer p2] w180).bind fun r181 =>
(asI .i64 r181.1).bind fun n182 =>
if ((n182 : Int) != 0) = true then
(some (.tuple #[.pointer none, .int .i64 n182], r181.2))
else
((callF Try.prog 64 #[.pointer (some (⟨r1.2.heap.size, 0, none⟩)), .int .u64 n174] r181.2).bind fun r183 =>
(asB r183.1).bind fun b184 =>
if (!b184) = true then
(some (.tuple #[.pointer none, .int .i64 7], r183.2))
else
(some (.tuple #[.pointer (some (⟨r1.2.heap.size, 0, none⟩)), .int .i64 0], r183.2)))

/-- behind the loop, left by x0 -/
noncomputable def g32_l5_x0 (p2 : Option Addr) (r1 : Value × World) (t42 : Int) (w43 : World) : Option (Value × World) :=
(callF Try.prog 62 #[.pointer p2] w43).bind fun r44 =>
(asI .u64 r44.1).bind fun n45 =>
if (decide ((n45 : Int) ≥ 1)) = true then
(if (decide ((n45 : Int) ≤ 6)) = true then
(g32_l46 p2 r1 n45 0 r44.2)
else
((callF Try.prog 62 #[.pointer p2] r44.2).bind fun r185 =>
(asI .u64 r185.1).bind fun n186 =>
(callF Try.prog 34 #[.int .u64 n186, .int .u64 1001] r185.2).bind fun r187 =>
(asP r187.1).bind fun p188 =>
(st1 r187.2 (Addr.add (⟨r1.2.heap.size, 0, none⟩) 2) (.pointer p188)).bind fun w189 =>
(callF Try.prog 56 #[.pointer p2] w189).bind fun r190 =>
(asI .i64 r190.1).bind fun n191 =>
(st1 r190.2 (Addr.add (⟨r1.2.heap.size, 0, none⟩) 3) (.int .i64 n191)).bind fun w192 =>
(callF Try.prog 58 #[.pointer p2] w192).bind fun r193 =>
(asI .i64 r193.1).bind fun n194 =>
if ((n194 : Int) != 0) = true then
(some (.tuple #[.pointer none, .int .i64 n194], r193.2))
else
((callF Try.prog 64 #[.pointer (some (⟨r1.2.heap.size, 0, none⟩)), .int .u64 n186] r193.2).bind fun r195 =>
(asB r195.1).bind fun b196 =>
if (!b196) = true then
(some (.tuple #[.pointer none, .int .i64 7], r195.2))
else
(some (.tuple #[.pointer (some (⟨r1.2.heap.size, 0, none⟩)), .int .i64 0], r195.2)))))
else
((callF Try.prog 62 #[.pointer p2] r44.2).bind fun r197 =>
(asI .u64 r197.1).bind fun n198 =>
(callF Try.prog 34 #[.int .u64 n198, .int .u64 1001] r197.2).bind fun r199 =>
(asP r199.1).bind fun p200 =>
(st1 r199.2 (Addr.add (⟨r1.2.heap.size, 0, none⟩) 2) (.pointer p200)).bind fun w201 =>
(callF Try.prog 56 #[.pointer p2] w201).bind fun r202 =>
(asI .i64 r202.1).bind fun n203 =>
(st1 r202.2 (Addr.add (⟨r1.2.heap.size, 0, none⟩) 3) (.int .i64 n203)).bind fun w204 =>
(callF Try.prog 58 #[.pointer p2] w204).bind fun r205 =>
(asI .i64 r205.1).bind fun n206 =>
if ((n206 : Int) != 0) = true then
(some (.tuple #[.pointer none, .int .i64 n206], r205.2))
else
((callF Try.prog 64 #[.pointer (some (⟨r1.2.heap.size, 0, none⟩)), .int .u64 n198] r205.2).bind fun r207 =>
(asB r207.1).bind fun b208 =>
if (!b208) = true then
(some (.tuple #[.pointer none, .int .i64 7], r207.2))
else
(some (.tuple #[.pointer (some (⟨r1.2.heap.size, 0, none⟩)), .int .i64 0], r207.2))))

def g32_l211_cs (p2 : Option Addr) (r1 : Value × World) (n210 : Int) : List (Nat × Value) := ([(2, .pointer none), (3, .int .i64 0), (4, .pointer p2), (5, .pointer (some (⟨r1.2.heap.size, 0, none⟩))), (52, .int .u64 n210)] : List (Nat × Value))

noncomputable def g32_K334  : Exit → Env → World → Option (Value × World) :=
  seqK (ev Try.prog 100 32 g32_ann (cAt [1, 1, 1, 1, 1] (bodyOf Try.f32)) [1, 1, 1, 1, 1] g32_K39) g32_K39

noncomputable def g32_K335  : Exit → Env → World → Option (Value × World) :=
  blkK 2 g32_K334

/-- the loop, from a state on -/
noncomputable def g32_l211 (p2 : Option Addr) (r1 : Value × World) (n210 : Int) (s : Int) (w : World) : Option (Value × World) :=
  loopM Try.prog 100 32 g32_ann (cAt [1, 1, 1, 1, 0, 1, 1, 0, 1, 0, 0] (bodyOf Try.f32)) [0, 1, 0, 1, 1, 0, 1, 1, 1, 1] g32_K335 ((g32_l211_cs p2 r1 n210) ++ sputs [(53, .i .u64)] s) w

def g32_l376_cs (p2 : Option Addr) (r1 : Value × World) (n375 : Int) : List (Nat × Value) := ([(2, .pointer none), (3, .int .i64 0), (4, .pointer p2), (5, .pointer (some (⟨r1.2.heap.size, 0, none⟩))), (52, .int .u64 n375)] : List (Nat × Value))

noncomputable def g32_K499  : Exit → Env → World → Option (Value × World) :=
  seqK (ev Try.prog 100 32 g32_ann (cAt [1, 1, 1, 1, 1] (bodyOf Try.f32)) [1, 1, 1, 1, 1] g32_K39) g32_K39

noncomputable def g32_K500  : Exit → Env → World → Option (Value × World) :=
  blkK 2 g32_K499

/-- the loop, from a state on -/
noncomputable def g32_l376 (p2 : Option Addr) (r1 : Value × World) (n375 : Int) (s : Int) (w : World) : Option (Value × World) :=
  loopM Try.prog 100 32 g32_ann (cAt [1, 1, 1, 1, 0, 1, 1, 0, 1, 0, 0] (bodyOf Try.f32)) [0, 1, 0, 1, 1, 0, 1, 1, 1, 1] g32_K500 ((g32_l376_cs p2 r1 n375) ++ sputs [(53, .i .u64)] s) w

noncomputable def g32 (u0 : Option Addr × Nat × Nat) (w0 : World) : Option (Value × World) :=
(callF Try.prog 55 #[.slice u0.1 u0.2.1 u0.2.2] w0).bind fun r1 =>
(asP r1.1).bind fun p2 =>
(callF Try.prog 62 #[.pointer p2] (World.alloc r1.2 (.cells #[.slice none 0 0, .slice none 0 0, .pointer none, .int .i64 0] 79))).bind fun r3 =>
(asI .u64 r3.1).bind fun n4 =>
if (decide ((n4 : Int) ≥ 1)) = true then
(if (decide ((n4 : Int) ≤ 5)) = true then
(g32_l5 p2 r1 n4 0 r3.2)
else
((callF Try.prog 62 #[.pointer p2] r3.2).bind fun r209 =>
(asI .u64 r209.1).bind fun n210 =>
if (decide ((n210 : Int) ≥ 1)) = true then
(if (decide ((n210 : Int) ≤ 6)) = true then
(g32_l211 p2 r1 n210 0 r209.2)
else
((callF Try.prog 62 #[.pointer p2] r209.2).bind fun r350 =>
(asI .u64 r350.1).bind fun n351 =>
(callF Try.prog 34 #[.int .u64 n351, .int .u64 1001] r350.2).bind fun r352 =>
(asP r352.1).bind fun p353 =>
(st1 r352.2 (Addr.add (⟨r1.2.heap.size, 0, none⟩) 2) (.pointer p353)).bind fun w354 =>
(callF Try.prog 56 #[.pointer p2] w354).bind fun r355 =>
(asI .i64 r355.1).bind fun n356 =>
(st1 r355.2 (Addr.add (⟨r1.2.heap.size, 0, none⟩) 3) (.int .i64 n356)).bind fun w357 =>
(callF Try.prog 58 #[.pointer p2] w357).bind fun r358 =>
(asI .i64 r358.1).bind fun n359 =>
if ((n359 : Int) != 0) = true then
(some (.tuple #[.pointer none, .int .i64 n359], r358.2))
else
((callF Try.prog 64 #[.pointer (some (⟨r1.2.heap.size, 0, none⟩)), .int .u64 n351] r358.2).bind fun r360 =>
(asB r360.1).bind fun b361 =>
if (!b361) = true then
(some (.tuple #[.pointer none, .int .i64 7], r360.2))
else
(some (.tuple #[.pointer (some (⟨r1.2.heap.size, 0, none⟩)), .int .i64 0], r360.2)))))
else
((callF Try.prog 62 #[.pointer p2] r209.2).bind fun r362 =>
(asI .u64 r362.1).bind fun n363 =>
(callF Try.prog 34 #[.int .u64 n363, .int .u64 1001] r362.2).bind fun r364 =>
(asP r364.1).bind fun p365 =>
(st1 r364.2 (Addr.add (⟨r1.2.heap.size, 0, none⟩) 2) (.pointer p365)).bind fun w366 =>
(callF Try.prog 56 #[.pointer p2] w366).bind fun r367 =>
(asI .i64 r367.1).bind fun n368 =>
(st1 r367.2 (Addr.add (⟨r1.2.heap.size, 0, none⟩) 3) (.int .i64 n368)).bind fun w369 =>
(callF Try.prog 58 #[.pointer p2] w369).bind fun r370 =>
(asI .i64 r370.1).bind fun n371 =>
if ((n371 : Int) != 0) = true then
(some (.tuple #[.pointer none, .int .i64 n371], r370.2))
else
((callF Try.prog 64 #[.pointer (some (⟨r1.2.heap.size, 0, none⟩)), .int .u64 n363] r370.2).bind fun r372 =>
(asB r372.1).bind fun b373 =>
if (!b373) = true then
(some (.tuple #[.pointer none, .int .i64 7], r372.2))
else
(some (.tuple #[.pointer (some (⟨r1.2.heap.size, 0, none⟩)), .int .i64 0], r372.2))))))
else
((callF Try.prog 62 #[.pointer p2] r3.2).bind fun r374 =>
(asI .u64 r374.1).bind fun n375 =>
if (decide ((n375 : Int) ≥ 1)) = true then
(if (decide ((n375 : Int) ≤ 6)) = true then
(g32_l376 p2 r1 n375 0 r374.2)
else
((callF Try.prog 62 #[.pointer p2] r374.2).bind fun r515 =>
(asI .u64 r515.1).bind fun n516 =>
(callF Try.prog 34 #[.int .u64 n516, .int .u64 1001] r515.2).bind fun r517 =>
(asP r517.1).bind fun p518 =>
(st1 r517.2 (Addr.add (⟨r1.2.heap.size, 0, none⟩) 2) (.pointer p518)).bind fun w519 =>
(callF Try.prog 56 #[.pointer p2] w519).bind fun r520 =>
(asI .i64 r520.1).bind fun n521 =>
(st1 r520.2 (Addr.add (⟨r1.2.heap.size, 0, none⟩) 3) (.int .i64 n521)).bind fun w522 =>
(callF Try.prog 58 #[.pointer p2] w522).bind fun r523 =>
(asI .i64 r523.1).bind fun n524 =>
if ((n524 : Int) != 0) = true then
(some (.tuple #[.pointer none, .int .i64 n524], r523.2))
else
((callF Try.prog 64 #[.pointer (some (⟨r1.2.heap.size, 0, none⟩)), .int .u64 n516] r523.2).bind fun r525 =>
(asB r525.1).bind fun b526 =>
if (!b526) = true then
(some (.tuple #[.pointer none, .int .i64 7], r525.2))
else
(some (.tuple #[.pointer (some (⟨r1.2.heap.size, 0, none⟩)), .int .i64 0], r525.2)))))
else
((callF Try.prog 62 #[.pointer p2] r374.2).bind fun r527 =>
(asI .u64 r527.1).bind fun n528 =>
(callF Try.prog 34 #[.int .u64 n528, .int .u64 1001] r527.2).bind fun r529 =>
(asP r529.1).bind fun p530 =>
(st1 r529.2 (Addr.add (⟨r1.2.heap.size, 0, none⟩) 2) (.pointer p530)).bind fun w531 =>
(callF Try.prog 56 #[.pointer p2] w531).bind fun r532 =>
(asI .i64 r532.1).bind fun n533 =>
(st1 r532.2 (Addr.add (⟨r1.2.heap.size, 0, none⟩) 3) (.int .i64 n533)).bind fun w534 =>
(callF Try.prog 58 #[.pointer p2] w534).bind fun r535 =>
(asI .i64 r535.1).bind fun n536 =>
if ((n536 : Int) != 0) = true then
(some (.tuple #[.pointer none, .int .i64 n536], r535.2))
else
((callF Try.prog 64 #[.pointer (some (⟨r1.2.heap.size, 0, none⟩)), .int .u64 n528] r535.2).bind fun r537 =>
(asB r537.1).bind fun b538 =>
if (!b538) = true then
(some (.tuple #[.pointer none, .int .i64 7], r537.2))
else
(some (.tuple #[.pointer (some (⟨r1.2.heap.size, 0, none⟩)), .int .i64 0], r537.2)))))

theorem g32_eq (u0 : Option Addr × Nat × Nat) (w0 : World) : evFn Try.prog 32 g32_ann #[.slice u0.1 u0.2.1 u0.2.2] w0 = g32 u0 w0 := by kernel_rfl

theorem g32_call {u0 : Option Addr × Nat × Nat} {w0 : World} {r : Value × World} (h : g32 u0 w0 = some r) : callF Try.prog 32 #[.slice u0.1 u0.2.1 u0.2.2] w0 = some r :=
  callF_of_evFn (ann := g32_ann) Try.call32 (by kernel_rfl) ((g32_eq u0 w0).trans h)

theorem g32_l46_x2_of {p2 : Option Addr} {r1 : Value × World} {n45 : Int} {s t : Int} {w w' : World} (h : loopS (g32_l46_b n45 r1 p2) s w = some (.exit 2, t, w')) : g32_l46 p2 r1 n45 s w = g32_l46_x2 p2 r1 t w' := by
  have h1 : g32_l46 p2 r1 n45 s w = loopM Try.prog 100 32 g32_ann (cAt [1, 1, 1, 1, 0, 1, 1, 0, 1, 0, 0] (bodyOf Try.f32)) [0, 1, 0, 1, 1, 0, 1, 1, 1, 1] g32_K170 ((g32_l46_cs p2 r1 n45) ++ sputs [(53, .i .u64)] s) w := by kernel_rfl
  have h2 : loopM Try.prog 100 32 g32_ann (cAt [1, 1, 1, 1, 0, 1, 1, 0, 1, 0, 0] (bodyOf Try.f32)) [0, 1, 0, 1, 1, 0, 1, 1, 1, 1] g32_K170 ((g32_l46_cs p2 r1 n45) ++ sputs [(53, .i .u64)] s) w = g32_K170 (.exit 2) (puts 100 ((g32_l46_cs p2 r1 n45) ++ sputs [(53, .i .u64)] t)) w' :=
    loop_rule (P := Try.prog) (N := 100) (f := 32) (ann := g32_ann) (body := (cAt [1, 1, 1, 1, 0, 1, 1, 0, 1, 0, 0] (bodyOf Try.f32))) (pt := [0, 1, 0, 1, 1, 0, 1, 1, 1, 1]) (K := g32_K170) (g32_l46_cs p2 r1 n45) [(53, .i .u64)] (b := g32_l46_b n45 r1 p2) (fun s w => by kernel_rfl) (by kernel_rfl) (by kernel_rfl) (by kernel_rfl) h
  have h3 : g32_K170 (.exit 2) (puts 100 ((g32_l46_cs p2 r1 n45) ++ sputs [(53, .i .u64)] t)) w' = g32_l46_x2 p2 r1 t w' := by kernel_rfl
  exact h1.trans (h2.trans h3)

theorem g32_l5_x0_of {p2 : Option Addr} {r1 : Value × World} {n4 : Int} {s t : Int} {w w' : World} (h : loopS (g32_l5_b n4 p2 r1) s w = some (.exit 0, t, w')) : g32_l5 p2 r1 n4 s w = g32_l5_x0 p2 r1 t w' := by
  have h1 : g32_l5 p2 r1 n4 s w = loopM Try.prog 100 32 g32_ann (cAt [1, 1, 1, 0, 1, 1, 0, 1, 0, 0] (bodyOf Try.f32)) [0, 1, 0, 1, 1, 0, 1, 1, 1] g32_K41 ((g32_l5_cs p2 r1 n4) ++ sputs [(24, .i .u64)] s) w := by kernel_rfl
  have h2 : loopM Try.prog 100 32 g32_ann (cAt [1, 1, 1, 0, 1, 1, 0, 1, 0, 0] (bodyOf Try.f32)) [0, 1, 0, 1, 1, 0, 1, 1, 1] g32_K41 ((g32_l5_cs p2 r1 n4) ++ sputs [(24, .i .u64)] s) w = g32_K41 (.exit 0) (puts 100 ((g32_l5_cs p2 r1 n4) ++ sputs [(24, .i .u64)] t)) w' :=
    loop_rule (P := Try.prog) (N := 100) (f := 32) (ann := g32_ann) (body := (cAt [1, 1, 1, 0, 1, 1, 0, 1, 0, 0] (bodyOf Try.f32))) (pt := [0, 1, 0, 1, 1, 0, 1, 1, 1]) (K := g32_K41) (g32_l5_cs p2 r1 n4) [(24, .i .u64)] (b := g32_l5_b n4 p2 r1) (fun s w => by kernel_rfl) (by kernel_rfl) (by kernel_rfl) (by kernel_rfl) h
  have h3 : g32_K41 (.exit 0) (puts 100 ((g32_l5_cs p2 r1 n4) ++ sputs [(24, .i .u64)] t)) w' = g32_l5_x0 p2 r1 t w' := by kernel_rfl
  exact h1.trans (h2.trans h3)

/-! 33: (*penstock/penstockref13.Image).Bytes (m: *penstockref13.Image) -/
def g33_ann : List (List Nat × List Nat) := [([0, 1, 0, 1, 1], [0, 2, 3, 4]), ([0, 1, 0, 1, 1, 1, 1], [0, 2, 3, 5])]

def g33_l7_cs (u0 : Option Addr) : List (Nat × Value) := ([(0, .pointer u0), (2, .slice none 0 0)] : List (Nat × Value))

/-- the round of a loop ((*penstock/penstockref13.Image).Bytes) -/
noncomputable def g33_l7_b (u0 : Option Addr) (s8 : (Option Addr × Nat × Nat) × Int) (w9 : World) : Option (Exit × ((Option Addr × Nat × Nat) × Int) × World) :=
u0.bind fun a10 =>
(World.cell? w9 a10).bind fun v11 =>
(asSl v11).bind fun q12 =>
if (decide ((s8.2 : Int) < (q12.2.1 : Int))) = true then
(u0.bind fun a14 =>
(World.cell? w9 a14).bind fun v15 =>
(asSl v15).bind fun q16 =>
(idxA q16.1 q16.2.1 1 s8.2).bind fun a17 =>
(World.cell? w9 a17).bind fun v18 =>
(asB v18).bind fun b19 =>
(callF Try.prog 66 #[.bool b19] w9).bind fun r20 =>
(asSl r20.1).bind fun q21 =>
(callB Try.prog .append #[43, 43] 43 #[false, false] #[.slice s8.1.1 s8.1.2.1 s8.1.2.2, .slice q21.1 q21.2.1 q21.2.2] r20.2).bind fun r22 =>
(asSl r22.1).bind fun q23 =>
u0.bind fun a24 =>
(World.cell? r22.2 (Addr.add a24 1)).bind fun v25 =>
(asSl v25).bind fun q26 =>
(idxA q26.1 q26.2.1 1 s8.2).bind fun a27 =>
(World.cell? r22.2 a27).bind fun v28 =>
(asI .i64 v28).bind fun n29 =>
(callF Try.prog 50 #[.int .i64 n29] r22.2).bind fun r30 =>
(asSl r30.1).bind fun q31 =>
(callB Try.prog .append #[43, 43] 43 #[false, false] #[.slice q23.1 q23.2.1 q23.2.2, .slice q31.1 q31.2.1 q31.2.2] r30.2).bind fun r32 =>
(asSl r32.1).bind fun q33 =>
u0.bind fun a34 =>
(World.cell? r32.2 (Addr.add a34 2)).bind fun v35 =>
(asSl v35).bind fun q36 =>
(idxA q36.1 q36.2.1 1 s8.2).bind fun a37 =>
(World.cell? r32.2 a37).bind fun v38 =>
(asI .u64 v38).bind fun n39 =>
(callF Try.prog 65 #[.int .u64 n39] r32.2).bind fun r40 =>
(asSl r40.1).bind fun q41 =>
(callB Try.prog .append #[43, 43] 43 #[false, false] #[.slice q33.1 q33.2.1 q33.2.2, .slice q41.1 q41.2.1 q41.2.2] r40.2).bind fun r42 =>
(asSl r42.1).bind fun q43 =>
some (.normal, ((q43.1, q43.2.1, q43.2.2), (IntKind.i64.wrap (s8.2 + 1))), r42.2))
else
(some ((.exit 0), ((s8.1.1, s8.1.2.1, s8.1.2.2), s8.2), w9))

noncomputable def g33_K44  : Exit → Env → World → Option (Value × World) :=
  retK Try.prog Try.f33.results.toList

noncomputable def g33_K45  : Exit → Env → World → Option (Value × World) :=
  seqK (ev Try.prog 123 33 g33_ann (cAt [1, 1, 1] (bodyOf Try.f33)) [1, 1, 1] g33_K44) g33_K44

noncomputable def g33_K46  : Exit → Env → World → Option (Value × World) :=
  blkK 0 g33_K45

/-- the loop, from a state on -/
noncomputable def g33_l7 (u0 : Option Addr) (s : (Option Addr × Nat × Nat) × Int) (w : World) : Option (Value × World) :=
  loopM Try.prog 123 33 g33_ann (cAt [1, 1, 0, 1, 0, 0] (bodyOf Try.f33)) [0, 1, 0, 1, 1] g33_K46 ((g33_l7_cs u0) ++ sputs [(3, .sl), (4, .i .i64)] s) w

def g33_l57_cs (u0 : Option Addr) : List (Nat × Value) := ([(0, .pointer u0), (2, .slice none 0 0)] : List (Nat × Value))

/-- the round of a loop ((*penstock/penstockref13.Image).Bytes) -/
noncomputable def g33_l57_b (u0 : Option Addr) (s58 : (Option Addr × Nat × Nat) × Int) (w59 : World) : Option (Exit × ((Option Addr × Nat × Nat) × Int) × World) :=
u0.bind fun a60 =>
(World.cell? w59 (Addr.add a60 3)).bind fun v61 =>
(asSl v61).bind fun q62 =>
if (decide ((s58.2 : Int) < (q62.2.1 : Int))) = true then
(u0.bind fun a64 =>
(World.cell? w59 (Addr.add a64 3)).bind fun v65 =>
(asSl v65).bind fun q66 =>
(idxA q66.1 q66.2.1 6 s58.2).bind fun a67 =>
(ldN w59 a67 0 6).bind fun l68 =>
(asI .i64 (l68.getD 0 undef)).bind fun n69 =>
(asI .i64 (l68.getD 1 undef)).bind fun n70 =>
(asI .i64 (l68.getD 2 undef)).bind fun n71 =>
(asSl (l68.getD 3 undef)).bind fun q72 =>
(asSl (l68.getD 4 undef)).bind fun q73 =>
(asSl (l68.getD 5 undef)).bind fun q74 =>
(stL (World.alloc w59 (.cells #[.int .i64 0, .int .i64 0, .int .i64 0, .slice none 0 0, .slice none 0 0, .slice none 0 0] 30)) (⟨w59.heap.size, 0, none⟩) [.int .i64 n69, .int .i64 n70, .int .i64 n71, .slice q72.1 q72.2.1 q72.2.2, .slice q73.1 q73.2.1 q73.2.2, .slice q74.1 q74.2.1 q74.2.2] 0).bind fun w75 =>
(World.cell? w75 (⟨w59.heap.size, 0, none⟩)).bind fun v76 =>
(asI .i64 v76).bind fun n77 =>
(callF Try.prog 50 #[.int .i64 n77] w75).bind fun r78 =>
(asSl r78.1).bind fun q79 =>
(callB Try.prog .append #[43, 43] 43 #[false, false] #[.slice s58.1.1 s58.1.2.1 s58.1.2.2, .slice q79.1 q79.2.1 q79.2.2] r78.2).bind fun r80 =>
(asSl r80.1).bind fun q81 =>
(World.cell? r80.2 (Addr.add (⟨w59.heap.size, 0, none⟩) 1)).bind fun v82 =>
(asI .i64 v82).bind fun n83 =>
(callF Try.prog 50 #[.int .i64 n83] r80.2).bind fun r84 =>
(asSl r84.1).bind fun q85 =>
(callB Try.prog .append #[43, 43] 43 #[false, false] #[.slice q81.1 q81.2.1 q81.2.2, .slice q85.1 q85.2.1 q85.2.2] r84.2).bind fun r86 =>
(asSl r86.1).bind fun q87 =>
(World.cell? r86.2 (Addr.add (⟨w59.heap.size, 0, none⟩) 2)).bind fun v88 =>
(asI .i64 v88).bind fun n89 =>
(callF Try.prog 50 #[.int .i64 n89] r86.2).bind fun r90 =>
(asSl r90.1).bind fun q91 =>
(callB Try.prog .append #[43, 43] 43 #[false, false] #[.slice q87.1 q87.2.1 q87.2.2, .slice q91.1 q91.2.1 q91.2.2] r90.2).bind fun r92 =>
(asSl r92.1).bind fun q93 =>
(World.cell? r92.2 (Addr.add (⟨w59.heap.size, 0, none⟩) 3)).bind fun v94 =>
(asSl v94).bind fun q95 =>
(callF Try.prog 51 #[.slice q95.1 q95.2.1 q95.2.2] r92.2).bind fun r96 =>
(asSl r96.1).bind fun q97 =>
(callB Try.prog .append #[43, 43] 43 #[false, false] #[.slice q93.1 q93.2.1 q93.2.2, .slice q97.1 q97.2.1 q97.2.2] r96.2).bind fun r98 =>
(asSl r98.1).bind fun q99 =>
(World.cell? r98.2 (Addr.add (⟨w59.heap.size, 0, none⟩) 4)).bind fun v100 =>
(asSl v100).bind fun q101 =>
(callF Try.prog 51 #[.slice q101.1 q101.2.1 q101.2.2] r98.2).bind fun r102 =>
(asSl r102.1).bind fun q103 =>
(callB Try.prog .append #[43, 43] 43 #[false, false] #[.slice q99.1 q99.2.1 q99.2.2, .slice q103.1 q103.2.1 q103.2.2] r102.2).bind fun r104 =>
(asSl r104.1).bind fun q105 =>
(World.cell? r104.2 (Addr.add (⟨w59.heap.size, 0, none⟩) 5)).bind fun v106 =>
(asSl v106).bind fun q107 =>
(callF Try.prog 51 #[.slice q107.1 q107.2.1 q107.2.2] r104.2).bind fun r108 =>
(asSl r108.1).bind fun q109 =>
(callB Try.prog .append #[43, 43] 43 #[false, false] #[.slice q105.1 q105.2.1 q105.2.2, .slice q109.1 q109.2.1 q109.2.2] r108.2).bind fun r110 =>
(asSl r110.1).bind fun q111 =>
some (.normal, ((q111.1, q111.2.1, q111.2.2), (IntKind.i64.wrap (s58.2 + 1))), r110.2))
else
(some ((.exit 2), ((s58.1.1, s58.1.2.1, s58.1.2.2), s58.2), w59))

noncomputable def g33_K112  : Exit → Env → World → Option (Value × World) :=
  seqK (ev Try.prog 123 33 g33_ann (cAt [1, 1, 1, 1, 1] (bodyOf Try.f33)) [1, 1, 1, 1, 1] g33_K44) g33_K44

noncomputable def g33_K113  : Exit → Env → World → Option (Value × World) :=
  blkK 2 g33_K112

/-- the loop, from a state on -/
noncomputable def g33_l57 (u0 : Option Addr) (s : (Option Addr × Nat × Nat) × Int) (w : World) : Option (Value × World) :=
  loopM Try.prog 123 33 g33_ann (cAt [1, 1, 1, 1, 0, 1, 0, 0] (bodyOf Try.f33)) [0, 1, 0, 1, 1, 1, 1] g33_K113 ((g33_l57_cs u0) ++ sputs [(3, .sl), (5, .i .i64)] s) w

/-- behind the loop, left by x2 -/
noncomputable def g33_l57_x2 (u0 : Option Addr) (t114 : (Option Addr × Nat × Nat) × Int) (w115 : World) : Option (Value × World) :=
u0.bind fun a116 =>
(World.cell? w115 (Addr.add a116 4)).bind fun v117 =>
(asI .u64 v117).bind fun n118 =>
(callF Try.prog 65 #[.int .u64 n118] w115).bind fun r119 =>
(asSl r119.1).bind fun q120 =>
(callB Try.prog .append #[43, 43] 43 #[false, false] #[.slice t114.1.1 t114.1.2.1 t114.1.2.2, .slice q120.1 q120.2.1 q120.2.2] r119.2).bind fun r121 =>
(asSl r121.1).bind fun q122 =>
u0.bind fun a123 =>
(World.cell? r121.2 (Addr.add a123 5)).bind fun v124 =>
(asI .i64 v124).bind fun n125 =>
(callF Try.prog 50 #[.int .i64 n125] r121.2).bind fun r126 =>
(asSl r126.1).bind fun q127 =>
(callB Try.prog .append #[43, 43] 43 #[false, false] #[.slice q122.1 q122.2.1 q122.2.2, .slice q127.1 q127.2.1 q127.2.2] r126.2).bind fun r128 =>
(asSl r128.1).bind fun q129 =>
some (.slice q129.1 q129.2.1 q129.2.2, r128.2)

/-- behind the loop, left by x0 -/
noncomputable def g33_l7_x0 (u0 : Option Addr) (t47 : (Option Addr × Nat × Nat) × Int) (w48 : World) : Option (Value × World) :=
u0.bind fun a49 =>
(World.cell? w48 (Addr.add a49 3)).bind fun v50 =>
(asSl v50).bind fun q51 =>
(callF Try.prog 65 #[.int .u64 (IntKind.u64.wrap (q51.2.1 : Int))] w48).bind fun r53 =>
(asSl r53.1).bind fun q54 =>
(callB Try.prog .append #[43, 43] 43 #[false, false] #[.slice t47.1.1 t47.1.2.1 t47.1.2.2, .slice q54.1 q54.2.1 q54.2.2] r53.2).bind fun r55 =>
(asSl r55.1).bind fun q56 =>
g33_l57 u0 ((q56.1, q56.2.1, q56.2.2), 0) r55.2

noncomputable def g33 (u0 : Option Addr) (w0 : World) : Option (Value × World) :=
u0.bind fun a1 =>
(World.cell? w0 a1).bind fun v2 =>
(asSl v2).bind fun q3 =>
(callF Try.prog 65 #[.int .u64 (IntKind.u64.wrap (q3.2.1 : Int))] w0).bind fun r5 =>
(asSl r5.1).bind fun q6 =>
g33_l7 u0 ((q6.1, q6.2.1, q6.2.2), 0) r5.2

theorem g33_eq (u0 : Option Addr) (w0 : World) : evFn Try.prog 33 g33_ann #[.pointer u0] w0 = g33 u0 w0 := by kernel_rfl

theorem g33_call {u0 : Option Addr} {w0 : World} {r : Value × World} (h : g33 u0 w0 = some r) : callF Try.prog 33 #[.pointer u0] w0 = some r :=
  callF_of_evFn (ann := g33_ann) Try.call33 (by kernel_rfl) ((g33_eq u0 w0).trans h)

theorem g33_l57_x2_of {u0 : Option Addr} {s t : (Option Addr × Nat × Nat) × Int} {w w' : World} (h : loopS (g33_l57_b u0) s w = some (.exit 2, t, w')) : g33_l57 u0 s w = g33_l57_x2 u0 t w' := by
  have h1 : g33_l57 u0 s w = loopM Try.prog 123 33 g33_ann (cAt [1, 1, 1, 1, 0, 1, 0, 0] (bodyOf Try.f33)) [0, 1, 0, 1, 1, 1, 1] g33_K113 ((g33_l57_cs u0) ++ sputs [(3, .sl), (5, .i .i64)] s) w := by kernel_rfl
  have h2 : loopM Try.prog 123 33 g33_ann (cAt [1, 1, 1, 1, 0, 1, 0, 0] (bodyOf Try.f33)) [0, 1, 0, 1, 1, 1, 1] g33_K113 ((g33_l57_cs u0) ++ sputs [(3, .sl), (5, .i .i64)] s) w = g33_K113 (.exit 2) (puts 123 ((g33_l57_cs u0) ++ sputs [(3, .sl), (5, .i .i64)] t)) w' :=
    loop_rule (P := Try.prog) (N := 123) (f := 33) (ann := g33_ann) (body := (cAt [1, 1, 1, 1, 0, 1, 0, 0] (bodyOf Try.f33))) (pt := [0, 1, 0, 1, 1, 1, 1]) (K := g33_K113) (g33_l57_cs u0) [(3, .sl), (5, .i .i64)] (b := g33_l57_b u0) (fun s w => by kernel_rfl) (by kernel_rfl) (by kernel_rfl) (by kernel_rfl) h
  have h3 : g33_K113 (.exit 2) (puts 123 ((g33_l57_cs u0) ++ sputs [(3, .sl), (5, .i .i64)] t)) w' = g33_l57_x2 u0 t w' := by kernel_rfl
  exact h1.trans (h2.trans h3)

theorem g33_l7_x0_of {u0 : Option Addr} {s t : (Option Addr × Nat × Nat) × Int} {w w' : World} (h : loopS (g33_l7_b u0) s w = some (.exit 0, t, w')) : g33_l7 u0 s w = g33_l7_x0 u0 t w' := by
  have h1 : g33_l7 u0 s w = loopM Try.prog 123 33 g33_ann (cAt [1, 1, 0, 1, 0, 0] (bodyOf Try.f33)) [0, 1, 0, 1, 1] g33_K46 ((g33_l7_cs u0) ++ sputs [(3, .sl), (4, .i .i64)] s) w := by kernel_rfl
  have h2 : loopM Try.prog 123 33 g33_ann (cAt [1, 1, 0, 1, 0, 0] (bodyOf Try.f33)) [0, 1, 0, 1, 1] g33_K46 ((g33_l7_cs u0) ++ sputs [(3, .sl), (4, .i .i64)] s) w = g33_K46 (.exit 0) (puts 123 ((g33_l7_cs u0) ++ sputs [(3, .sl), (4, .i .i64)] t)) w' :=
    loop_rule (P := Try.prog) (N := 123) (f := 33) (ann := g33_ann) (body := (cAt [1, 1, 0, 1, 0, 0] (bodyOf Try.f33))) (pt := [0, 1, 0, 1, 1]) (K := g33_K46) (g33_l7_cs u0) [(3, .sl), (4, .i .i64)] (b := g33_l7_b u0) (fun s w => by kernel_rfl) (by kernel_rfl) (by kernel_rfl) (by kernel_rfl) h
  have h3 : g33_K46 (.exit 0) (puts 123 ((g33_l7_cs u0) ++ sputs [(3, .sl), (4, .i .i64)] t)) w' = g33_l7_x0 u0 t w' := by kernel_rfl
  exact h1.trans (h2.trans h3)

/-! 61: (*penstock/penstockref13.Image).rises (m: *penstockref13.Image, l: []int) -/
def g61_ann : List (List Nat × List Nat) := [([0, 1, 0, 1, 1, 1], [0, 1, 4, 5, 6])]

def g61_l2_cs (u0 : Option Addr) (u1 : Option Addr × Nat × Nat) : List (Nat × Value) := ([(0, .pointer u0), (1, .slice u1.1 u1.2.1 u1.2.2)] : List (Nat × Value))

/-- the round of a loop ((*penstock/penstockref13.Image).rises) -/
noncomputable def g61_l2_b (u1 : Option Addr × Nat × Nat) (u0 : Option Addr) (s3 : Bool × Int × Int) (w4 : World) : Option (Exit × (Bool × Int × Int) × World) :=
if (decide ((s3.2.2 : Int) < (u1.2.1 : Int))) = true then
((idxA u1.1 u1.2.1 1 s3.2.2).bind fun a6 =>
(World.cell? (World.drew w4) a6).bind fun v7 =>
(asI .i64 v7).bind fun n8 =>
if (decide ((n8 : Int) ≤ s3.2.1)) = true then
(some (.ret, (false, s3.2.1, s3.2.2), (World.drew w4)))
else
((idxA u1.1 u1.2.1 1 s3.2.2).bind fun a9 =>
(World.cell? (World.drew w4) a9).bind fun v10 =>
(asI .i64 v10).bind fun n11 =>
u0.bind fun a12 =>
(World.cell? (World.drew w4) a12).bind fun v13 =>
(asSl v13).bind fun q14 =>
if (decide ((n11 : Int) ≥ (q14.2.1 : Int))) = true then
(some (.ret, (false, s3.2.1, s3.2.2), (World.drew w4)))
else
((idxA u1.1 u1.2.1 1 s3.2.2).bind fun a16 =>
(World.cell? (World.drew w4) a16).bind fun v17 =>
(asI .i64 v17).bind fun n18 =>
some (.normal, (s3.1, n18, (IntKind.i64.wrap (s3.2.2 + 1))), (World.drew w4)))))
else
(some ((.exit 0), (s3.1, s3.2.1, s3.2.2), w4))

noncomputable def g61_K19  : Exit → Env → World → Option (Value × World) :=
  retK Try.prog Try.f61.results.toList

noncomputable def g61_K20  : Exit → Env → World → Option (Value × World) :=
  seqK (ev Try.prog 38 61 g61_ann (cAt [1, 1, 1, 1] (bodyOf Try.f61)) [1, 1, 1, 1] g61_K19) g61_K19

noncomputable def g61_K21  : Exit → Env → World → Option (Value × World) :=
  blkK 0 g61_K20

/-- the loop, from a state on -/
noncomputable def g61_l2 (u0 : Option Addr) (u1 : Option Addr × Nat × Nat) (s : Bool × Int × Int) (w : World) : Option (Value × World) :=
  loopM Try.prog 38 61 g61_ann (cAt [1, 1, 1, 0, 1, 0, 0] (bodyOf Try.f61)) [0, 1, 0, 1, 1, 1] g61_K21 ((g61_l2_cs u0 u1) ++ sputs [(4, .b), (5, .i .i64), (6, .i .i64)] s) w

/-- behind the loop, left by x0 -/
noncomputable def g61_l2_x0  (t22 : Bool × Int × Int) (w23 : World) : Option (Value × World) :=
some (.bool true, w23)

/-- behind the loop, left by ret -/
noncomputable def g61_l2_ret  (t24 : Bool × Int × Int) (w25 : World) : Option (Value × World) :=
some (.bool t24.1, w25)

noncomputable def g61 (u0 : Option Addr) (u1 : Option Addr × Nat × Nat) (w0 : World) : Option (Value × World) :=
if (((u1.2.1 : Int) : Int) == 0) = true then
(some (.bool false, w0))
else
(g61_l2 u0 u1 (false, (-1), 0) w0)

theorem g61_eq (u0 : Option Addr) (u1 : Option Addr × Nat × Nat) (w0 : World) : evFn Try.prog 61 g61_ann #[.pointer u0, .slice u1.1 u1.2.1 u1.2.2] w0 = g61 u0 u1 w0 := by kernel_rfl

theorem g61_call {u0 : Option Addr} {u1 : Option Addr × Nat × Nat} {w0 : World} {r : Value × World} (h : g61 u0 u1 w0 = some r) : callF Try.prog 61 #[.pointer u0, .slice u1.1 u1.2.1 u1.2.2] w0 = some r :=
  callF_of_evFn (ann := g61_ann) Try.call61 (by kernel_rfl) ((g61_eq u0 u1 w0).trans h)

theorem g61_l2_x0_of {u0 : Option Addr} {u1 : Option Addr × Nat × Nat} {s t : Bool × Int × Int} {w w' : World} (h : loopS (g61_l2_b u1 u0) s w = some (.exit 0, t, w')) : g61_l2 u0 u1 s w = g61_l2_x0 t w' := by
  have h1 : g61_l2 u0 u1 s w = loopM Try.prog 38 61 g61_ann (cAt [1, 1, 1, 0, 1, 0, 0] (bodyOf Try.f61)) [0, 1, 0, 1, 1, 1] g61_K21 ((g61_l2_cs u0 u1) ++ sputs [(4, .b), (5, .i .i64), (6, .i .i64)] s) w := by kernel_rfl
  have h2 : loopM Try.prog 38 61 g61_ann (cAt [1, 1, 1, 0, 1, 0, 0] (bodyOf Try.f61)) [0, 1, 0, 1, 1, 1] g61_K21 ((g61_l2_cs u0 u1) ++ sputs [(4, .b), (5, .i .i64), (6, .i .i64)] s) w = g61_K21 (.exit 0) (puts 38 ((g61_l2_cs u0 u1) ++ sputs [(4, .b), (5, .i .i64), (6, .i .i64)] t)) w' :=
    loop_rule (P := Try.prog) (N := 38) (f := 61) (ann := g61_ann) (body := (cAt [1, 1, 1, 0, 1, 0, 0] (bodyOf Try.f61))) (pt := [0, 1, 0, 1, 1, 1]) (K := g61_K21) (g61_l2_cs u0 u1) [(4, .b), (5, .i .i64), (6, .i .i64)] (b := g61_l2_b u1 u0) (fun s w => by kernel_rfl) (by kernel_rfl) (by kernel_rfl) (by kernel_rfl) h
  have h3 : g61_K21 (.exit 0) (puts 38 ((g61_l2_cs u0 u1) ++ sputs [(4, .b), (5, .i .i64), (6, .i .i64)] t)) w' = g61_l2_x0 t w' := by kernel_rfl
  exact h1.trans (h2.trans h3)

theorem g61_l2_ret_of {u0 : Option Addr} {u1 : Option Addr × Nat × Nat} {s t : Bool × Int × Int} {w w' : World} (h : loopS (g61_l2_b u1 u0) s w = some (.ret, t, w')) : g61_l2 u0 u1 s w = g61_l2_ret t w' := by
  have h1 : g61_l2 u0 u1 s w = loopM Try.prog 38 61 g61_ann (cAt [1, 1, 1, 0, 1, 0, 0] (bodyOf Try.f61)) [0, 1, 0, 1, 1, 1] g61_K21 ((g61_l2_cs u0 u1) ++ sputs [(4, .b), (5, .i .i64), (6, .i .i64)] s) w := by kernel_rfl
  have h2 : loopM Try.prog 38 61 g61_ann (cAt [1, 1, 1, 0, 1, 0, 0] (bodyOf Try.f61)) [0, 1, 0, 1, 1, 1] g61_K21 ((g61_l2_cs u0 u1) ++ sputs [(4, .b), (5, .i .i64), (6, .i .i64)] s) w = g61_K21 (.ret) (puts 38 ((g61_l2_cs u0 u1) ++ sputs [(4, .b), (5, .i .i64), (6, .i .i64)] t)) w' :=
    loop_rule (P := Try.prog) (N := 38) (f := 61) (ann := g61_ann) (body := (cAt [1, 1, 1, 0, 1, 0, 0] (bodyOf Try.f61))) (pt := [0, 1, 0, 1, 1, 1]) (K := g61_K21) (g61_l2_cs u0 u1) [(4, .b), (5, .i .i64), (6, .i .i64)] (b := g61_l2_b u1 u0) (fun s w => by kernel_rfl) (by kernel_rfl) (by kernel_rfl) (by kernel_rfl) h
  have h3 : g61_K21 (.ret) (puts 38 ((g61_l2_cs u0 u1) ++ sputs [(4, .b), (5, .i .i64), (6, .i .i64)] t)) w' = g61_l2_ret t w' := by kernel_rfl
  exact h1.trans (h2.trans h3)

/-! 64: (*penstock/image.Image).sound (m: *image.Image, next: uint64) -/
def g64_ann : List (List Nat × List Nat) := [([0, 1, 0, 1, 1], [0, 39, 40, 4, 41])]

def g64_l16_cs (u0 : Option Addr) (q14 : Option Addr × Nat × Nat) : List (Nat × Value) := ([(0, .pointer u0), (39, .slice q14.1 q14.2.1 q14.2.2), (40, .int .i64 (q14.2.1 : Int))] : List (Nat × Value))

/-- the round of a loop ((*penstock/image.Image).sound) -/
noncomputable def g64_l16_b (q14 : Option Addr × Nat × Nat) (u0 : Option Addr) (s17 : Bool × Int) (w18 : World) : Option (Exit × (Bool × Int) × World) :=
if (decide ((s17.2 : Int) < (q14.2.1 : Int))) = true then
((idxA q14.1 q14.2.1 6 s17.2).bind fun a19 =>
(ldN w18 a19 0 6).bind fun l20 =>
(asI .i64 (l20.getD 0 undef)).bind fun n21 =>
(asI .i64 (l20.getD 1 undef)).bind fun n22 =>
(asI .i64 (l20.getD 2 undef)).bind fun n23 =>
(asSl (l20.getD 3 undef)).bind fun q24 =>
(asSl (l20.getD 4 undef)).bind fun q25 =>
(asSl (l20.getD 5 undef)).bind fun q26 =>
(stL (World.alloc w18 (.cells #[.int .i64 0, .int .i64 0, .int .i64 0, .slice none 0 0, .slice none 0 0, .slice none 0 0] 30)) (⟨w18.heap.size, 0, none⟩) [.int .i64 n21, .int .i64 n22, .int .i64 n23, .slice q24.1 q24.2.1 q24.2.2, .slice q25.1 q25.2.1 q25.2.2, .slice q26.1 q26.2.1 q26.2.2] 0).bind fun w27 =>
(World.cell? (World.drew w27) (Addr.add (⟨w18.heap.size, 0, none⟩) 3)).bind fun v28 =>
(asSl v28).bind fun q29 =>
(callF Try.prog 75 #[.pointer u0, .slice q29.1 q29.2.1 q29.2.2] (World.drew w27)).bind fun r30 =>
(asB r30.1).bind fun b31 =>
if (!b31) = true then
(some (.ret, (false, s17.2), r30.2))
else
((World.cell? r30.2 (Addr.add (⟨w18.heap.size, 0, none⟩) 4)).bind fun v32 =>
(asSl v32).bind fun q33 =>
(callF Try.prog 75 #[.pointer u0, .slice q33.1 q33.2.1 q33.2.2] r30.2).bind fun r34 =>
(asB r34.1).bind fun b35 =>
if (!b35) = true then
(some (.ret, (false, s17.2), r34.2))
else
((World.cell? r34.2 (Addr.add (⟨w18.heap.size, 0, none⟩) 5)).bind fun v36 =>
(asSl v36).bind fun q37 =>
if (decide (((q37.2.1 : Int) : Int) > 0)) = true then
((World.cell? r34.2 (Addr.add (⟨w18.heap.size, 0, none⟩) 5)).bind fun v39 =>
(asSl v39).bind fun q40 =>
(callF Try.prog 75 #[.pointer u0, .slice q40.1 q40.2.1 q40.2.2] r34.2).bind fun r41 =>
(asB r41.1).bind fun b42 =>
if (!b42) = true then
(some (.ret, (false, s17.2), r41.2))
else
((World.cell? r41.2 (⟨w18.heap.size, 0, none⟩)).bind fun v43 =>
(asI .i64 v43).bind fun n44 =>
if (decide ((n44 : Int) < (-1))) = true then
(some (.ret, (false, s17.2), r41.2))
else
((World.cell? r41.2 (⟨w18.heap.size, 0, none⟩)).bind fun v45 =>
(asI .i64 v45).bind fun n46 =>
u0.bind fun a47 =>
(World.cell? r41.2 a47).bind fun v48 =>
(asSl v48).bind fun q49 =>
if (decide ((n46 : Int) ≥ (q49.2.1 : Int))) = true then
(some (.ret, (false, s17.2), r41.2))
else
((World.cell? r41.2 (Addr.add (⟨w18.heap.size, 0, none⟩) 1)).bind fun v51 =>
(asI .i64 v51).bind fun n52 =>
if (decide ((n52 : Int) < 0)) = true then
(some (.ret, (false, s17.2), r41.2))
else
((World.cell? r41.2 (Addr.add (⟨w18.heap.size, 0, none⟩) 2)).bind fun v53 =>
(asI .i64 v53).bind fun n54 =>
if (decide ((n54 : Int) < 0)) = true then
(some (.ret, (false, s17.2), r41.2))
else
(some (.normal, (s17.1, (IntKind.i64.wrap (s17.2 + 1))), r41.2)))))))
else
((World.cell? r34.2 (⟨w18.heap.size, 0, none⟩)).bind fun v55 =>
(asI .i64 v55).bind fun n56 =>
if (decide ((n56 : Int) < (-1))) = true then
(some (.ret, (false, s17.2), r34.2))
else
((World.cell? r34.2 (⟨w18.heap.size, 0, none⟩)).bind fun v57 =>
(asI .i64 v57).bind fun n58 =>
u0.bind fun a59 =>
(World.cell? r34.2 a59).bind fun v60 =>
(asSl v60).bind fun q61 =>
if (decide ((n58 : Int) ≥ (q61.2.1 : Int))) = true then
(some (.ret, (false, s17.2), r34.2))
else
((World.cell? r34.2 (Addr.add (⟨w18.heap.size, 0, none⟩) 1)).bind fun v63 =>
(asI .i64 v63).bind fun n64 =>
if (decide ((n64 : Int) < 0)) = true then
(some (.ret, (false, s17.2), r34.2))
else
((World.cell? r34.2 (Addr.add (⟨w18.heap.size, 0, none⟩) 2)).bind fun v65 =>
(asI .i64 v65).bind fun n66 =>
if (decide ((n66 : Int) < 0)) = true then
(some (.ret, (false, s17.2), r34.2))
else
(some (.normal, (s17.1, (IntKind.i64.wrap (s17.2 + 1))), r34.2)))))))))
else
(some ((.exit 0), (s17.1, s17.2), w18))

noncomputable def g64_K67  : Exit → Env → World → Option (Value × World) :=
  retK Try.prog Try.f64.results.toList

noncomputable def g64_K68  : Exit → Env → World → Option (Value × World) :=
  seqK (ev Try.prog 96 64 g64_ann (cAt [1, 1, 1] (bodyOf Try.f64)) [1, 1, 1] g64_K67) g64_K67

noncomputable def g64_K69  : Exit → Env → World → Option (Value × World) :=
  blkK 0 g64_K68

/-- the loop, from a state on -/
noncomputable def g64_l16 (u0 : Option Addr) (q14 : Option Addr × Nat × Nat) (s : Bool × Int) (w : World) : Option (Value × World) :=
  loopM Try.prog 96 64 g64_ann (cAt [1, 1, 0, 1, 0, 0] (bodyOf Try.f64)) [0, 1, 0, 1, 1] g64_K69 ((g64_l16_cs u0 q14) ++ sputs [(4, .b), (41, .i .i64)] s) w

/-- behind the loop, left by x0 -/
noncomputable def g64_l16_x0  (t70 : Bool × Int) (w71 : World) : Option (Value × World) :=
some (.bool true, w71)

/-- behind the loop, left by ret -/
noncomputable def g64_l16_ret  (t72 : Bool × Int) (w73 : World) : Option (Value × World) :=
some (.bool t72.1, w73)

noncomputable def g64 (u0 : Option Addr) (u1 : Int) (w0 : World) : Option (Value × World) :=
u0.bind fun a1 =>
(World.cell? w0 a1).bind fun v2 =>
(asSl v2).bind fun q3 =>
if (((q3.2.1 : Int) : Int) == 0) = true then
(some (.bool false, w0))
else
(u0.bind fun a5 =>
(World.cell? w0 (Addr.add a5 1)).bind fun v6 =>
(asSl v6).bind fun q7 =>
if (((q7.2.1 : Int) : Int) == 0) = true then
(some (.bool false, w0))
else
(if (decide ((u1 : Int) < 1)) = true then
(some (.bool false, w0))
else
(if (decide ((u1 : Int) > 1001)) = true then
(some (.bool false, w0))
else
(u0.bind fun a9 =>
(World.cell? w0 (Addr.add a9 3)).bind fun v10 =>
(asI .i64 v10).bind fun n11 =>
if (decide ((n11 : Int) < 0)) = true then
(some (.bool false, w0))
else
(u0.bind fun a12 =>
(World.cell? w0 (Addr.add a12 1)).bind fun v13 =>
(asSl v13).bind fun q14 =>
g64_l16 u0 q14 (false, 0) w0)))))

theorem g64_eq (u0 : Option Addr) (u1 : Int) (w0 : World) : evFn Try.prog 64 g64_ann #[.pointer u0, .int .u64 u1] w0 = g64 u0 u1 w0 := by kernel_rfl

theorem g64_call {u0 : Option Addr} {u1 : Int} {w0 : World} {r : Value × World} (h : g64 u0 u1 w0 = some r) : callF Try.prog 64 #[.pointer u0, .int .u64 u1] w0 = some r :=
  callF_of_evFn (ann := g64_ann) Try.call64 (by kernel_rfl) ((g64_eq u0 u1 w0).trans h)

theorem g64_l16_x0_of {u0 : Option Addr} {q14 : Option Addr × Nat × Nat} {s t : Bool × Int} {w w' : World} (h : loopS (g64_l16_b q14 u0) s w = some (.exit 0, t, w')) : g64_l16 u0 q14 s w = g64_l16_x0 t w' := by
  have h1 : g64_l16 u0 q14 s w = loopM Try.prog 96 64 g64_ann (cAt [1, 1, 0, 1, 0, 0] (bodyOf Try.f64)) [0, 1, 0, 1, 1] g64_K69 ((g64_l16_cs u0 q14) ++ sputs [(4, .b), (41, .i .i64)] s) w := by kernel_rfl
  have h2 : loopM Try.prog 96 64 g64_ann (cAt [1, 1, 0, 1, 0, 0] (bodyOf Try.f64)) [0, 1, 0, 1, 1] g64_K69 ((g64_l16_cs u0 q14) ++ sputs [(4, .b), (41, .i .i64)] s) w = g64_K69 (.exit 0) (puts 96 ((g64_l16_cs u0 q14) ++ sputs [(4, .b), (41, .i .i64)] t)) w' :=
    loop_rule (P := Try.prog) (N := 96) (f := 64) (ann := g64_ann) (body := (cAt [1, 1, 0, 1, 0, 0] (bodyOf Try.f64))) (pt := [0, 1, 0, 1, 1]) (K := g64_K69) (g64_l16_cs u0 q14) [(4, .b), (41, .i .i64)] (b := g64_l16_b q14 u0) (fun s w => by kernel_rfl) (by kernel_rfl) (by kernel_rfl) (by kernel_rfl) h
  have h3 : g64_K69 (.exit 0) (puts 96 ((g64_l16_cs u0 q14) ++ sputs [(4, .b), (41, .i .i64)] t)) w' = g64_l16_x0 t w' := by kernel_rfl
  exact h1.trans (h2.trans h3)

theorem g64_l16_ret_of {u0 : Option Addr} {q14 : Option Addr × Nat × Nat} {s t : Bool × Int} {w w' : World} (h : loopS (g64_l16_b q14 u0) s w = some (.ret, t, w')) : g64_l16 u0 q14 s w = g64_l16_ret t w' := by
  have h1 : g64_l16 u0 q14 s w = loopM Try.prog 96 64 g64_ann (cAt [1, 1, 0, 1, 0, 0] (bodyOf Try.f64)) [0, 1, 0, 1, 1] g64_K69 ((g64_l16_cs u0 q14) ++ sputs [(4, .b), (41, .i .i64)] s) w := by kernel_rfl
  have h2 : loopM Try.prog 96 64 g64_ann (cAt [1, 1, 0, 1, 0, 0] (bodyOf Try.f64)) [0, 1, 0, 1, 1] g64_K69 ((g64_l16_cs u0 q14) ++ sputs [(4, .b), (41, .i .i64)] s) w = g64_K69 (.ret) (puts 96 ((g64_l16_cs u0 q14) ++ sputs [(4, .b), (41, .i .i64)] t)) w' :=
    loop_rule (P := Try.prog) (N := 96) (f := 64) (ann := g64_ann) (body := (cAt [1, 1, 0, 1, 0, 0] (bodyOf Try.f64))) (pt := [0, 1, 0, 1, 1]) (K := g64_K69) (g64_l16_cs u0 q14) [(4, .b), (41, .i .i64)] (b := g64_l16_b q14 u0) (fun s w => by kernel_rfl) (by kernel_rfl) (by kernel_rfl) (by kernel_rfl) h
  have h3 : g64_K69 (.ret) (puts 96 ((g64_l16_cs u0 q14) ++ sputs [(4, .b), (41, .i .i64)] t)) w' = g64_l16_ret t w' := by kernel_rfl
  exact h1.trans (h2.trans h3)

end Go.Proofs.Ytjcenfgmpbeldaa
