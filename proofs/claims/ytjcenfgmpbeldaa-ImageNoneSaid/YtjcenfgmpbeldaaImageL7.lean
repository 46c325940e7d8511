/-
  ImageL7: lemmas on what Go functions of this seat come to (for whatever arguments, as each says). No condition but those that stand in each lemma.
-/
import Derived.Test.YtjcenfgmpbeldaaImageT
namespace Go.Proofs.Ytjcenfgmpbeldaa
open Go Go.Ev
set_option maxRecDepth 100000
set_option linter.unusedVariables false
/-! 24: (*penstock/image.Image).Bytes (m: *image.Image) -/
def g24_ann : List (List Nat × List Nat) := [([0, 1, 0, 1, 1, 1, 1], [0, 4, 27, 28, 29]), ([0, 1, 0, 1, 1, 1, 1, 1, 1], [0, 4, 57, 58, 59]), ([0, 1, 1, 1, 1, 1, 0, 0, 1, 1, 0, 0, 1, 0, 1, 1, 1, 1, 1, 1], [0, 4, 57, 58, 59, 81, 82, 83])]

def g24_l12_cs (u0 : Option Addr) (p2 : Option Addr) (q10 : Option Addr × Nat × Nat) : List (Nat × Value) := ([(0, .pointer u0), (4, .pointer p2), (27, .slice q10.1 q10.2.1 q10.2.2), (28, .int .i64 (q10.2.1 : Int))] : List (Nat × Value))

/-- the round of a loop ((*penstock/image.Image).Bytes) -/
noncomputable def g24_l12_b (q10 : Option Addr × Nat × Nat) (p2 : Option Addr) (u0 : Option Addr) (s13 : Int) (w14 : World) : Option (Exit × (Int) × World) :=
if (decide ((s13 : Int) < (q10.2.1 : Int))) = true then
((idxA q10.1 q10.2.1 3 s13).bind fun a15 =>
(ldN w14 a15 0 3).bind fun l16 =>
(asB (l16.getD 0 undef)).bind fun b17 =>
(asI .i64 (l16.getD 1 undef)).bind fun n18 =>
(asI .u64 (l16.getD 2 undef)).bind fun n19 =>
(stL (World.alloc w14 (.cells #[.bool false, .int .i64 0, .int .u64 0] 85)) (⟨w14.heap.size, 0, none⟩) [.bool b17, .int .i64 n18, .int .u64 n19] 0).bind fun w20 =>
(World.cell? w20 (⟨w14.heap.size, 0, none⟩)).bind fun v21 =>
(asB v21).bind fun b22 =>
(callF Try.prog 46 #[.pointer p2, .bool b22] w20).bind fun r23 =>
(asTup 0 r23.1).bind fun _ =>
(World.cell? r23.2 (Addr.add (⟨w14.heap.size, 0, none⟩) 1)).bind fun v24 =>
(asI .i64 v24).bind fun n25 =>
(callF Try.prog 47 #[.pointer p2, .int .i64 n25] r23.2).bind fun r26 =>
(asTup 0 r26.1).bind fun _ =>
(World.cell? r26.2 (Addr.add (⟨w14.heap.size, 0, none⟩) 2)).bind fun v27 =>
(asI .u64 v27).bind fun n28 =>
(callF Try.prog 45 #[.pointer p2, .int .u64 n28] r26.2).bind fun r29 =>
(asTup 0 r29.1).bind fun _ =>
some (.normal, (IntKind.i64.wrap (s13 + 1)), r29.2))
else
(some ((.exit 0), s13, w14))

noncomputable def g24_K30  : Exit → Env → World → Option (Value × World) :=
  retK Try.prog Try.f24.results.toList

noncomputable def g24_K31  : Exit → Env → World → Option (Value × World) :=
  seqK (ev Try.prog 113 24 g24_ann (cAt [1, 1, 1, 1, 1] (bodyOf Try.f24)) [1, 1, 1, 1, 1] g24_K30) g24_K30

noncomputable def g24_K32  : Exit → Env → World → Option (Value × World) :=
  blkK 0 g24_K31

/-- the loop, from a state on -/
noncomputable def g24_l12 (u0 : Option Addr) (p2 : Option Addr) (q10 : Option Addr × Nat × Nat) (s : Int) (w : World) : Option (Value × World) :=
  loopM Try.prog 113 24 g24_ann (cAt [1, 1, 1, 1, 0, 1, 0, 0] (bodyOf Try.f24)) [0, 1, 0, 1, 1, 1, 1] g24_K32 ((g24_l12_cs u0 p2 q10) ++ sputs [(29, .i .i64)] s) w

def g24_l44_cs (u0 : Option Addr) (p2 : Option Addr) (q42 : Option Addr × Nat × Nat) : List (Nat × Value) := ([(0, .pointer u0), (4, .pointer p2), (57, .slice q42.1 q42.2.1 q42.2.2), (58, .int .i64 (q42.2.1 : Int))] : List (Nat × Value))

def g24_l72_cs (u0 : Option Addr) (p2 : Option Addr) (q42 : Option Addr × Nat × Nat) (s45 : Int) (r64 : Value × World) : List (Nat × Value) := ([(0, .pointer u0), (4, .pointer p2), (57, .slice q42.1 q42.2.1 q42.2.2), (58, .int .i64 (q42.2.1 : Int)), (59, .int .i64 s45), (81, .slice (some (⟨r64.2.heap.size, 0, none⟩)) 3 3), (82, .int .i64 3)] : List (Nat × Value))

/-- the round of a loop ((*penstock/image.Image).Bytes) -/
noncomputable def g24_l72_b (r64 : Value × World) (p2 : Option Addr) (u0 : Option Addr) (q42 : Option Addr × Nat × Nat) (s45 : Int) (s73 : Int) (w74 : World) : Option (Exit × (Int) × World) :=
if (decide ((s73 : Int) < 3)) = true then
((idxA (some (⟨r64.2.heap.size, 0, none⟩)) 3 1 s73).bind fun a75 =>
(World.cell? w74 a75).bind fun v76 =>
(asSl v76).bind fun q77 =>
(callF Try.prog 48 #[.pointer p2, .slice q77.1 q77.2.1 q77.2.2] w74).bind fun r78 =>
(asTup 0 r78.1).bind fun _ =>
some (.normal, (IntKind.i64.wrap (s73 + 1)), r78.2))
else
(some ((.exit 4), s73, w74))

noncomputable def g24_K79 (u0 : Option Addr) (p2 : Option Addr) (q42 : Option Addr × Nat × Nat) : Exit → Env → World → Option (Exit × (Int) × World) :=
  fun e ρ w => ((List.map (·.1) (g24_l44_cs u0 p2 q42)).mapM ρ).bind fun _ => loopK [(59, .i .i64)] e ρ w

noncomputable def g24_K80 (u0 : Option Addr) (p2 : Option Addr) (q42 : Option Addr × Nat × Nat) : Exit → Env → World → Option (Exit × (Int) × World) :=
  seqK (ev Try.prog 113 24 g24_ann (cAt [1, 1, 1, 1, 1, 1, 0, 1, 0, 0, 1, 1, 1] (bodyOf Try.f24)) [1, 1, 1, 0, 0, 1, 0, 1, 1, 1, 1, 1, 1] (g24_K79 u0 p2 q42)) (g24_K79 u0 p2 q42)

noncomputable def g24_K81 (u0 : Option Addr) (p2 : Option Addr) (q42 : Option Addr × Nat × Nat) : Exit → Env → World → Option (Exit × (Int) × World) :=
  blkK 3 (g24_K80 u0 p2 q42)

noncomputable def g24_K82 (u0 : Option Addr) (p2 : Option Addr) (q42 : Option Addr × Nat × Nat) : Exit → Env → World → Option (Exit × (Int) × World) :=
  blkK 4 (g24_K81 u0 p2 q42)

/-- the loop, from a state on -/
noncomputable def g24_l72 (u0 : Option Addr) (p2 : Option Addr) (q42 : Option Addr × Nat × Nat) (s45 : Int) (r64 : Value × World) (s : Int) (w : World) : Option (Exit × (Int) × World) :=
  loopM Try.prog 113 24 g24_ann (cAt [1, 1, 1, 1, 1, 1, 0, 1, 0, 0, 1, 1, 0, 0, 1, 1, 1, 1, 1, 0, 0] (bodyOf Try.f24)) [0, 1, 1, 1, 1, 1, 0, 0, 1, 1, 0, 0, 1, 0, 1, 1, 1, 1, 1, 1] (g24_K82 u0 p2 q42) ((g24_l72_cs u0 p2 q42 s45 r64) ++ sputs [(83, .i .i64)] s) w

/-- behind the loop, left by x4 -/
noncomputable def g24_l72_x4 (s45 : Int) (t83 : Int) (w84 : World) : Option (Exit × (Int) × World) :=
some (.normal, (IntKind.i64.wrap (s45 + 1)), w84)

/-- the round of a loop ((*penstock/image.Image).Bytes) -/
noncomputable def g24_l44_b (q42 : Option Addr × Nat × Nat) (p2 : Option Addr) (u0 : Option Addr) (s45 : Int) (w46 : World) : Option (Exit × (Int) × World) :=
if (decide ((s45 : Int) < (q42.2.1 : Int))) = true then
((idxA q42.1 q42.2.1 6 s45).bind fun a47 =>
(ldN w46 a47 0 6).bind fun l48 =>
(asI .i64 (l48.getD 0 undef)).bind fun n49 =>
(asI .i64 (l48.getD 1 undef)).bind fun n50 =>
(asI .i64 (l48.getD 2 undef)).bind fun n51 =>
(asSl (l48.getD 3 undef)).bind fun q52 =>
(asSl (l48.getD 4 undef)).bind fun q53 =>
(asSl (l48.getD 5 undef)).bind fun q54 =>
(stL (World.alloc w46 (.cells #[.int .i64 0, .int .i64 0, .int .i64 0, .slice none 0 0, .slice none 0 0, .slice none 0 0] 30)) (⟨w46.heap.size, 0, none⟩) [.int .i64 n49, .int .i64 n50, .int .i64 n51, .slice q52.1 q52.2.1 q52.2.2, .slice q53.1 q53.2.1 q53.2.2, .slice q54.1 q54.2.1 q54.2.2] 0).bind fun w55 =>
(World.cell? w55 (⟨w46.heap.size, 0, none⟩)).bind fun v56 =>
(asI .i64 v56).bind fun n57 =>
(callF Try.prog 47 #[.pointer p2, .int .i64 n57] w55).bind fun r58 =>
(asTup 0 r58.1).bind fun _ =>
(World.cell? r58.2 (Addr.add (⟨w46.heap.size, 0, none⟩) 1)).bind fun v59 =>
(asI .i64 v59).bind fun n60 =>
(callF Try.prog 47 #[.pointer p2, .int .i64 n60] r58.2).bind fun r61 =>
(asTup 0 r61.1).bind fun _ =>
(World.cell? r61.2 (Addr.add (⟨w46.heap.size, 0, none⟩) 2)).bind fun v62 =>
(asI .i64 v62).bind fun n63 =>
(callF Try.prog 47 #[.pointer p2, .int .i64 n63] r61.2).bind fun r64 =>
(asTup 0 r64.1).bind fun _ =>
(World.cell? r64.2 (Addr.add (⟨w46.heap.size, 0, none⟩) 3)).bind fun v65 =>
(asSl v65).bind fun q66 =>
(World.cell? r64.2 (Addr.add (⟨w46.heap.size, 0, none⟩) 4)).bind fun v67 =>
(asSl v67).bind fun q68 =>
(World.cell? r64.2 (Addr.add (⟨w46.heap.size, 0, none⟩) 5)).bind fun v69 =>
(asSl v69).bind fun q70 =>
g24_l72 u0 p2 q42 s45 r64 0 (World.alloc r64.2 (.cells #[.slice q66.1 q66.2.1 q66.2.2, .slice q68.1 q68.2.1 q68.2.2, .slice q70.1 q70.2.1 q70.2.2] 28)))
else
(some ((.exit 2), s45, w46))

noncomputable def g24_K85  : Exit → Env → World → Option (Value × World) :=
  seqK (ev Try.prog 113 24 g24_ann (cAt [1, 1, 1, 1, 1, 1, 1] (bodyOf Try.f24)) [1, 1, 1, 1, 1, 1, 1] g24_K30) g24_K30

noncomputable def g24_K86  : Exit → Env → World → Option (Value × World) :=
  blkK 2 g24_K85

/-- the loop, from a state on -/
noncomputable def g24_l44 (u0 : Option Addr) (p2 : Option Addr) (q42 : Option Addr × Nat × Nat) (s : Int) (w : World) : Option (Value × World) :=
  loopM Try.prog 113 24 g24_ann (cAt [1, 1, 1, 1, 1, 1, 0, 1, 0, 0] (bodyOf Try.f24)) [0, 1, 0, 1, 1, 1, 1, 1, 1] g24_K86 ((g24_l44_cs u0 p2 q42) ++ sputs [(59, .i .i64)] s) w

/-- behind the loop, left by x2 -/
noncomputable def g24_l44_x2 (u0 : Option Addr) (p2 : Option Addr) (t87 : Int) (w88 : World) : Option (Value × World) :=
u0.bind fun a89 =>
(World.cell? w88 (Addr.add a89 2)).bind fun v90 =>
(asP v90).bind fun p91 =>
(callF Try.prog 42 #[.pointer p91] w88).bind fun r92 =>
(asTup 2 r92.1).bind fun l93 =>
(asI .u64 (l93.getD 0 undef)).bind fun n94 =>
(asI .u64 (l93.getD 1 undef)).bind fun n95 =>
(callF Try.prog 45 #[.pointer p2, .int .u64 n94] r92.2).bind fun r96 =>
(asTup 0 r96.1).bind fun _ =>
u0.bind fun a97 =>
(World.cell? r96.2 (Addr.add a97 3)).bind fun v98 =>
(asI .i64 v98).bind fun n99 =>
(callF Try.prog 47 #[.pointer p2, .int .i64 n99] r96.2).bind fun r100 =>
(asTup 0 r100.1).bind fun _ =>
(callF Try.prog 49 #[.pointer p2] r100.2).bind fun r101 =>
(asTup 2 r101.1).bind fun l102 =>
(asSl (l102.getD 0 undef)).bind fun q103 =>
(asI .i64 (l102.getD 1 undef)).bind fun n104 =>
some (.tuple #[.slice q103.1 q103.2.1 q103.2.2, .int .i64 n104], r101.2)

/-- behind the loop, left by x0 -/
noncomputable def g24_l12_x0 (u0 : Option Addr) (p2 : Option Addr) (t33 : Int) (w34 : World) : Option (Value × World) :=
u0.bind fun a35 =>
(World.cell? w34 (Addr.add a35 1)).bind fun v36 =>
(asSl v36).bind fun q37 =>
(callF Try.prog 45 #[.pointer p2, .int .u64 (IntKind.u64.wrap (q37.2.1 : Int))] w34).bind fun r39 =>
(asTup 0 r39.1).bind fun _ =>
u0.bind fun a40 =>
(World.cell? r39.2 (Addr.add a40 1)).bind fun v41 =>
(asSl v41).bind fun q42 =>
g24_l44 u0 p2 q42 0 r39.2

noncomputable def g24 (u0 : Option Addr) (w0 : World) : Option (Value × World) :=
if (u0.isNone) = true then
(some (.tuple #[.slice none 0 0, .int .i64 5], w0))
else
((callF Try.prog 44 #[] w0).bind fun r1 =>
(asP r1.1).bind fun p2 =>
u0.bind fun a3 =>
(World.cell? r1.2 a3).bind fun v4 =>
(asSl v4).bind fun q5 =>
(callF Try.prog 45 #[.pointer p2, .int .u64 (IntKind.u64.wrap (q5.2.1 : Int))] r1.2).bind fun r7 =>
(asTup 0 r7.1).bind fun _ =>
u0.bind fun a8 =>
(World.cell? r7.2 a8).bind fun v9 =>
(asSl v9).bind fun q10 =>
g24_l12 u0 p2 q10 0 r7.2)

theorem g24_eq (u0 : Option Addr) (w0 : World) : evFn Try.prog 24 g24_ann #[.pointer u0] w0 = g24 u0 w0 := by kernel_rfl

theorem g24_call {u0 : Option Addr} {w0 : World} {r : Value × World} (h : g24 u0 w0 = some r) : callF Try.prog 24 #[.pointer u0] w0 = some r :=
  callF_of_evFn (ann := g24_ann) Try.call24 (by kernel_rfl) ((g24_eq u0 w0).trans h)

theorem g24_l72_x4_of {u0 : Option Addr} {p2 : Option Addr} {q42 : Option Addr × Nat × Nat} {s45 : Int} {r64 : Value × World} {s t : Int} {w w' : World} (h : loopS (g24_l72_b r64 p2 u0 q42 s45) s w = some (.exit 4, t, w')) : g24_l72 u0 p2 q42 s45 r64 s w = g24_l72_x4 s45 t w' := by
  have h1 : g24_l72 u0 p2 q42 s45 r64 s w = loopM Try.prog 113 24 g24_ann (cAt [1, 1, 1, 1, 1, 1, 0, 1, 0, 0, 1, 1, 0, 0, 1, 1, 1, 1, 1, 0, 0] (bodyOf Try.f24)) [0, 1, 1, 1, 1, 1, 0, 0, 1, 1, 0, 0, 1, 0, 1, 1, 1, 1, 1, 1] (g24_K82 u0 p2 q42) ((g24_l72_cs u0 p2 q42 s45 r64) ++ sputs [(83, .i .i64)] s) w := by kernel_rfl
  have h2 : loopM Try.prog 113 24 g24_ann (cAt [1, 1, 1, 1, 1, 1, 0, 1, 0, 0, 1, 1, 0, 0, 1, 1, 1, 1, 1, 0, 0] (bodyOf Try.f24)) [0, 1, 1, 1, 1, 1, 0, 0, 1, 1, 0, 0, 1, 0, 1, 1, 1, 1, 1, 1] (g24_K82 u0 p2 q42) ((g24_l72_cs u0 p2 q42 s45 r64) ++ sputs [(83, .i .i64)] s) w = (g24_K82 u0 p2 q42) (.exit 4) (puts 113 ((g24_l72_cs u0 p2 q42 s45 r64) ++ sputs [(83, .i .i64)] t)) w' :=
    loop_rule (P := Try.prog) (N := 113) (f := 24) (ann := g24_ann) (body := (cAt [1, 1, 1, 1, 1, 1, 0, 1, 0, 0, 1, 1, 0, 0, 1, 1, 1, 1, 1, 0, 0] (bodyOf Try.f24))) (pt := [0, 1, 1, 1, 1, 1, 0, 0, 1, 1, 0, 0, 1, 0, 1, 1, 1, 1, 1, 1]) (K := (g24_K82 u0 p2 q42)) (g24_l72_cs u0 p2 q42 s45 r64) [(83, .i .i64)] (b := g24_l72_b r64 p2 u0 q42 s45) (fun s w => by kernel_rfl) (by kernel_rfl) (by kernel_rfl) (by kernel_rfl) h
  have h3 : (g24_K82 u0 p2 q42) (.exit 4) (puts 113 ((g24_l72_cs u0 p2 q42 s45 r64) ++ sputs [(83, .i .i64)] t)) w' = g24_l72_x4 s45 t w' := by kernel_rfl
  exact h1.trans (h2.trans h3)

theorem g24_l44_x2_of {u0 : Option Addr} {p2 : Option Addr} {q42 : Option Addr × Nat × Nat} {s t : Int} {w w' : World} (h : loopS (g24_l44_b q42 p2 u0) s w = some (.exit 2, t, w')) : g24_l44 u0 p2 q42 s w = g24_l44_x2 u0 p2 t w' := by
  have h1 : g24_l44 u0 p2 q42 s w = loopM Try.prog 113 24 g24_ann (cAt [1, 1, 1, 1, 1, 1, 0, 1, 0, 0] (bodyOf Try.f24)) [0, 1, 0, 1, 1, 1, 1, 1, 1] g24_K86 ((g24_l44_cs u0 p2 q42) ++ sputs [(59, .i .i64)] s) w := by kernel_rfl
  have h2 : loopM Try.prog 113 24 g24_ann (cAt [1, 1, 1, 1, 1, 1, 0, 1, 0, 0] (bodyOf Try.f24)) [0, 1, 0, 1, 1, 1, 1, 1, 1] g24_K86 ((g24_l44_cs u0 p2 q42) ++ sputs [(59, .i .i64)] s) w = g24_K86 (.exit 2) (puts 113 ((g24_l44_cs u0 p2 q42) ++ sputs [(59, .i .i64)] t)) w' :=
    loop_rule (P := Try.prog) (N := 113) (f := 24) (ann := g24_ann) (body := (cAt [1, 1, 1, 1, 1, 1, 0, 1, 0, 0] (bodyOf Try.f24))) (pt := [0, 1, 0, 1, 1, 1, 1, 1, 1]) (K := g24_K86) (g24_l44_cs u0 p2 q42) [(59, .i .i64)] (b := g24_l44_b q42 p2 u0) (fun s w => by kernel_rfl) (by kernel_rfl) (by kernel_rfl) (by kernel_rfl) h
  have h3 : g24_K86 (.exit 2) (puts 113 ((g24_l44_cs u0 p2 q42) ++ sputs [(59, .i .i64)] t)) w' = g24_l44_x2 u0 p2 t w' := by kernel_rfl
  exact h1.trans (h2.trans h3)

theorem g24_l12_x0_of {u0 : Option Addr} {p2 : Option Addr} {q10 : Option Addr × Nat × Nat} {s t : Int} {w w' : World} (h : loopS (g24_l12_b q10 p2 u0) s w = some (.exit 0, t, w')) : g24_l12 u0 p2 q10 s w = g24_l12_x0 u0 p2 t w' := by
  have h1 : g24_l12 u0 p2 q10 s w = loopM Try.prog 113 24 g24_ann (cAt [1, 1, 1, 1, 0, 1, 0, 0] (bodyOf Try.f24)) [0, 1, 0, 1, 1, 1, 1] g24_K32 ((g24_l12_cs u0 p2 q10) ++ sputs [(29, .i .i64)] s) w := by kernel_rfl
  have h2 : loopM Try.prog 113 24 g24_ann (cAt [1, 1, 1, 1, 0, 1, 0, 0] (bodyOf Try.f24)) [0, 1, 0, 1, 1, 1, 1] g24_K32 ((g24_l12_cs u0 p2 q10) ++ sputs [(29, .i .i64)] s) w = g24_K32 (.exit 0) (puts 113 ((g24_l12_cs u0 p2 q10) ++ sputs [(29, .i .i64)] t)) w' :=
    loop_rule (P := Try.prog) (N := 113) (f := 24) (ann := g24_ann) (body := (cAt [1, 1, 1, 1, 0, 1, 0, 0] (bodyOf Try.f24))) (pt := [0, 1, 0, 1, 1, 1, 1]) (K := g24_K32) (g24_l12_cs u0 p2 q10) [(29, .i .i64)] (b := g24_l12_b q10 p2 u0) (fun s w => by kernel_rfl) (by kernel_rfl) (by kernel_rfl) (by kernel_rfl) h
  have h3 : g24_K32 (.exit 0) (puts 113 ((g24_l12_cs u0 p2 q10) ++ sputs [(29, .i .i64)] t)) w' = g24_l12_x0 u0 p2 t w' := by kernel_rfl
  exact h1.trans (h2.trans h3)

/-! 7: penstock/penstocklaw13.ImageNone (c: api.Cmd, k: int) -/
def g7_ann : List (List Nat × List Nat) := []

noncomputable def g7 (u0c0 : Int) (u0c1 : Int) (u0c2 : Int) (u0c3 : Int) (u0c4 : Int) (u0c5 : Option Addr × Nat × Nat) (u1 : Int) (w0 : World) : Option (Value × World) :=
(callF Try.prog 16 #[.pointer none, .int .i64 u1] (World.alloc w0 (.cells #[.int .i64 u0c0, .int .i64 u0c1, .int .i64 u0c2, .int .i64 u0c3, .int .i64 u0c4, .slice u0c5.1 u0c5.2.1 u0c5.2.2] 33))).bind fun r1 =>
(asTup 3 r1.1).bind fun l2 =>
(asB (l2.getD 0 undef)).bind fun b3 =>
(asI .i64 (l2.getD 1 undef)).bind fun n4 =>
(asI .u64 (l2.getD 2 undef)).bind fun n5 =>
(callF Try.prog 15 #[.pointer none, .int .i64 u1] r1.2).bind fun r6 =>
(asTup 2 r6.1).bind fun l7 =>
(Ev.asAgg 6 (l7.getD 0 undef)).bind fun l8 =>
(asI .i64 (l8.getD 0 undef)).bind fun n9 =>
(asI .i64 (l8.getD 1 undef)).bind fun n10 =>
(asI .i64 (l8.getD 2 undef)).bind fun n11 =>
(asSl (l8.getD 3 undef)).bind fun q12 =>
(asSl (l8.getD 4 undef)).bind fun q13 =>
(asSl (l8.getD 5 undef)).bind fun q14 =>
(asB (l7.getD 1 undef)).bind fun b15 =>
(stL (World.alloc r6.2 (.cells #[.int .i64 0, .int .i64 0, .int .i64 0, .slice none 0 0, .slice none 0 0, .slice none 0 0] 30)) (⟨r6.2.heap.size, 0, none⟩) [.int .i64 n9, .int .i64 n10, .int .i64 n11, .slice q12.1 q12.2.1 q12.2.2, .slice q13.1 q13.2.1 q13.2.2, .slice q14.1 q14.2.1 q14.2.2] 0).bind fun w16 =>
(callF Try.prog 23 #[.pointer none] w16).bind fun r17 =>
(asTup 3 r17.1).bind fun l18 =>
(asI .i64 (l18.getD 0 undef)).bind fun n19 =>
(asI .i64 (l18.getD 1 undef)).bind fun n20 =>
(asI .i64 (l18.getD 2 undef)).bind fun n21 =>
(callF Try.prog 20 #[.pointer none] r17.2).bind fun r22 =>
(asTup 2 r22.1).bind fun l23 =>
(asI .u64 (l23.getD 0 undef)).bind fun n24 =>
(asI .u64 (l23.getD 1 undef)).bind fun n25 =>
(callF Try.prog 24 #[.pointer none] r22.2).bind fun r26 =>
(asTup 2 r26.1).bind fun l27 =>
(asSl (l27.getD 0 undef)).bind fun q28 =>
(asI .i64 (l27.getD 1 undef)).bind fun n29 =>
(callF Try.prog 12 #[] r26.2).bind fun r30 =>
(asB r30.1).bind fun b31 =>
if b31 = true then
((ldN r30.2 (⟨w0.heap.size, 0, none⟩) 0 6).bind fun l32 =>
(asI .i64 (l32.getD 0 undef)).bind fun n33 =>
(asI .i64 (l32.getD 1 undef)).bind fun n34 =>
(asI .i64 (l32.getD 2 undef)).bind fun n35 =>
(asI .i64 (l32.getD 3 undef)).bind fun n36 =>
(asI .i64 (l32.getD 4 undef)).bind fun n37 =>
(asSl (l32.getD 5 undef)).bind fun q38 =>
(callF Try.prog 13 #[.pointer none, .agg #[.int .i64 n33, .int .i64 n34, .int .i64 n35, .int .i64 n36, .int .i64 n37, .slice q38.1 q38.2.1 q38.2.2]] r30.2).bind fun r39 =>
(asI .i64 r39.1).bind fun n40 =>
if ((n40 : Int) == 5) = true then
(if (!b3) = true then
(if ((n4 : Int) == 0) = true then
(if ((n5 : Int) == 0) = true then
(if (!b15) = true then
((World.cell? r39.2 (Addr.add (⟨r6.2.heap.size, 0, none⟩) 3)).bind fun v41 =>
(asSl v41).bind fun q42 =>
if (((q42.2.1 : Int) : Int) == 0) = true then
(if ((n19 : Int) == 0) = true then
(if ((n20 : Int) == 0) = true then
(if ((n21 : Int) == 0) = true then
(if ((n24 : Int) == 0) = true then
(if ((n25 : Int) == 0) = true then
(if (((q28.2.1 : Int) : Int) == 0) = true then
(some (.bool ((n29 : Int) == 5), r39.2))
else
(some (.bool false, r39.2)))
else
(some (.bool false, r39.2)))
else
(some (.bool false, r39.2)))
else
(some (.bool false, r39.2)))
else
(some (.bool false, r39.2)))
else
(some (.bool false, r39.2)))
else
(some (.bool false, r39.2)))
else
(some (.bool false, r39.2)))
else
(some (.bool false, r39.2)))
else
(some (.bool false, r39.2)))
else
(some (.bool false, r39.2)))
else
(some (.bool false, r39.2)))
else
(some (.bool false, r30.2))

theorem g7_eq (u0c0 : Int) (u0c1 : Int) (u0c2 : Int) (u0c3 : Int) (u0c4 : Int) (u0c5 : Option Addr × Nat × Nat) (u1 : Int) (w0 : World) : evFn Try.prog 7 g7_ann #[.agg #[.int .i64 u0c0, .int .i64 u0c1, .int .i64 u0c2, .int .i64 u0c3, .int .i64 u0c4, .slice u0c5.1 u0c5.2.1 u0c5.2.2], .int .i64 u1] w0 = g7 u0c0 u0c1 u0c2 u0c3 u0c4 u0c5 u1 w0 := by kernel_rfl

theorem g7_call {u0c0 : Int} {u0c1 : Int} {u0c2 : Int} {u0c3 : Int} {u0c4 : Int} {u0c5 : Option Addr × Nat × Nat} {u1 : Int} {w0 : World} {r : Value × World} (h : g7 u0c0 u0c1 u0c2 u0c3 u0c4 u0c5 u1 w0 = some r) : callF Try.prog 7 #[.agg #[.int .i64 u0c0, .int .i64 u0c1, .int .i64 u0c2, .int .i64 u0c3, .int .i64 u0c4, .slice u0c5.1 u0c5.2.1 u0c5.2.2], .int .i64 u1] w0 = some r :=
  callF_of_evFn (ann := g7_ann) Try.call7 (by kernel_rfl) ((g7_eq u0c0 u0c1 u0c2 u0c3 u0c4 u0c5 u1 w0).trans h)

end Go.Proofs.Ytjcenfgmpbeldaa
