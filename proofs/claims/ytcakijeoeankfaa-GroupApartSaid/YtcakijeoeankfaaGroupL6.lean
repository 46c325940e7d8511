/-
  GroupL6: lemmas on what Go functions of this seat come to (for whatever arguments, as each says). No condition but those that stand in each lemma.
-/
import Derived.Test.YtcakijeoeankfaaGroupF2
import Derived.Test.YtcakijeoeankfaaGroupV
namespace Go.Proofs.Ytcakijeoeankfaa
open Go Go.Ev
set_option maxRecDepth 100000
set_option linter.unusedVariables false
/-! 6: penstock/penstocklaw16.GroupApart (l: []api.GrRec, n: uint8) -/
def g6_ann : List (List Nat × List Nat) := [([0, 1, 0, 1, 1, 1, 1], [5, 6, 7, 36, 37, 38]), ([0, 1, 0, 1, 1, 1, 1, 1, 1, 1], [5, 6, 7, 12, 13, 14, 15, 16])]

def g6_l8_cs (p2 : Option Addr) (p4 : Option Addr) (u1 : Int) (u0 : Option Addr × Nat × Nat) : List (Nat × Value) := ([(5, .pointer p2), (6, .pointer p4), (7, .int .i64 (IntKind.i64.wrap (Int.tmod u1 8))), (36, .slice u0.1 u0.2.1 u0.2.2), (37, .int .i64 (u0.2.1 : Int))] : List (Nat × Value))

/-- the round of a loop (penstock/penstocklaw16.GroupApart) -/
noncomputable def g6_l8_b (u0 : Option Addr × Nat × Nat) (p2 : Option Addr) (u1 : Int) (p4 : Option Addr) (s9 : Int) (w10 : World) : Option (Exit × (Int) × World) :=
if (decide ((s9 : Int) < (u0.2.1 : Int))) = true then
((idxA u0.1 u0.2.1 6 s9).bind fun a11 =>
(ldN w10 a11 0 6).bind fun l12 =>
(asI .i64 (l12.getD 0 undef)).bind fun n13 =>
(asI .i64 (l12.getD 1 undef)).bind fun n14 =>
(asI .i64 (l12.getD 2 undef)).bind fun n15 =>
(asSl (l12.getD 3 undef)).bind fun q16 =>
(asI .i64 (l12.getD 4 undef)).bind fun n17 =>
(asI .i64 (l12.getD 5 undef)).bind fun n18 =>
(stL (World.alloc w10 (.cells #[.int .i64 0, .int .i64 0, .int .i64 0, .slice none 0 0, .int .i64 0, .int .i64 0] 27)) (⟨w10.heap.size, 0, none⟩) [.int .i64 n13, .int .i64 n14, .int .i64 n15, .slice q16.1 q16.2.1 q16.2.2, .int .i64 n17, .int .i64 n18] 0).bind fun w19 =>
(ldN w19 (⟨w10.heap.size, 0, none⟩) 0 6).bind fun l20 =>
(asI .i64 (l20.getD 0 undef)).bind fun n21 =>
(asI .i64 (l20.getD 1 undef)).bind fun n22 =>
(asI .i64 (l20.getD 2 undef)).bind fun n23 =>
(asSl (l20.getD 3 undef)).bind fun q24 =>
(asI .i64 (l20.getD 4 undef)).bind fun n25 =>
(asI .i64 (l20.getD 5 undef)).bind fun n26 =>
(callF Try.prog 12 #[.agg #[.int .i64 n21, .int .i64 n22, .int .i64 n23, .slice q24.1 q24.2.1 q24.2.2, .int .i64 n25, .int .i64 n26]] w19).bind fun r27 =>
(asTup 2 r27.1).bind fun l28 =>
(asSl (l28.getD 0 undef)).bind fun q29 =>
(asI .i64 (l28.getD 1 undef)).bind fun n30 =>
if ((n30 : Int) != 0) = true then
(some (.normal, (IntKind.i64.wrap (s9 + 1)), r27.2))
else
((ldN r27.2 (⟨w10.heap.size, 0, none⟩) 0 6).bind fun l31 =>
(asI .i64 (l31.getD 0 undef)).bind fun n32 =>
(asI .i64 (l31.getD 1 undef)).bind fun n33 =>
(asI .i64 (l31.getD 2 undef)).bind fun n34 =>
(asSl (l31.getD 3 undef)).bind fun q35 =>
(asI .i64 (l31.getD 4 undef)).bind fun n36 =>
(asI .i64 (l31.getD 5 undef)).bind fun n37 =>
(callF Try.prog 14 #[.agg #[.int .i64 n32, .int .i64 n33, .int .i64 n34, .slice q35.1 q35.2.1 q35.2.2, .int .i64 n36, .int .i64 n37]] r27.2).bind fun r38 =>
(Ev.asAgg 6 r38.1).bind fun l39 =>
(asI .i64 (l39.getD 0 undef)).bind fun n40 =>
(asI .i64 (l39.getD 1 undef)).bind fun n41 =>
(asI .i64 (l39.getD 2 undef)).bind fun n42 =>
(asSl (l39.getD 3 undef)).bind fun q43 =>
(asI .i64 (l39.getD 4 undef)).bind fun n44 =>
(asI .i64 (l39.getD 5 undef)).bind fun n45 =>
(callF Try.prog 21 #[.int .u64 0, .slice (some (⟨r38.2.heap.size, 0, none⟩)) 1 1] (World.alloc r38.2 (.cells #[.int .i64 n40, .int .i64 n41, .int .i64 n42, .slice q43.1 q43.2.1 q43.2.2, .int .i64 n44, .int .i64 n45] 27))).bind fun r46 =>
(Ev.asAgg 9 r46.1).bind fun l47 =>
(asI .i64 (l47.getD 0 undef)).bind fun n48 =>
(asI .i64 (l47.getD 1 undef)).bind fun n49 =>
(asI .u64 (l47.getD 2 undef)).bind fun n50 =>
(asI .i64 (l47.getD 3 undef)).bind fun n51 =>
(asI .i64 (l47.getD 4 undef)).bind fun n52 =>
(asB (l47.getD 5 undef)).bind fun b53 =>
(asB (l47.getD 6 undef)).bind fun b54 =>
(asB (l47.getD 7 undef)).bind fun b55 =>
(asSl (l47.getD 8 undef)).bind fun q56 =>
(callF Try.prog 20 #[.pointer p2, .agg #[.int .i64 n48, .int .i64 n49, .int .u64 n50, .int .i64 n51, .int .i64 n52, .bool b53, .bool b54, .bool b55, .slice q56.1 q56.2.1 q56.2.2]] r46.2).bind fun r57 =>
(asTup 0 r57.1).bind fun _ =>
(World.cell? r57.2 (Addr.add (⟨w10.heap.size, 0, none⟩) 1)).bind fun v58 =>
(asI .i64 v58).bind fun n59 =>
if ((n59 : Int) == (IntKind.i64.wrap (Int.tmod u1 8))) = true then
((ldN r57.2 (⟨w10.heap.size, 0, none⟩) 0 6).bind fun l60 =>
(asI .i64 (l60.getD 0 undef)).bind fun n61 =>
(asI .i64 (l60.getD 1 undef)).bind fun n62 =>
(asI .i64 (l60.getD 2 undef)).bind fun n63 =>
(asSl (l60.getD 3 undef)).bind fun q64 =>
(asI .i64 (l60.getD 4 undef)).bind fun n65 =>
(asI .i64 (l60.getD 5 undef)).bind fun n66 =>
(callF Try.prog 14 #[.agg #[.int .i64 n61, .int .i64 n62, .int .i64 n63, .slice q64.1 q64.2.1 q64.2.2, .int .i64 n65, .int .i64 n66]] r57.2).bind fun r67 =>
(Ev.asAgg 6 r67.1).bind fun l68 =>
(asI .i64 (l68.getD 0 undef)).bind fun n69 =>
(asI .i64 (l68.getD 1 undef)).bind fun n70 =>
(asI .i64 (l68.getD 2 undef)).bind fun n71 =>
(asSl (l68.getD 3 undef)).bind fun q72 =>
(asI .i64 (l68.getD 4 undef)).bind fun n73 =>
(asI .i64 (l68.getD 5 undef)).bind fun n74 =>
(callF Try.prog 21 #[.int .u64 0, .slice (some (⟨r67.2.heap.size, 0, none⟩)) 1 1] (World.alloc r67.2 (.cells #[.int .i64 n69, .int .i64 n70, .int .i64 n71, .slice q72.1 q72.2.1 q72.2.2, .int .i64 n73, .int .i64 n74] 27))).bind fun r75 =>
(Ev.asAgg 9 r75.1).bind fun l76 =>
(asI .i64 (l76.getD 0 undef)).bind fun n77 =>
(asI .i64 (l76.getD 1 undef)).bind fun n78 =>
(asI .u64 (l76.getD 2 undef)).bind fun n79 =>
(asI .i64 (l76.getD 3 undef)).bind fun n80 =>
(asI .i64 (l76.getD 4 undef)).bind fun n81 =>
(asB (l76.getD 5 undef)).bind fun b82 =>
(asB (l76.getD 6 undef)).bind fun b83 =>
(asB (l76.getD 7 undef)).bind fun b84 =>
(asSl (l76.getD 8 undef)).bind fun q85 =>
(callF Try.prog 20 #[.pointer p4, .agg #[.int .i64 n77, .int .i64 n78, .int .u64 n79, .int .i64 n80, .int .i64 n81, .bool b82, .bool b83, .bool b84, .slice q85.1 q85.2.1 q85.2.2]] r75.2).bind fun r86 =>
(asTup 0 r86.1).bind fun _ =>
some (.normal, (IntKind.i64.wrap (s9 + 1)), r86.2))
else
(some (.normal, (IntKind.i64.wrap (s9 + 1)), r57.2))))
else
(some ((.exit 0), s9, w10))

noncomputable def g6_K87  : Exit → Env → World → Option (Value × World) :=
  retK Try.prog Try.f6.results.toList

noncomputable def g6_K88  : Exit → Env → World → Option (Value × World) :=
  seqK (ev Try.prog 107 6 g6_ann (cAt [1, 1, 1, 1, 1] (bodyOf Try.f6)) [1, 1, 1, 1, 1] g6_K87) g6_K87

noncomputable def g6_K89  : Exit → Env → World → Option (Value × World) :=
  blkK 0 g6_K88

/-- the loop, from a state on -/
noncomputable def g6_l8 (p2 : Option Addr) (p4 : Option Addr) (u1 : Int) (u0 : Option Addr × Nat × Nat) (s : Int) (w : World) : Option (Value × World) :=
  loopM Try.prog 107 6 g6_ann (cAt [1, 1, 1, 1, 0, 1, 0, 0] (bodyOf Try.f6)) [0, 1, 0, 1, 1, 1, 1] g6_K89 ((g6_l8_cs p2 p4 u1 u0) ++ sputs [(38, .i .i64)] s) w

def g6_l100_cs (p2 : Option Addr) (p4 : Option Addr) (u1 : Int) (n94 : Int) (q95 : Option Addr × Nat × Nat) (n98 : Int) (q99 : Option Addr × Nat × Nat) : List (Nat × Value) := ([(5, .pointer p2), (6, .pointer p4), (7, .int .i64 (IntKind.i64.wrap (Int.tmod u1 8))), (12, .int .i64 n94), (13, .slice q95.1 q95.2.1 q95.2.2), (14, .int .i64 n98), (15, .slice q99.1 q99.2.1 q99.2.2)] : List (Nat × Value))

/-- the round of a loop (penstock/penstocklaw16.GroupApart) -/
noncomputable def g6_l100_b (p2 : Option Addr) (u1 : Int) (p4 : Option Addr) (n94 : Int) (q95 : Option Addr × Nat × Nat) (n98 : Int) (q99 : Option Addr × Nat × Nat) (s101 : Int) (w102 : World) : Option (Exit × (Int) × World) :=
if (decide ((s101 : Int) < 4)) = true then
((callF Try.prog 22 #[.pointer p2, .int .i64 (IntKind.i64.wrap (Int.tmod u1 8)), .int .i64 s101] w102).bind fun r103 =>
(asTup 2 r103.1).bind fun l104 =>
(asI .i64 (l104.getD 0 undef)).bind fun n105 =>
(asI .i64 (l104.getD 1 undef)).bind fun n106 =>
(callF Try.prog 22 #[.pointer p4, .int .i64 (IntKind.i64.wrap (Int.tmod u1 8)), .int .i64 s101] r103.2).bind fun r107 =>
(asTup 2 r107.1).bind fun l108 =>
(asI .i64 (l108.getD 0 undef)).bind fun n109 =>
(asI .i64 (l108.getD 1 undef)).bind fun n110 =>
if ((n105 : Int) != n109) = true then
(some (.ret, s101, r107.2))
else
(some (.normal, (IntKind.i64.wrap (s101 + 1)), r107.2)))
else
(some ((.exit 2), s101, w102))

noncomputable def g6_K111  : Exit → Env → World → Option (Value × World) :=
  seqK (ev Try.prog 107 6 g6_ann (cAt [1, 1, 1, 1, 1, 1, 1, 1] (bodyOf Try.f6)) [1, 1, 1, 1, 1, 1, 1, 1] g6_K87) g6_K87

noncomputable def g6_K112  : Exit → Env → World → Option (Value × World) :=
  blkK 2 g6_K111

/-- the loop, from a state on -/
noncomputable def g6_l100 (p2 : Option Addr) (p4 : Option Addr) (u1 : Int) (n94 : Int) (q95 : Option Addr × Nat × Nat) (n98 : Int) (q99 : Option Addr × Nat × Nat) (s : Int) (w : World) : Option (Value × World) :=
  loopM Try.prog 107 6 g6_ann (cAt [1, 1, 1, 1, 1, 1, 1, 0, 1, 0, 0] (bodyOf Try.f6)) [0, 1, 0, 1, 1, 1, 1, 1, 1, 1] g6_K112 ((g6_l100_cs p2 p4 u1 n94 q95 n98 q99) ++ sputs [(16, .i .i64)] s) w

/-- behind the loop, left by x2 -/
noncomputable def g6_l100_x2 (n94 : Int) (n98 : Int) (q95 : Option Addr × Nat × Nat) (q99 : Option Addr × Nat × Nat) (t113 : Int) (w114 : World) : Option (Value × World) :=
if ((n94 : Int) == n98) = true then
((callF Try.prog 24 #[.slice q95.1 q95.2.1 q95.2.2, .slice q99.1 q99.2.1 q99.2.2] w114).bind fun r115 =>
(asB r115.1).bind fun b116 =>
some (.bool b116, r115.2))
else
(some (.bool false, w114))

/-- behind the loop, left by ret -/
noncomputable def g6_l100_ret  (t117 : Int) (w118 : World) : Option (Value × World) :=
some (undef, w118)

/-- behind the loop, left by x0 -/
noncomputable def g6_l8_x0 (p2 : Option Addr) (u1 : Int) (p4 : Option Addr) (t90 : Int) (w91 : World) : Option (Value × World) :=
(callF Try.prog 23 #[.pointer p2, .int .i64 (IntKind.i64.wrap (Int.tmod u1 8))] w91).bind fun r92 =>
(asTup 2 r92.1).bind fun l93 =>
(asI .i64 (l93.getD 0 undef)).bind fun n94 =>
(asSl (l93.getD 1 undef)).bind fun q95 =>
(callF Try.prog 23 #[.pointer p4, .int .i64 (IntKind.i64.wrap (Int.tmod u1 8))] r92.2).bind fun r96 =>
(asTup 2 r96.1).bind fun l97 =>
(asI .i64 (l97.getD 0 undef)).bind fun n98 =>
(asSl (l97.getD 1 undef)).bind fun q99 =>
g6_l100 p2 p4 u1 n94 q95 n98 q99 0 r96.2

noncomputable def g6 (u0 : Option Addr × Nat × Nat) (u1 : Int) (w0 : World) : Option (Value × World) :=
(callF Try.prog 19 #[] w0).bind fun r1 =>
(asP r1.1).bind fun p2 =>
(callF Try.prog 19 #[] r1.2).bind fun r3 =>
(asP r3.1).bind fun p4 =>
(callF Try.prog 9 #[] r3.2).bind fun r5 =>
(asB r5.1).bind fun b6 =>
if (!b6) = true then
(some (.bool false, r5.2))
else
(if (p2.isNone) = true then
(some (.bool false, r5.2))
else
(if (p4.isNone) = true then
(some (.bool false, r5.2))
else
(g6_l8 p2 p4 u1 u0 0 r5.2)))

theorem g6_eq (u0 : Option Addr × Nat × Nat) (u1 : Int) (w0 : World) : evFn Try.prog 6 g6_ann #[.slice u0.1 u0.2.1 u0.2.2, .int .u8 u1] w0 = g6 u0 u1 w0 := by kernel_rfl

theorem g6_call {u0 : Option Addr × Nat × Nat} {u1 : Int} {w0 : World} {r : Value × World} (h : g6 u0 u1 w0 = some r) : callF Try.prog 6 #[.slice u0.1 u0.2.1 u0.2.2, .int .u8 u1] w0 = some r :=
  callF_of_evFn (ann := g6_ann) Try.call6 (by kernel_rfl) ((g6_eq u0 u1 w0).trans h)

theorem g6_l100_x2_of {p2 : Option Addr} {p4 : Option Addr} {u1 : Int} {n94 : Int} {q95 : Option Addr × Nat × Nat} {n98 : Int} {q99 : Option Addr × Nat × Nat} {s t : Int} {w w' : World} (h : loopS (g6_l100_b p2 u1 p4 n94 q95 n98 q99) s w = some (.exit 2, t, w')) : g6_l100 p2 p4 u1 n94 q95 n98 q99 s w = g6_l100_x2 n94 n98 q95 q99 t w' := by
  have h1 : g6_l100 p2 p4 u1 n94 q95 n98 q99 s w = loopM Try.prog 107 6 g6_ann (cAt [1, 1, 1, 1, 1, 1, 1, 0, 1, 0, 0] (bodyOf Try.f6)) [0, 1, 0, 1, 1, 1, 1, 1, 1, 1] g6_K112 ((g6_l100_cs p2 p4 u1 n94 q95 n98 q99) ++ sputs [(16, .i .i64)] s) w := by kernel_rfl
  have h2 : loopM Try.prog 107 6 g6_ann (cAt [1, 1, 1, 1, 1, 1, 1, 0, 1, 0, 0] (bodyOf Try.f6)) [0, 1, 0, 1, 1, 1, 1, 1, 1, 1] g6_K112 ((g6_l100_cs p2 p4 u1 n94 q95 n98 q99) ++ sputs [(16, .i .i64)] s) w = g6_K112 (.exit 2) (puts 107 ((g6_l100_cs p2 p4 u1 n94 q95 n98 q99) ++ sputs [(16, .i .i64)] t)) w' :=
    loop_rule (P := Try.prog) (N := 107) (f := 6) (ann := g6_ann) (body := (cAt [1, 1, 1, 1, 1, 1, 1, 0, 1, 0, 0] (bodyOf Try.f6))) (pt := [0, 1, 0, 1, 1, 1, 1, 1, 1, 1]) (K := g6_K112) (g6_l100_cs p2 p4 u1 n94 q95 n98 q99) [(16, .i .i64)] (b := g6_l100_b p2 u1 p4 n94 q95 n98 q99) (fun s w => by kernel_rfl) (by kernel_rfl) (by kernel_rfl) (by kernel_rfl) h
  have h3 : g6_K112 (.exit 2) (puts 107 ((g6_l100_cs p2 p4 u1 n94 q95 n98 q99) ++ sputs [(16, .i .i64)] t)) w' = g6_l100_x2 n94 n98 q95 q99 t w' := by kernel_rfl
  exact h1.trans (h2.trans h3)

theorem g6_l8_x0_of {p2 : Option Addr} {p4 : Option Addr} {u1 : Int} {u0 : Option Addr × Nat × Nat} {s t : Int} {w w' : World} (h : loopS (g6_l8_b u0 p2 u1 p4) s w = some (.exit 0, t, w')) : g6_l8 p2 p4 u1 u0 s w = g6_l8_x0 p2 u1 p4 t w' := by
  have h1 : g6_l8 p2 p4 u1 u0 s w = loopM Try.prog 107 6 g6_ann (cAt [1, 1, 1, 1, 0, 1, 0, 0] (bodyOf Try.f6)) [0, 1, 0, 1, 1, 1, 1] g6_K89 ((g6_l8_cs p2 p4 u1 u0) ++ sputs [(38, .i .i64)] s) w := by kernel_rfl
  have h2 : loopM Try.prog 107 6 g6_ann (cAt [1, 1, 1, 1, 0, 1, 0, 0] (bodyOf Try.f6)) [0, 1, 0, 1, 1, 1, 1] g6_K89 ((g6_l8_cs p2 p4 u1 u0) ++ sputs [(38, .i .i64)] s) w = g6_K89 (.exit 0) (puts 107 ((g6_l8_cs p2 p4 u1 u0) ++ sputs [(38, .i .i64)] t)) w' :=
    loop_rule (P := Try.prog) (N := 107) (f := 6) (ann := g6_ann) (body := (cAt [1, 1, 1, 1, 0, 1, 0, 0] (bodyOf Try.f6))) (pt := [0, 1, 0, 1, 1, 1, 1]) (K := g6_K89) (g6_l8_cs p2 p4 u1 u0) [(38, .i .i64)] (b := g6_l8_b u0 p2 u1 p4) (fun s w => by kernel_rfl) (by kernel_rfl) (by kernel_rfl) (by kernel_rfl) h
  have h3 : g6_K89 (.exit 0) (puts 107 ((g6_l8_cs p2 p4 u1 u0) ++ sputs [(38, .i .i64)] t)) w' = g6_l8_x0 p2 u1 p4 t w' := by kernel_rfl
  exact h1.trans (h2.trans h3)

end Go.Proofs.Ytcakijeoeankfaa
