/-
  GroupV: lemmas on what Go functions of this seat come to (for whatever arguments, as each says). No condition but those that stand in each lemma.
-/
import Derived.Test.YtcakijeoeankfaaLb9
import Derived.Test.YtcakijeoeankfaaProg
namespace Go.Proofs.Ytcakijeoeankfaa
open Go Go.Ev
set_option maxRecDepth 100000
set_option linter.unusedVariables false
/-! 12: penstock/penstockref16.DocEncode (r: api.GrRec) -/
def g12_ann : List (List Nat × List Nat) := []

noncomputable def g12 (u0c0 : Int) (u0c1 : Int) (u0c2 : Int) (u0c3 : Option Addr × Nat × Nat) (u0c4 : Int) (u0c5 : Int) (w0 : World) : Option (Value × World) :=
(ldN (World.alloc w0 (.cells #[.int .i64 u0c0, .int .i64 u0c1, .int .i64 u0c2, .slice u0c3.1 u0c3.2.1 u0c3.2.2, .int .i64 u0c4, .int .i64 u0c5] 27)) (⟨w0.heap.size, 0, none⟩) 0 6).bind fun l1 =>
(asI .i64 (l1.getD 0 undef)).bind fun n2 =>
(asI .i64 (l1.getD 1 undef)).bind fun n3 =>
(asI .i64 (l1.getD 2 undef)).bind fun n4 =>
(asSl (l1.getD 3 undef)).bind fun q5 =>
(asI .i64 (l1.getD 4 undef)).bind fun n6 =>
(asI .i64 (l1.getD 5 undef)).bind fun n7 =>
(callF Try.prog 28 #[.agg #[.int .i64 n2, .int .i64 n3, .int .i64 n4, .slice q5.1 q5.2.1 q5.2.2, .int .i64 n6, .int .i64 n7]] (World.alloc w0 (.cells #[.int .i64 u0c0, .int .i64 u0c1, .int .i64 u0c2, .slice u0c3.1 u0c3.2.1 u0c3.2.2, .int .i64 u0c4, .int .i64 u0c5] 27))).bind fun r8 =>
(asB r8.1).bind fun b9 =>
if b9 = true then
(some (.tuple #[.slice none 0 0, .int .i64 1], r8.2))
else
((World.cell? r8.2 (⟨w0.heap.size, 0, none⟩)).bind fun v10 =>
(asI .i64 v10).bind fun n11 =>
(callF Try.prog 29 #[.int .i64 n11] r8.2).bind fun r12 =>
(asSl r12.1).bind fun q13 =>
(World.cell? r12.2 (Addr.add (⟨w0.heap.size, 0, none⟩) 1)).bind fun v14 =>
(asI .i64 v14).bind fun n15 =>
(callF Try.prog 29 #[.int .i64 n15] r12.2).bind fun r16 =>
(asSl r16.1).bind fun q17 =>
(callB Try.prog .append #[28, 28] 28 #[false, false] #[.slice q13.1 q13.2.1 q13.2.2, .slice q17.1 q17.2.1 q17.2.2] r16.2).bind fun r18 =>
(asSl r18.1).bind fun q19 =>
(World.cell? r18.2 (Addr.add (⟨w0.heap.size, 0, none⟩) 2)).bind fun v20 =>
(asI .i64 v20).bind fun n21 =>
(callF Try.prog 29 #[.int .i64 n21] r18.2).bind fun r22 =>
(asSl r22.1).bind fun q23 =>
(callB Try.prog .append #[28, 28] 28 #[false, false] #[.slice q19.1 q19.2.1 q19.2.2, .slice q23.1 q23.2.1 q23.2.2] r22.2).bind fun r24 =>
(asSl r24.1).bind fun q25 =>
(World.cell? r24.2 (Addr.add (⟨w0.heap.size, 0, none⟩) 4)).bind fun v26 =>
(asI .i64 v26).bind fun n27 =>
(callF Try.prog 29 #[.int .i64 n27] r24.2).bind fun r28 =>
(asSl r28.1).bind fun q29 =>
(callB Try.prog .append #[28, 28] 28 #[false, false] #[.slice q25.1 q25.2.1 q25.2.2, .slice q29.1 q29.2.1 q29.2.2] r28.2).bind fun r30 =>
(asSl r30.1).bind fun q31 =>
(World.cell? r30.2 (Addr.add (⟨w0.heap.size, 0, none⟩) 5)).bind fun v32 =>
(asI .i64 v32).bind fun n33 =>
(callF Try.prog 29 #[.int .i64 n33] r30.2).bind fun r34 =>
(asSl r34.1).bind fun q35 =>
(callB Try.prog .append #[28, 28] 28 #[false, false] #[.slice q31.1 q31.2.1 q31.2.2, .slice q35.1 q35.2.1 q35.2.2] r34.2).bind fun r36 =>
(asSl r36.1).bind fun q37 =>
(World.cell? r36.2 (Addr.add (⟨w0.heap.size, 0, none⟩) 3)).bind fun v38 =>
(asSl v38).bind fun q39 =>
(callF Try.prog 30 #[.slice q39.1 q39.2.1 q39.2.2] r36.2).bind fun r40 =>
(asSl r40.1).bind fun q41 =>
(callB Try.prog .append #[28, 28] 28 #[false, false] #[.slice q37.1 q37.2.1 q37.2.2, .slice q41.1 q41.2.1 q41.2.2] r40.2).bind fun r42 =>
(asSl r42.1).bind fun q43 =>
some (.tuple #[.slice q43.1 q43.2.1 q43.2.2, .int .i64 0], r42.2))

theorem g12_eq (u0c0 : Int) (u0c1 : Int) (u0c2 : Int) (u0c3 : Option Addr × Nat × Nat) (u0c4 : Int) (u0c5 : Int) (w0 : World) : evFn Try.prog 12 g12_ann #[.agg #[.int .i64 u0c0, .int .i64 u0c1, .int .i64 u0c2, .slice u0c3.1 u0c3.2.1 u0c3.2.2, .int .i64 u0c4, .int .i64 u0c5]] w0 = g12 u0c0 u0c1 u0c2 u0c3 u0c4 u0c5 w0 := by kernel_rfl

theorem g12_call {u0c0 : Int} {u0c1 : Int} {u0c2 : Int} {u0c3 : Option Addr × Nat × Nat} {u0c4 : Int} {u0c5 : Int} {w0 : World} {r : Value × World} (h : g12 u0c0 u0c1 u0c2 u0c3 u0c4 u0c5 w0 = some r) : callF Try.prog 12 #[.agg #[.int .i64 u0c0, .int .i64 u0c1, .int .i64 u0c2, .slice u0c3.1 u0c3.2.1 u0c3.2.2, .int .i64 u0c4, .int .i64 u0c5]] w0 = some r :=
  callF_of_evFn (ann := g12_ann) Try.call12 (by kernel_rfl) ((g12_eq u0c0 u0c1 u0c2 u0c3 u0c4 u0c5 w0).trans h)

/-! 13: penstock/penstockref16.DocDecode (text: []uint8) -/
def g13_ann : List (List Nat × List Nat) := []

noncomputable def g13 (u0 : Option Addr × Nat × Nat) (w0 : World) : Option (Value × World) :=
(callF Try.prog 31 #[.pointer (some (⟨(World.alloc w0 (.cells #[.int .i64 0, .int .i64 0, .int .i64 0, .slice none 0 0, .int .i64 0, .int .i64 0] 27)).heap.size, 0, none⟩))] (World.alloc (World.alloc (World.alloc w0 (.cells #[.int .i64 0, .int .i64 0, .int .i64 0, .slice none 0 0, .int .i64 0, .int .i64 0] 27)) (.cells #[.slice u0.1 u0.2.1 u0.2.2, .int .i64 0, .int .i64 0] 74)) (.cells #[.int .i64 0, .int .i64 0, .int .i64 0, .slice none 0 0, .int .i64 0, .int .i64 0] 27))).bind fun r1 =>
(asI .i64 r1.1).bind fun n2 =>
(st1 r1.2 (⟨(World.alloc (World.alloc w0 (.cells #[.int .i64 0, .int .i64 0, .int .i64 0, .slice none 0 0, .int .i64 0, .int .i64 0] 27)) (.cells #[.slice u0.1 u0.2.1 u0.2.2, .int .i64 0, .int .i64 0] 74)).heap.size, 0, none⟩) (.int .i64 n2)).bind fun w3 =>
(callF Try.prog 31 #[.pointer (some (⟨(World.alloc w0 (.cells #[.int .i64 0, .int .i64 0, .int .i64 0, .slice none 0 0, .int .i64 0, .int .i64 0] 27)).heap.size, 0, none⟩))] w3).bind fun r4 =>
(asI .i64 r4.1).bind fun n5 =>
(st1 r4.2 (Addr.add (⟨(World.alloc (World.alloc w0 (.cells #[.int .i64 0, .int .i64 0, .int .i64 0, .slice none 0 0, .int .i64 0, .int .i64 0] 27)) (.cells #[.slice u0.1 u0.2.1 u0.2.2, .int .i64 0, .int .i64 0] 74)).heap.size, 0, none⟩) 1) (.int .i64 n5)).bind fun w6 =>
(callF Try.prog 31 #[.pointer (some (⟨(World.alloc w0 (.cells #[.int .i64 0, .int .i64 0, .int .i64 0, .slice none 0 0, .int .i64 0, .int .i64 0] 27)).heap.size, 0, none⟩))] w6).bind fun r7 =>
(asI .i64 r7.1).bind fun n8 =>
(st1 r7.2 (Addr.add (⟨(World.alloc (World.alloc w0 (.cells #[.int .i64 0, .int .i64 0, .int .i64 0, .slice none 0 0, .int .i64 0, .int .i64 0] 27)) (.cells #[.slice u0.1 u0.2.1 u0.2.2, .int .i64 0, .int .i64 0] 74)).heap.size, 0, none⟩) 2) (.int .i64 n8)).bind fun w9 =>
(callF Try.prog 31 #[.pointer (some (⟨(World.alloc w0 (.cells #[.int .i64 0, .int .i64 0, .int .i64 0, .slice none 0 0, .int .i64 0, .int .i64 0] 27)).heap.size, 0, none⟩))] w9).bind fun r10 =>
(asI .i64 r10.1).bind fun n11 =>
(st1 r10.2 (Addr.add (⟨(World.alloc (World.alloc w0 (.cells #[.int .i64 0, .int .i64 0, .int .i64 0, .slice none 0 0, .int .i64 0, .int .i64 0] 27)) (.cells #[.slice u0.1 u0.2.1 u0.2.2, .int .i64 0, .int .i64 0] 74)).heap.size, 0, none⟩) 4) (.int .i64 n11)).bind fun w12 =>
(callF Try.prog 31 #[.pointer (some (⟨(World.alloc w0 (.cells #[.int .i64 0, .int .i64 0, .int .i64 0, .slice none 0 0, .int .i64 0, .int .i64 0] 27)).heap.size, 0, none⟩))] w12).bind fun r13 =>
(asI .i64 r13.1).bind fun n14 =>
(st1 r13.2 (Addr.add (⟨(World.alloc (World.alloc w0 (.cells #[.int .i64 0, .int .i64 0, .int .i64 0, .slice none 0 0, .int .i64 0, .int .i64 0] 27)) (.cells #[.slice u0.1 u0.2.1 u0.2.2, .int .i64 0, .int .i64 0] 74)).heap.size, 0, none⟩) 5) (.int .i64 n14)).bind fun w15 =>
(callF Try.prog 32 #[.pointer (some (⟨(World.alloc w0 (.cells #[.int .i64 0, .int .i64 0, .int .i64 0, .slice none 0 0, .int .i64 0, .int .i64 0] 27)).heap.size, 0, none⟩))] w15).bind fun r16 =>
(asSl r16.1).bind fun q17 =>
(st1 r16.2 (Addr.add (⟨(World.alloc (World.alloc w0 (.cells #[.int .i64 0, .int .i64 0, .int .i64 0, .slice none 0 0, .int .i64 0, .int .i64 0] 27)) (.cells #[.slice u0.1 u0.2.1 u0.2.2, .int .i64 0, .int .i64 0] 74)).heap.size, 0, none⟩) 3) (.slice q17.1 q17.2.1 q17.2.2)).bind fun w18 =>
(callF Try.prog 33 #[.pointer (some (⟨(World.alloc w0 (.cells #[.int .i64 0, .int .i64 0, .int .i64 0, .slice none 0 0, .int .i64 0, .int .i64 0] 27)).heap.size, 0, none⟩))] w18).bind fun r19 =>
(asI .i64 r19.1).bind fun n20 =>
if ((n20 : Int) != 0) = true then
((stL r19.2 (⟨w0.heap.size, 0, none⟩) [.int .i64 0, .int .i64 0, .int .i64 0, .slice none 0 0, .int .i64 0, .int .i64 0] 0).bind fun w21 =>
(ldN w21 (⟨w0.heap.size, 0, none⟩) 0 6).bind fun l22 =>
(asI .i64 (l22.getD 0 undef)).bind fun n23 =>
(asI .i64 (l22.getD 1 undef)).bind fun n24 =>
(asI .i64 (l22.getD 2 undef)).bind fun n25 =>
(asSl (l22.getD 3 undef)).bind fun q26 =>
(asI .i64 (l22.getD 4 undef)).bind fun n27 =>
(asI .i64 (l22.getD 5 undef)).bind fun n28 =>
some (.tuple #[.agg #[.int .i64 n23, .int .i64 n24, .int .i64 n25, .slice q26.1 q26.2.1 q26.2.2, .int .i64 n27, .int .i64 n28], .int .i64 n20], w21))
else
((ldN r19.2 (⟨(World.alloc (World.alloc w0 (.cells #[.int .i64 0, .int .i64 0, .int .i64 0, .slice none 0 0, .int .i64 0, .int .i64 0] 27)) (.cells #[.slice u0.1 u0.2.1 u0.2.2, .int .i64 0, .int .i64 0] 74)).heap.size, 0, none⟩) 0 6).bind fun l29 =>
(asI .i64 (l29.getD 0 undef)).bind fun n30 =>
(asI .i64 (l29.getD 1 undef)).bind fun n31 =>
(asI .i64 (l29.getD 2 undef)).bind fun n32 =>
(asSl (l29.getD 3 undef)).bind fun q33 =>
(asI .i64 (l29.getD 4 undef)).bind fun n34 =>
(asI .i64 (l29.getD 5 undef)).bind fun n35 =>
(callF Try.prog 28 #[.agg #[.int .i64 n30, .int .i64 n31, .int .i64 n32, .slice q33.1 q33.2.1 q33.2.2, .int .i64 n34, .int .i64 n35]] r19.2).bind fun r36 =>
(asB r36.1).bind fun b37 =>
if b37 = true then
((stL r36.2 (⟨w0.heap.size, 0, none⟩) [.int .i64 0, .int .i64 0, .int .i64 0, .slice none 0 0, .int .i64 0, .int .i64 0] 0).bind fun w38 =>
(ldN w38 (⟨w0.heap.size, 0, none⟩) 0 6).bind fun l39 =>
(asI .i64 (l39.getD 0 undef)).bind fun n40 =>
(asI .i64 (l39.getD 1 undef)).bind fun n41 =>
(asI .i64 (l39.getD 2 undef)).bind fun n42 =>
(asSl (l39.getD 3 undef)).bind fun q43 =>
(asI .i64 (l39.getD 4 undef)).bind fun n44 =>
(asI .i64 (l39.getD 5 undef)).bind fun n45 =>
some (.tuple #[.agg #[.int .i64 n40, .int .i64 n41, .int .i64 n42, .slice q43.1 q43.2.1 q43.2.2, .int .i64 n44, .int .i64 n45], .int .i64 1], w38))
else
((ldN r36.2 (⟨(World.alloc (World.alloc w0 (.cells #[.int .i64 0, .int .i64 0, .int .i64 0, .slice none 0 0, .int .i64 0, .int .i64 0] 27)) (.cells #[.slice u0.1 u0.2.1 u0.2.2, .int .i64 0, .int .i64 0] 74)).heap.size, 0, none⟩) 0 6).bind fun l46 =>
(asI .i64 (l46.getD 0 undef)).bind fun n47 =>
(asI .i64 (l46.getD 1 undef)).bind fun n48 =>
(asI .i64 (l46.getD 2 undef)).bind fun n49 =>
(asSl (l46.getD 3 undef)).bind fun q50 =>
(asI .i64 (l46.getD 4 undef)).bind fun n51 =>
(asI .i64 (l46.getD 5 undef)).bind fun n52 =>
(stL r36.2 (⟨w0.heap.size, 0, none⟩) [.int .i64 n47, .int .i64 n48, .int .i64 n49, .slice q50.1 q50.2.1 q50.2.2, .int .i64 n51, .int .i64 n52] 0).bind fun w53 =>
(ldN w53 (⟨w0.heap.size, 0, none⟩) 0 6).bind fun l54 =>
(asI .i64 (l54.getD 0 undef)).bind fun n55 =>
(asI .i64 (l54.getD 1 undef)).bind fun n56 =>
(asI .i64 (l54.getD 2 undef)).bind fun n57 =>
(asSl (l54.getD 3 undef)).bind fun q58 =>
(asI .i64 (l54.getD 4 undef)).bind fun n59 =>
(asI .i64 (l54.getD 5 undef)).bind fun n60 =>
some (.tuple #[.agg #[.int .i64 n55, .int .i64 n56, .int .i64 n57, .slice q58.1 q58.2.1 q58.2.2, .int .i64 n59, .int .i64 n60], .int .i64 0], w53)))

theorem g13_eq (u0 : Option Addr × Nat × Nat) (w0 : World) : evFn Try.prog 13 g13_ann #[.slice u0.1 u0.2.1 u0.2.2] w0 = g13 u0 w0 := by kernel_rfl

theorem g13_call {u0 : Option Addr × Nat × Nat} {w0 : World} {r : Value × World} (h : g13 u0 w0 = some r) : callF Try.prog 13 #[.slice u0.1 u0.2.1 u0.2.2] w0 = some r :=
  callF_of_evFn (ann := g13_ann) Try.call13 (by kernel_rfl) ((g13_eq u0 w0).trans h)

/-! 15: penstock/group.Encode (r: api.GrRec) -/
def g15_ann : List (List Nat × List Nat) := [([0, 1, 0, 1, 1, 1], [1, 4, 20, 21, 22])]

def g15_l23_cs (w0 : World) (p11 : Option Addr) (r10 : Value × World) : List (Nat × Value) := ([(1, .pointer (some (⟨w0.heap.size, 0, none⟩))), (4, .pointer p11), (20, .slice (some (⟨r10.2.heap.size, 0, none⟩)) 5 5), (21, .int .i64 5)] : List (Nat × Value))

/-- the round of a loop (penstock/group.Encode) -/
noncomputable def g15_l23_b (r10 : Value × World) (p11 : Option Addr) (w0 : World) (s24 : Int) (w25 : World) : Option (Exit × (Int) × World) :=
if (decide ((s24 : Int) < 5)) = true then
((idxA (some (⟨r10.2.heap.size, 0, none⟩)) 5 1 s24).bind fun a26 =>
(World.cell? w25 a26).bind fun v27 =>
(asI .i64 v27).bind fun n28 =>
(callF Try.prog 36 #[.pointer p11, .int .i64 n28] w25).bind fun r29 =>
(asTup 0 r29.1).bind fun _ =>
some (.normal, (IntKind.i64.wrap (s24 + 1)), r29.2))
else
(some ((.exit 0), s24, w25))

noncomputable def g15_K30  : Exit → Env → World → Option (Value × World) :=
  retK Try.prog Try.f15.results.toList

noncomputable def g15_K31  : Exit → Env → World → Option (Value × World) :=
  seqK (ev Try.prog 38 15 g15_ann (cAt [1, 1, 1, 1] (bodyOf Try.f15)) [1, 1, 1, 1] g15_K30) g15_K30

noncomputable def g15_K32  : Exit → Env → World → Option (Value × World) :=
  blkK 0 g15_K31

/-- the loop, from a state on -/
noncomputable def g15_l23 (w0 : World) (p11 : Option Addr) (r10 : Value × World) (s : Int) (w : World) : Option (Value × World) :=
  loopM Try.prog 38 15 g15_ann (cAt [1, 1, 1, 0, 1, 0, 0] (bodyOf Try.f15)) [0, 1, 0, 1, 1, 1] g15_K32 ((g15_l23_cs w0 p11 r10) ++ sputs [(22, .i .i64)] s) w

/-- behind the loop, left by x0 -/
noncomputable def g15_l23_x0 (w0 : World) (p11 : Option Addr) (t33 : Int) (w34 : World) : Option (Value × World) :=
(World.cell? w34 (Addr.add (⟨w0.heap.size, 0, none⟩) 3)).bind fun v35 =>
(asSl v35).bind fun q36 =>
(callF Try.prog 37 #[.pointer p11, .slice q36.1 q36.2.1 q36.2.2] w34).bind fun r37 =>
(asTup 0 r37.1).bind fun _ =>
(callF Try.prog 38 #[.pointer p11] r37.2).bind fun r38 =>
(asTup 2 r38.1).bind fun l39 =>
(asSl (l39.getD 0 undef)).bind fun q40 =>
(asI .i64 (l39.getD 1 undef)).bind fun n41 =>
some (.tuple #[.slice q40.1 q40.2.1 q40.2.2, .int .i64 n41], r38.2)

noncomputable def g15 (u0c0 : Int) (u0c1 : Int) (u0c2 : Int) (u0c3 : Option Addr × Nat × Nat) (u0c4 : Int) (u0c5 : Int) (w0 : World) : Option (Value × World) :=
(ldN (World.alloc w0 (.cells #[.int .i64 u0c0, .int .i64 u0c1, .int .i64 u0c2, .slice u0c3.1 u0c3.2.1 u0c3.2.2, .int .i64 u0c4, .int .i64 u0c5] 27)) (⟨w0.heap.size, 0, none⟩) 0 6).bind fun l1 =>
(asI .i64 (l1.getD 0 undef)).bind fun n2 =>
(asI .i64 (l1.getD 1 undef)).bind fun n3 =>
(asI .i64 (l1.getD 2 undef)).bind fun n4 =>
(asSl (l1.getD 3 undef)).bind fun q5 =>
(asI .i64 (l1.getD 4 undef)).bind fun n6 =>
(asI .i64 (l1.getD 5 undef)).bind fun n7 =>
(callF Try.prog 34 #[.agg #[.int .i64 n2, .int .i64 n3, .int .i64 n4, .slice q5.1 q5.2.1 q5.2.2, .int .i64 n6, .int .i64 n7]] (World.alloc w0 (.cells #[.int .i64 u0c0, .int .i64 u0c1, .int .i64 u0c2, .slice u0c3.1 u0c3.2.1 u0c3.2.2, .int .i64 u0c4, .int .i64 u0c5] 27))).bind fun r8 =>
(asB r8.1).bind fun b9 =>
if b9 = true then
(some (.tuple #[.slice none 0 0, .int .i64 1], r8.2))
else
((callF Try.prog 35 #[] r8.2).bind fun r10 =>
(asP r10.1).bind fun p11 =>
(World.cell? r10.2 (⟨w0.heap.size, 0, none⟩)).bind fun v12 =>
(asI .i64 v12).bind fun n13 =>
(World.cell? r10.2 (Addr.add (⟨w0.heap.size, 0, none⟩) 1)).bind fun v14 =>
(asI .i64 v14).bind fun n15 =>
(World.cell? r10.2 (Addr.add (⟨w0.heap.size, 0, none⟩) 2)).bind fun v16 =>
(asI .i64 v16).bind fun n17 =>
(World.cell? r10.2 (Addr.add (⟨w0.heap.size, 0, none⟩) 4)).bind fun v18 =>
(asI .i64 v18).bind fun n19 =>
(World.cell? r10.2 (Addr.add (⟨w0.heap.size, 0, none⟩) 5)).bind fun v20 =>
(asI .i64 v20).bind fun n21 =>
g15_l23 w0 p11 r10 0 (World.alloc r10.2 (.cells #[.int .i64 n13, .int .i64 n15, .int .i64 n17, .int .i64 n19, .int .i64 n21] 3)))

theorem g15_eq (u0c0 : Int) (u0c1 : Int) (u0c2 : Int) (u0c3 : Option Addr × Nat × Nat) (u0c4 : Int) (u0c5 : Int) (w0 : World) : evFn Try.prog 15 g15_ann #[.agg #[.int .i64 u0c0, .int .i64 u0c1, .int .i64 u0c2, .slice u0c3.1 u0c3.2.1 u0c3.2.2, .int .i64 u0c4, .int .i64 u0c5]] w0 = g15 u0c0 u0c1 u0c2 u0c3 u0c4 u0c5 w0 := by kernel_rfl

theorem g15_call {u0c0 : Int} {u0c1 : Int} {u0c2 : Int} {u0c3 : Option Addr × Nat × Nat} {u0c4 : Int} {u0c5 : Int} {w0 : World} {r : Value × World} (h : g15 u0c0 u0c1 u0c2 u0c3 u0c4 u0c5 w0 = some r) : callF Try.prog 15 #[.agg #[.int .i64 u0c0, .int .i64 u0c1, .int .i64 u0c2, .slice u0c3.1 u0c3.2.1 u0c3.2.2, .int .i64 u0c4, .int .i64 u0c5]] w0 = some r :=
  callF_of_evFn (ann := g15_ann) Try.call15 (by kernel_rfl) ((g15_eq u0c0 u0c1 u0c2 u0c3 u0c4 u0c5 w0).trans h)

theorem g15_l23_x0_of {w0 : World} {p11 : Option Addr} {r10 : Value × World} {s t : Int} {w w' : World} (h : loopS (g15_l23_b r10 p11 w0) s w = some (.exit 0, t, w')) : g15_l23 w0 p11 r10 s w = g15_l23_x0 w0 p11 t w' := by
  have h1 : g15_l23 w0 p11 r10 s w = loopM Try.prog 38 15 g15_ann (cAt [1, 1, 1, 0, 1, 0, 0] (bodyOf Try.f15)) [0, 1, 0, 1, 1, 1] g15_K32 ((g15_l23_cs w0 p11 r10) ++ sputs [(22, .i .i64)] s) w := by kernel_rfl
  have h2 : loopM Try.prog 38 15 g15_ann (cAt [1, 1, 1, 0, 1, 0, 0] (bodyOf Try.f15)) [0, 1, 0, 1, 1, 1] g15_K32 ((g15_l23_cs w0 p11 r10) ++ sputs [(22, .i .i64)] s) w = g15_K32 (.exit 0) (puts 38 ((g15_l23_cs w0 p11 r10) ++ sputs [(22, .i .i64)] t)) w' :=
    loop_rule (P := Try.prog) (N := 38) (f := 15) (ann := g15_ann) (body := (cAt [1, 1, 1, 0, 1, 0, 0] (bodyOf Try.f15))) (pt := [0, 1, 0, 1, 1, 1]) (K := g15_K32) (g15_l23_cs w0 p11 r10) [(22, .i .i64)] (b := g15_l23_b r10 p11 w0) (fun s w => by kernel_rfl) (by kernel_rfl) (by kernel_rfl) (by kernel_rfl) h
  have h3 : g15_K32 (.exit 0) (puts 38 ((g15_l23_cs w0 p11 r10) ++ sputs [(22, .i .i64)] t)) w' = g15_l23_x0 w0 p11 t w' := by kernel_rfl
  exact h1.trans (h2.trans h3)

/-! 16: penstock/penstockref03.Same (a: []uint8, b: []uint8) -/
def g16_ann : List (List Nat × List Nat) := [([0, 1, 0, 1, 1], [0, 1, 4, 5])]

def g16_l3_cs (u0 : Option Addr × Nat × Nat) (u1 : Option Addr × Nat × Nat) : List (Nat × Value) := ([(0, .slice u0.1 u0.2.1 u0.2.2), (1, .slice u1.1 u1.2.1 u1.2.2)] : List (Nat × Value))

/-- the round of a loop (penstock/penstockref03.Same) -/
noncomputable def g16_l3_b (u0 : Option Addr × Nat × Nat) (u1 : Option Addr × Nat × Nat) (s4 : Bool × Int) (w5 : World) : Option (Exit × (Bool × Int) × World) :=
if (decide ((s4.2 : Int) < (u0.2.1 : Int))) = true then
((idxA u0.1 u0.2.1 1 s4.2).bind fun a7 =>
(World.cell? (World.drew w5) a7).bind fun v8 =>
(asI .u8 v8).bind fun n9 =>
(idxA u1.1 u1.2.1 1 s4.2).bind fun a10 =>
(World.cell? (World.drew w5) a10).bind fun v11 =>
(asI .u8 v11).bind fun n12 =>
if ((n9 : Int) != n12) = true then
(some (.ret, (false, s4.2), (World.drew w5)))
else
(some (.normal, (s4.1, (IntKind.i64.wrap (s4.2 + 1))), (World.drew w5))))
else
(some ((.exit 0), (s4.1, s4.2), w5))

noncomputable def g16_K13  : Exit → Env → World → Option (Value × World) :=
  retK Try.prog Try.f16.results.toList

noncomputable def g16_K14  : Exit → Env → World → Option (Value × World) :=
  seqK (ev Try.prog 26 16 g16_ann (cAt [1, 1, 1] (bodyOf Try.f16)) [1, 1, 1] g16_K13) g16_K13

noncomputable def g16_K15  : Exit → Env → World → Option (Value × World) :=
  blkK 0 g16_K14

/-- the loop, from a state on -/
noncomputable def g16_l3 (u0 : Option Addr × Nat × Nat) (u1 : Option Addr × Nat × Nat) (s : Bool × Int) (w : World) : Option (Value × World) :=
  loopM Try.prog 26 16 g16_ann (cAt [1, 1, 0, 1, 0, 0] (bodyOf Try.f16)) [0, 1, 0, 1, 1] g16_K15 ((g16_l3_cs u0 u1) ++ sputs [(4, .b), (5, .i .i64)] s) w

/-- behind the loop, left by x0 -/
noncomputable def g16_l3_x0  (t16 : Bool × Int) (w17 : World) : Option (Value × World) :=
some (.bool true, w17)

/-- behind the loop, left by ret -/
noncomputable def g16_l3_ret  (t18 : Bool × Int) (w19 : World) : Option (Value × World) :=
some (.bool t18.1, w19)

noncomputable def g16 (u0 : Option Addr × Nat × Nat) (u1 : Option Addr × Nat × Nat) (w0 : World) : Option (Value × World) :=
if (((u0.2.1 : Int) : Int) != (u1.2.1 : Int)) = true then
(some (.bool false, w0))
else
(g16_l3 u0 u1 (false, 0) w0)

theorem g16_eq (u0 : Option Addr × Nat × Nat) (u1 : Option Addr × Nat × Nat) (w0 : World) : evFn Try.prog 16 g16_ann #[.slice u0.1 u0.2.1 u0.2.2, .slice u1.1 u1.2.1 u1.2.2] w0 = g16 u0 u1 w0 := by kernel_rfl

theorem g16_call {u0 : Option Addr × Nat × Nat} {u1 : Option Addr × Nat × Nat} {w0 : World} {r : Value × World} (h : g16 u0 u1 w0 = some r) : callF Try.prog 16 #[.slice u0.1 u0.2.1 u0.2.2, .slice u1.1 u1.2.1 u1.2.2] w0 = some r :=
  callF_of_evFn (ann := g16_ann) Try.call16 (by kernel_rfl) ((g16_eq u0 u1 w0).trans h)

theorem g16_l3_x0_of {u0 : Option Addr × Nat × Nat} {u1 : Option Addr × Nat × Nat} {s t : Bool × Int} {w w' : World} (h : loopS (g16_l3_b u0 u1) s w = some (.exit 0, t, w')) : g16_l3 u0 u1 s w = g16_l3_x0 t w' := by
  have h1 : g16_l3 u0 u1 s w = loopM Try.prog 26 16 g16_ann (cAt [1, 1, 0, 1, 0, 0] (bodyOf Try.f16)) [0, 1, 0, 1, 1] g16_K15 ((g16_l3_cs u0 u1) ++ sputs [(4, .b), (5, .i .i64)] s) w := by kernel_rfl
  have h2 : loopM Try.prog 26 16 g16_ann (cAt [1, 1, 0, 1, 0, 0] (bodyOf Try.f16)) [0, 1, 0, 1, 1] g16_K15 ((g16_l3_cs u0 u1) ++ sputs [(4, .b), (5, .i .i64)] s) w = g16_K15 (.exit 0) (puts 26 ((g16_l3_cs u0 u1) ++ sputs [(4, .b), (5, .i .i64)] t)) w' :=
    loop_rule (P := Try.prog) (N := 26) (f := 16) (ann := g16_ann) (body := (cAt [1, 1, 0, 1, 0, 0] (bodyOf Try.f16))) (pt := [0, 1, 0, 1, 1]) (K := g16_K15) (g16_l3_cs u0 u1) [(4, .b), (5, .i .i64)] (b := g16_l3_b u0 u1) (fun s w => by kernel_rfl) (by kernel_rfl) (by kernel_rfl) (by kernel_rfl) h
  have h3 : g16_K15 (.exit 0) (puts 26 ((g16_l3_cs u0 u1) ++ sputs [(4, .b), (5, .i .i64)] t)) w' = g16_l3_x0 t w' := by kernel_rfl
  exact h1.trans (h2.trans h3)

theorem g16_l3_ret_of {u0 : Option Addr × Nat × Nat} {u1 : Option Addr × Nat × Nat} {s t : Bool × Int} {w w' : World} (h : loopS (g16_l3_b u0 u1) s w = some (.ret, t, w')) : g16_l3 u0 u1 s w = g16_l3_ret t w' := by
  have h1 : g16_l3 u0 u1 s w = loopM Try.prog 26 16 g16_ann (cAt [1, 1, 0, 1, 0, 0] (bodyOf Try.f16)) [0, 1, 0, 1, 1] g16_K15 ((g16_l3_cs u0 u1) ++ sputs [(4, .b), (5, .i .i64)] s) w := by kernel_rfl
  have h2 : loopM Try.prog 26 16 g16_ann (cAt [1, 1, 0, 1, 0, 0] (bodyOf Try.f16)) [0, 1, 0, 1, 1] g16_K15 ((g16_l3_cs u0 u1) ++ sputs [(4, .b), (5, .i .i64)] s) w = g16_K15 (.ret) (puts 26 ((g16_l3_cs u0 u1) ++ sputs [(4, .b), (5, .i .i64)] t)) w' :=
    loop_rule (P := Try.prog) (N := 26) (f := 16) (ann := g16_ann) (body := (cAt [1, 1, 0, 1, 0, 0] (bodyOf Try.f16))) (pt := [0, 1, 0, 1, 1]) (K := g16_K15) (g16_l3_cs u0 u1) [(4, .b), (5, .i .i64)] (b := g16_l3_b u0 u1) (fun s w => by kernel_rfl) (by kernel_rfl) (by kernel_rfl) (by kernel_rfl) h
  have h3 : g16_K15 (.ret) (puts 26 ((g16_l3_cs u0 u1) ++ sputs [(4, .b), (5, .i .i64)] t)) w' = g16_l3_ret t w' := by kernel_rfl
  exact h1.trans (h2.trans h3)

/-! 17: penstock/penstockref16.SameRec (a: api.GrRec, b: api.GrRec) -/
def g17_ann : List (List Nat × List Nat) := []

noncomputable def g17 (u0c0 : Int) (u0c1 : Int) (u0c2 : Int) (u0c3 : Option Addr × Nat × Nat) (u0c4 : Int) (u0c5 : Int) (u1c0 : Int) (u1c1 : Int) (u1c2 : Int) (u1c3 : Option Addr × Nat × Nat) (u1c4 : Int) (u1c5 : Int) (w0 : World) : Option (Value × World) :=
(World.cell? (World.alloc (World.alloc w0 (.cells #[.int .i64 u0c0, .int .i64 u0c1, .int .i64 u0c2, .slice u0c3.1 u0c3.2.1 u0c3.2.2, .int .i64 u0c4, .int .i64 u0c5] 27)) (.cells #[.int .i64 u1c0, .int .i64 u1c1, .int .i64 u1c2, .slice u1c3.1 u1c3.2.1 u1c3.2.2, .int .i64 u1c4, .int .i64 u1c5] 27)) (⟨w0.heap.size, 0, none⟩)).bind fun v1 =>
(asI .i64 v1).bind fun n2 =>
(World.cell? (World.alloc (World.alloc w0 (.cells #[.int .i64 u0c0, .int .i64 u0c1, .int .i64 u0c2, .slice u0c3.1 u0c3.2.1 u0c3.2.2, .int .i64 u0c4, .int .i64 u0c5] 27)) (.cells #[.int .i64 u1c0, .int .i64 u1c1, .int .i64 u1c2, .slice u1c3.1 u1c3.2.1 u1c3.2.2, .int .i64 u1c4, .int .i64 u1c5] 27)) (⟨(World.alloc w0 (.cells #[.int .i64 u0c0, .int .i64 u0c1, .int .i64 u0c2, .slice u0c3.1 u0c3.2.1 u0c3.2.2, .int .i64 u0c4, .int .i64 u0c5] 27)).heap.size, 0, none⟩)).bind fun v3 =>
(asI .i64 v3).bind fun n4 =>
if ((n2 : Int) == n4) = true then
((World.cell? (World.alloc (World.alloc w0 (.cells #[.int .i64 u0c0, .int .i64 u0c1, .int .i64 u0c2, .slice u0c3.1 u0c3.2.1 u0c3.2.2, .int .i64 u0c4, .int .i64 u0c5] 27)) (.cells #[.int .i64 u1c0, .int .i64 u1c1, .int .i64 u1c2, .slice u1c3.1 u1c3.2.1 u1c3.2.2, .int .i64 u1c4, .int .i64 u1c5] 27)) (Addr.add (⟨w0.heap.size, 0, none⟩) 1)).bind fun v5 =>
(asI .i64 v5).bind fun n6 =>
(World.cell? (World.alloc (World.alloc w0 (.cells #[.int .i64 u0c0, .int .i64 u0c1, .int .i64 u0c2, .slice u0c3.1 u0c3.2.1 u0c3.2.2, .int .i64 u0c4, .int .i64 u0c5] 27)) (.cells #[.int .i64 u1c0, .int .i64 u1c1, .int .i64 u1c2, .slice u1c3.1 u1c3.2.1 u1c3.2.2, .int .i64 u1c4, .int .i64 u1c5] 27)) (Addr.add (⟨(World.alloc w0 (.cells #[.int .i64 u0c0, .int .i64 u0c1, .int .i64 u0c2, .slice u0c3.1 u0c3.2.1 u0c3.2.2, .int .i64 u0c4, .int .i64 u0c5] 27)).heap.size, 0, none⟩) 1)).bind fun v7 =>
(asI .i64 v7).bind fun n8 =>
if ((n6 : Int) == n8) = true then
((World.cell? (World.alloc (World.alloc w0 (.cells #[.int .i64 u0c0, .int .i64 u0c1, .int .i64 u0c2, .slice u0c3.1 u0c3.2.1 u0c3.2.2, .int .i64 u0c4, .int .i64 u0c5] 27)) (.cells #[.int .i64 u1c0, .int .i64 u1c1, .int .i64 u1c2, .slice u1c3.1 u1c3.2.1 u1c3.2.2, .int .i64 u1c4, .int .i64 u1c5] 27)) (Addr.add (⟨w0.heap.size, 0, none⟩) 2)).bind fun v9 =>
(asI .i64 v9).bind fun n10 =>
(World.cell? (World.alloc (World.alloc w0 (.cells #[.int .i64 u0c0, .int .i64 u0c1, .int .i64 u0c2, .slice u0c3.1 u0c3.2.1 u0c3.2.2, .int .i64 u0c4, .int .i64 u0c5] 27)) (.cells #[.int .i64 u1c0, .int .i64 u1c1, .int .i64 u1c2, .slice u1c3.1 u1c3.2.1 u1c3.2.2, .int .i64 u1c4, .int .i64 u1c5] 27)) (Addr.add (⟨(World.alloc w0 (.cells #[.int .i64 u0c0, .int .i64 u0c1, .int .i64 u0c2, .slice u0c3.1 u0c3.2.1 u0c3.2.2, .int .i64 u0c4, .int .i64 u0c5] 27)).heap.size, 0, none⟩) 2)).bind fun v11 =>
(asI .i64 v11).bind fun n12 =>
if ((n10 : Int) == n12) = true then
((World.cell? (World.alloc (World.alloc w0 (.cells #[.int .i64 u0c0, .int .i64 u0c1, .int .i64 u0c2, .slice u0c3.1 u0c3.2.1 u0c3.2.2, .int .i64 u0c4, .int .i64 u0c5] 27)) (.cells #[.int .i64 u1c0, .int .i64 u1c1, .int .i64 u1c2, .slice u1c3.1 u1c3.2.1 u1c3.2.2, .int .i64 u1c4, .int .i64 u1c5] 27)) (Addr.add (⟨w0.heap.size, 0, none⟩) 4)).bind fun v13 =>
(asI .i64 v13).bind fun n14 =>
(World.cell? (World.alloc (World.alloc w0 (.cells #[.int .i64 u0c0, .int .i64 u0c1, .int .i64 u0c2, .slice u0c3.1 u0c3.2.1 u0c3.2.2, .int .i64 u0c4, .int .i64 u0c5] 27)) (.cells #[.int .i64 u1c0, .int .i64 u1c1, .int .i64 u1c2, .slice u1c3.1 u1c3.2.1 u1c3.2.2, .int .i64 u1c4, .int .i64 u1c5] 27)) (Addr.add (⟨(World.alloc w0 (.cells #[.int .i64 u0c0, .int .i64 u0c1, .int .i64 u0c2, .slice u0c3.1 u0c3.2.1 u0c3.2.2, .int .i64 u0c4, .int .i64 u0c5] 27)).heap.size, 0, none⟩) 4)).bind fun v15 =>
(asI .i64 v15).bind fun n16 =>
if ((n14 : Int) == n16) = true then
((World.cell? (World.alloc (World.alloc w0 (.cells #[.int .i64 u0c0, .int .i64 u0c1, .int .i64 u0c2, .slice u0c3.1 u0c3.2.1 u0c3.2.2, .int .i64 u0c4, .int .i64 u0c5] 27)) (.cells #[.int .i64 u1c0, .int .i64 u1c1, .int .i64 u1c2, .slice u1c3.1 u1c3.2.1 u1c3.2.2, .int .i64 u1c4, .int .i64 u1c5] 27)) (Addr.add (⟨w0.heap.size, 0, none⟩) 5)).bind fun v17 =>
(asI .i64 v17).bind fun n18 =>
(World.cell? (World.alloc (World.alloc w0 (.cells #[.int .i64 u0c0, .int .i64 u0c1, .int .i64 u0c2, .slice u0c3.1 u0c3.2.1 u0c3.2.2, .int .i64 u0c4, .int .i64 u0c5] 27)) (.cells #[.int .i64 u1c0, .int .i64 u1c1, .int .i64 u1c2, .slice u1c3.1 u1c3.2.1 u1c3.2.2, .int .i64 u1c4, .int .i64 u1c5] 27)) (Addr.add (⟨(World.alloc w0 (.cells #[.int .i64 u0c0, .int .i64 u0c1, .int .i64 u0c2, .slice u0c3.1 u0c3.2.1 u0c3.2.2, .int .i64 u0c4, .int .i64 u0c5] 27)).heap.size, 0, none⟩) 5)).bind fun v19 =>
(asI .i64 v19).bind fun n20 =>
if ((n18 : Int) == n20) = true then
((World.cell? (World.alloc (World.alloc w0 (.cells #[.int .i64 u0c0, .int .i64 u0c1, .int .i64 u0c2, .slice u0c3.1 u0c3.2.1 u0c3.2.2, .int .i64 u0c4, .int .i64 u0c5] 27)) (.cells #[.int .i64 u1c0, .int .i64 u1c1, .int .i64 u1c2, .slice u1c3.1 u1c3.2.1 u1c3.2.2, .int .i64 u1c4, .int .i64 u1c5] 27)) (Addr.add (⟨w0.heap.size, 0, none⟩) 3)).bind fun v21 =>
(asSl v21).bind fun q22 =>
(World.cell? (World.alloc (World.alloc w0 (.cells #[.int .i64 u0c0, .int .i64 u0c1, .int .i64 u0c2, .slice u0c3.1 u0c3.2.1 u0c3.2.2, .int .i64 u0c4, .int .i64 u0c5] 27)) (.cells #[.int .i64 u1c0, .int .i64 u1c1, .int .i64 u1c2, .slice u1c3.1 u1c3.2.1 u1c3.2.2, .int .i64 u1c4, .int .i64 u1c5] 27)) (Addr.add (⟨(World.alloc w0 (.cells #[.int .i64 u0c0, .int .i64 u0c1, .int .i64 u0c2, .slice u0c3.1 u0c3.2.1 u0c3.2.2, .int .i64 u0c4, .int .i64 u0c5] 27)).heap.size, 0, none⟩) 3)).bind fun v23 =>
(asSl v23).bind fun q24 =>
(callF Try.prog 24 #[.slice q22.1 q22.2.1 q22.2.2, .slice q24.1 q24.2.1 q24.2.2] (World.alloc (World.alloc w0 (.cells #[.int .i64 u0c0, .int .i64 u0c1, .int .i64 u0c2, .slice u0c3.1 u0c3.2.1 u0c3.2.2, .int .i64 u0c4, .int .i64 u0c5] 27)) (.cells #[.int .i64 u1c0, .int .i64 u1c1, .int .i64 u1c2, .slice u1c3.1 u1c3.2.1 u1c3.2.2, .int .i64 u1c4, .int .i64 u1c5] 27))).bind fun r25 =>
(asB r25.1).bind fun b26 =>
some (.bool b26, r25.2))
else
(some (.bool false, (World.alloc (World.alloc w0 (.cells #[.int .i64 u0c0, .int .i64 u0c1, .int .i64 u0c2, .slice u0c3.1 u0c3.2.1 u0c3.2.2, .int .i64 u0c4, .int .i64 u0c5] 27)) (.cells #[.int .i64 u1c0, .int .i64 u1c1, .int .i64 u1c2, .slice u1c3.1 u1c3.2.1 u1c3.2.2, .int .i64 u1c4, .int .i64 u1c5] 27)))))
else
(some (.bool false, (World.alloc (World.alloc w0 (.cells #[.int .i64 u0c0, .int .i64 u0c1, .int .i64 u0c2, .slice u0c3.1 u0c3.2.1 u0c3.2.2, .int .i64 u0c4, .int .i64 u0c5] 27)) (.cells #[.int .i64 u1c0, .int .i64 u1c1, .int .i64 u1c2, .slice u1c3.1 u1c3.2.1 u1c3.2.2, .int .i64 u1c4, .int .i64 u1c5] 27)))))
else
(some (.bool false, (World.alloc (World.alloc w0 (.cells #[.int .i64 u0c0, .int .i64 u0c1, .int .i64 u0c2, .slice u0c3.1 u0c3.2.1 u0c3.2.2, .int .i64 u0c4, .int .i64 u0c5] 27)) (.cells #[.int .i64 u1c0, .int .i64 u1c1, .int .i64 u1c2, .slice u1c3.1 u1c3.2.1 u1c3.2.2, .int .i64 u1c4, .int .i64 u1c5] 27)))))
else
(some (.bool false, (World.alloc (World.alloc w0 (.cells #[.int .i64 u0c0, .int .i64 u0c1, .int .i64 u0c2, .slice u0c3.1 u0c3.2.1 u0c3.2.2, .int .i64 u0c4, .int .i64 u0c5] 27)) (.cells #[.int .i64 u1c0, .int .i64 u1c1, .int .i64 u1c2, .slice u1c3.1 u1c3.2.1 u1c3.2.2, .int .i64 u1c4, .int .i64 u1c5] 27)))))
else
(some (.bool false, (World.alloc (World.alloc w0 (.cells #[.int .i64 u0c0, .int .i64 u0c1, .int .i64 u0c2, .slice u0c3.1 u0c3.2.1 u0c3.2.2, .int .i64 u0c4, .int .i64 u0c5] 27)) (.cells #[.int .i64 u1c0, .int .i64 u1c1, .int .i64 u1c2, .slice u1c3.1 u1c3.2.1 u1c3.2.2, .int .i64 u1c4, .int .i64 u1c5] 27))))

theorem g17_eq (u0c0 : Int) (u0c1 : Int) (u0c2 : Int) (u0c3 : Option Addr × Nat × Nat) (u0c4 : Int) (u0c5 : Int) (u1c0 : Int) (u1c1 : Int) (u1c2 : Int) (u1c3 : Option Addr × Nat × Nat) (u1c4 : Int) (u1c5 : Int) (w0 : World) : evFn Try.prog 17 g17_ann #[.agg #[.int .i64 u0c0, .int .i64 u0c1, .int .i64 u0c2, .slice u0c3.1 u0c3.2.1 u0c3.2.2, .int .i64 u0c4, .int .i64 u0c5], .agg #[.int .i64 u1c0, .int .i64 u1c1, .int .i64 u1c2, .slice u1c3.1 u1c3.2.1 u1c3.2.2, .int .i64 u1c4, .int .i64 u1c5]] w0 = g17 u0c0 u0c1 u0c2 u0c3 u0c4 u0c5 u1c0 u1c1 u1c2 u1c3 u1c4 u1c5 w0 := by kernel_rfl

theorem g17_call {u0c0 : Int} {u0c1 : Int} {u0c2 : Int} {u0c3 : Option Addr × Nat × Nat} {u0c4 : Int} {u0c5 : Int} {u1c0 : Int} {u1c1 : Int} {u1c2 : Int} {u1c3 : Option Addr × Nat × Nat} {u1c4 : Int} {u1c5 : Int} {w0 : World} {r : Value × World} (h : g17 u0c0 u0c1 u0c2 u0c3 u0c4 u0c5 u1c0 u1c1 u1c2 u1c3 u1c4 u1c5 w0 = some r) : callF Try.prog 17 #[.agg #[.int .i64 u0c0, .int .i64 u0c1, .int .i64 u0c2, .slice u0c3.1 u0c3.2.1 u0c3.2.2, .int .i64 u0c4, .int .i64 u0c5], .agg #[.int .i64 u1c0, .int .i64 u1c1, .int .i64 u1c2, .slice u1c3.1 u1c3.2.1 u1c3.2.2, .int .i64 u1c4, .int .i64 u1c5]] w0 = some r :=
  callF_of_evFn (ann := g17_ann) Try.call17 (by kernel_rfl) ((g17_eq u0c0 u0c1 u0c2 u0c3 u0c4 u0c5 u1c0 u1c1 u1c2 u1c3 u1c4 u1c5 w0).trans h)

/-! 18: penstock/group.Decode (b: []uint8) -/
def g18_ann : List (List Nat × List Nat) := []

noncomputable def g18 (u0 : Option Addr × Nat × Nat) (w0 : World) : Option (Value × World) :=
(callF Try.prog 39 #[.slice u0.1 u0.2.1 u0.2.2] (World.alloc w0 (.cells #[.int .i64 0, .int .i64 0, .int .i64 0, .slice none 0 0, .int .i64 0, .int .i64 0] 27))).bind fun r1 =>
(asP r1.1).bind fun p2 =>
(callF Try.prog 40 #[.pointer p2] r1.2).bind fun r3 =>
(asI .i64 r3.1).bind fun n4 =>
(callF Try.prog 40 #[.pointer p2] r3.2).bind fun r5 =>
(asI .i64 r5.1).bind fun n6 =>
(callF Try.prog 40 #[.pointer p2] r5.2).bind fun r7 =>
(asI .i64 r7.1).bind fun n8 =>
(callF Try.prog 40 #[.pointer p2] r7.2).bind fun r9 =>
(asI .i64 r9.1).bind fun n10 =>
(callF Try.prog 40 #[.pointer p2] r9.2).bind fun r11 =>
(asI .i64 r11.1).bind fun n12 =>
(callF Try.prog 41 #[.pointer p2] r11.2).bind fun r13 =>
(asSl r13.1).bind fun q14 =>
(stL (World.alloc r13.2 (.cells #[.int .i64 0, .int .i64 0, .int .i64 0, .slice none 0 0, .int .i64 0, .int .i64 0] 27)) (⟨r13.2.heap.size, 0, none⟩) [.int .i64 n4, .int .i64 n6, .int .i64 n8, .slice q14.1 q14.2.1 q14.2.2, .int .i64 n10, .int .i64 n12] 0).bind fun w15 =>
(callF Try.prog 42 #[.pointer p2] w15).bind fun r16 =>
(asI .i64 r16.1).bind fun n17 =>
if ((n17 : Int) != 0) = true then
((stL r16.2 (⟨w0.heap.size, 0, none⟩) [.int .i64 0, .int .i64 0, .int .i64 0, .slice none 0 0, .int .i64 0, .int .i64 0] 0).bind fun w18 =>
(ldN w18 (⟨w0.heap.size, 0, none⟩) 0 6).bind fun l19 =>
(asI .i64 (l19.getD 0 undef)).bind fun n20 =>
(asI .i64 (l19.getD 1 undef)).bind fun n21 =>
(asI .i64 (l19.getD 2 undef)).bind fun n22 =>
(asSl (l19.getD 3 undef)).bind fun q23 =>
(asI .i64 (l19.getD 4 undef)).bind fun n24 =>
(asI .i64 (l19.getD 5 undef)).bind fun n25 =>
some (.tuple #[.agg #[.int .i64 n20, .int .i64 n21, .int .i64 n22, .slice q23.1 q23.2.1 q23.2.2, .int .i64 n24, .int .i64 n25], .int .i64 n17], w18))
else
((ldN r16.2 (⟨r13.2.heap.size, 0, none⟩) 0 6).bind fun l26 =>
(asI .i64 (l26.getD 0 undef)).bind fun n27 =>
(asI .i64 (l26.getD 1 undef)).bind fun n28 =>
(asI .i64 (l26.getD 2 undef)).bind fun n29 =>
(asSl (l26.getD 3 undef)).bind fun q30 =>
(asI .i64 (l26.getD 4 undef)).bind fun n31 =>
(asI .i64 (l26.getD 5 undef)).bind fun n32 =>
(callF Try.prog 34 #[.agg #[.int .i64 n27, .int .i64 n28, .int .i64 n29, .slice q30.1 q30.2.1 q30.2.2, .int .i64 n31, .int .i64 n32]] r16.2).bind fun r33 =>
(asB r33.1).bind fun b34 =>
if b34 = true then
((stL r33.2 (⟨w0.heap.size, 0, none⟩) [.int .i64 0, .int .i64 0, .int .i64 0, .slice none 0 0, .int .i64 0, .int .i64 0] 0).bind fun w35 =>
(ldN w35 (⟨w0.heap.size, 0, none⟩) 0 6).bind fun l36 =>
(asI .i64 (l36.getD 0 undef)).bind fun n37 =>
(asI .i64 (l36.getD 1 undef)).bind fun n38 =>
(asI .i64 (l36.getD 2 undef)).bind fun n39 =>
(asSl (l36.getD 3 undef)).bind fun q40 =>
(asI .i64 (l36.getD 4 undef)).bind fun n41 =>
(asI .i64 (l36.getD 5 undef)).bind fun n42 =>
some (.tuple #[.agg #[.int .i64 n37, .int .i64 n38, .int .i64 n39, .slice q40.1 q40.2.1 q40.2.2, .int .i64 n41, .int .i64 n42], .int .i64 1], w35))
else
((ldN r33.2 (⟨r13.2.heap.size, 0, none⟩) 0 6).bind fun l43 =>
(asI .i64 (l43.getD 0 undef)).bind fun n44 =>
(asI .i64 (l43.getD 1 undef)).bind fun n45 =>
(asI .i64 (l43.getD 2 undef)).bind fun n46 =>
(asSl (l43.getD 3 undef)).bind fun q47 =>
(asI .i64 (l43.getD 4 undef)).bind fun n48 =>
(asI .i64 (l43.getD 5 undef)).bind fun n49 =>
(stL r33.2 (⟨w0.heap.size, 0, none⟩) [.int .i64 n44, .int .i64 n45, .int .i64 n46, .slice q47.1 q47.2.1 q47.2.2, .int .i64 n48, .int .i64 n49] 0).bind fun w50 =>
(ldN w50 (⟨w0.heap.size, 0, none⟩) 0 6).bind fun l51 =>
(asI .i64 (l51.getD 0 undef)).bind fun n52 =>
(asI .i64 (l51.getD 1 undef)).bind fun n53 =>
(asI .i64 (l51.getD 2 undef)).bind fun n54 =>
(asSl (l51.getD 3 undef)).bind fun q55 =>
(asI .i64 (l51.getD 4 undef)).bind fun n56 =>
(asI .i64 (l51.getD 5 undef)).bind fun n57 =>
some (.tuple #[.agg #[.int .i64 n52, .int .i64 n53, .int .i64 n54, .slice q55.1 q55.2.1 q55.2.2, .int .i64 n56, .int .i64 n57], .int .i64 0], w50)))

theorem g18_eq (u0 : Option Addr × Nat × Nat) (w0 : World) : evFn Try.prog 18 g18_ann #[.slice u0.1 u0.2.1 u0.2.2] w0 = g18 u0 w0 := by kernel_rfl

theorem g18_call {u0 : Option Addr × Nat × Nat} {w0 : World} {r : Value × World} (h : g18 u0 w0 = some r) : callF Try.prog 18 #[.slice u0.1 u0.2.1 u0.2.2] w0 = some r :=
  callF_of_evFn (ann := g18_ann) Try.call18 (by kernel_rfl) ((g18_eq u0 w0).trans h)

/-! 24: penstock/penstockref03.SameInts (a: []int, b: []int) -/
def g24_ann : List (List Nat × List Nat) := [([0, 1, 0, 1, 1], [0, 1, 4, 5])]

def g24_l3_cs (u0 : Option Addr × Nat × Nat) (u1 : Option Addr × Nat × Nat) : List (Nat × Value) := ([(0, .slice u0.1 u0.2.1 u0.2.2), (1, .slice u1.1 u1.2.1 u1.2.2)] : List (Nat × Value))

/-- the round of a loop (penstock/penstockref03.SameInts) -/
noncomputable def g24_l3_b (u0 : Option Addr × Nat × Nat) (u1 : Option Addr × Nat × Nat) (s4 : Bool × Int) (w5 : World) : Option (Exit × (Bool × Int) × World) :=
if (decide ((s4.2 : Int) < (u0.2.1 : Int))) = true then
((idxA u0.1 u0.2.1 1 s4.2).bind fun a7 =>
(World.cell? (World.drew w5) a7).bind fun v8 =>
(asI .i64 v8).bind fun n9 =>
(idxA u1.1 u1.2.1 1 s4.2).bind fun a10 =>
(World.cell? (World.drew w5) a10).bind fun v11 =>
(asI .i64 v11).bind fun n12 =>
if ((n9 : Int) != n12) = true then
(some (.ret, (false, s4.2), (World.drew w5)))
else
(some (.normal, (s4.1, (IntKind.i64.wrap (s4.2 + 1))), (World.drew w5))))
else
(some ((.exit 0), (s4.1, s4.2), w5))

noncomputable def g24_K13  : Exit → Env → World → Option (Value × World) :=
  retK Try.prog Try.f24.results.toList

noncomputable def g24_K14  : Exit → Env → World → Option (Value × World) :=
  seqK (ev Try.prog 26 24 g24_ann (cAt [1, 1, 1] (bodyOf Try.f24)) [1, 1, 1] g24_K13) g24_K13

noncomputable def g24_K15  : Exit → Env → World → Option (Value × World) :=
  blkK 0 g24_K14

/-- the loop, from a state on -/
noncomputable def g24_l3 (u0 : Option Addr × Nat × Nat) (u1 : Option Addr × Nat × Nat) (s : Bool × Int) (w : World) : Option (Value × World) :=
  loopM Try.prog 26 24 g24_ann (cAt [1, 1, 0, 1, 0, 0] (bodyOf Try.f24)) [0, 1, 0, 1, 1] g24_K15 ((g24_l3_cs u0 u1) ++ sputs [(4, .b), (5, .i .i64)] s) w

/-- behind the loop, left by x0 -/
noncomputable def g24_l3_x0  (t16 : Bool × Int) (w17 : World) : Option (Value × World) :=
some (.bool true, w17)

/-- behind the loop, left by ret -/
noncomputable def g24_l3_ret  (t18 : Bool × Int) (w19 : World) : Option (Value × World) :=
some (.bool t18.1, w19)

noncomputable def g24 (u0 : Option Addr × Nat × Nat) (u1 : Option Addr × Nat × Nat) (w0 : World) : Option (Value × World) :=
if (((u0.2.1 : Int) : Int) != (u1.2.1 : Int)) = true then
(some (.bool false, w0))
else
(g24_l3 u0 u1 (false, 0) w0)

theorem g24_eq (u0 : Option Addr × Nat × Nat) (u1 : Option Addr × Nat × Nat) (w0 : World) : evFn Try.prog 24 g24_ann #[.slice u0.1 u0.2.1 u0.2.2, .slice u1.1 u1.2.1 u1.2.2] w0 = g24 u0 u1 w0 := by kernel_rfl

theorem g24_call {u0 : Option Addr × Nat × Nat} {u1 : Option Addr × Nat × Nat} {w0 : World} {r : Value × World} (h : g24 u0 u1 w0 = some r) : callF Try.prog 24 #[.slice u0.1 u0.2.1 u0.2.2, .slice u1.1 u1.2.1 u1.2.2] w0 = some r :=
  callF_of_evFn (ann := g24_ann) Try.call24 (by kernel_rfl) ((g24_eq u0 u1 w0).trans h)

theorem g24_l3_x0_of {u0 : Option Addr × Nat × Nat} {u1 : Option Addr × Nat × Nat} {s t : Bool × Int} {w w' : World} (h : loopS (g24_l3_b u0 u1) s w = some (.exit 0, t, w')) : g24_l3 u0 u1 s w = g24_l3_x0 t w' := by
  have h1 : g24_l3 u0 u1 s w = loopM Try.prog 26 24 g24_ann (cAt [1, 1, 0, 1, 0, 0] (bodyOf Try.f24)) [0, 1, 0, 1, 1] g24_K15 ((g24_l3_cs u0 u1) ++ sputs [(4, .b), (5, .i .i64)] s) w := by kernel_rfl
  have h2 : loopM Try.prog 26 24 g24_ann (cAt [1, 1, 0, 1, 0, 0] (bodyOf Try.f24)) [0, 1, 0, 1, 1] g24_K15 ((g24_l3_cs u0 u1) ++ sputs [(4, .b), (5, .i .i64)] s) w = g24_K15 (.exit 0) (puts 26 ((g24_l3_cs u0 u1) ++ sputs [(4, .b), (5, .i .i64)] t)) w' :=
    loop_rule (P := Try.prog) (N := 26) (f := 24) (ann := g24_ann) (body := (cAt [1, 1, 0, 1, 0, 0] (bodyOf Try.f24))) (pt := [0, 1, 0, 1, 1]) (K := g24_K15) (g24_l3_cs u0 u1) [(4, .b), (5, .i .i64)] (b := g24_l3_b u0 u1) (fun s w => by kernel_rfl) (by kernel_rfl) (by kernel_rfl) (by kernel_rfl) h
  have h3 : g24_K15 (.exit 0) (puts 26 ((g24_l3_cs u0 u1) ++ sputs [(4, .b), (5, .i .i64)] t)) w' = g24_l3_x0 t w' := by kernel_rfl
  exact h1.trans (h2.trans h3)

theorem g24_l3_ret_of {u0 : Option Addr × Nat × Nat} {u1 : Option Addr × Nat × Nat} {s t : Bool × Int} {w w' : World} (h : loopS (g24_l3_b u0 u1) s w = some (.ret, t, w')) : g24_l3 u0 u1 s w = g24_l3_ret t w' := by
  have h1 : g24_l3 u0 u1 s w = loopM Try.prog 26 24 g24_ann (cAt [1, 1, 0, 1, 0, 0] (bodyOf Try.f24)) [0, 1, 0, 1, 1] g24_K15 ((g24_l3_cs u0 u1) ++ sputs [(4, .b), (5, .i .i64)] s) w := by kernel_rfl
  have h2 : loopM Try.prog 26 24 g24_ann (cAt [1, 1, 0, 1, 0, 0] (bodyOf Try.f24)) [0, 1, 0, 1, 1] g24_K15 ((g24_l3_cs u0 u1) ++ sputs [(4, .b), (5, .i .i64)] s) w = g24_K15 (.ret) (puts 26 ((g24_l3_cs u0 u1) ++ sputs [(4, .b), (5, .i .i64)] t)) w' :=
    loop_rule (P := Try.prog) (N := 26) (f := 24) (ann := g24_ann) (body := (cAt [1, 1, 0, 1, 0, 0] (bodyOf Try.f24))) (pt := [0, 1, 0, 1, 1]) (K := g24_K15) (g24_l3_cs u0 u1) [(4, .b), (5, .i .i64)] (b := g24_l3_b u0 u1) (fun s w => by kernel_rfl) (by kernel_rfl) (by kernel_rfl) (by kernel_rfl) h
  have h3 : g24_K15 (.ret) (puts 26 ((g24_l3_cs u0 u1) ++ sputs [(4, .b), (5, .i .i64)] t)) w' = g24_l3_ret t w' := by kernel_rfl
  exact h1.trans (h2.trans h3)

/-! 28: penstock/penstockref16.bad (r: api.GrRec) -/
def g28_ann : List (List Nat × List Nat) := [([0, 1, 0, 1, 1, 1], [1, 2, 3, 4]), ([0, 1, 0, 1, 1, 1], [1, 2, 3, 4])]

def g28_l20_cs (w0 : World) : List (Nat × Value) := ([(1, .pointer (some (⟨w0.heap.size, 0, none⟩)))] : List (Nat × Value))

/-- the round of a loop (penstock/penstockref16.bad) -/
noncomputable def g28_l20_b (w0 : World) (s21 : Bool × Int × Int) (w22 : World) : Option (Exit × (Bool × Int × Int) × World) :=
(World.cell? w22 (Addr.add (⟨w0.heap.size, 0, none⟩) 3)).bind fun v23 =>
(asSl v23).bind fun q24 =>
if (decide ((s21.2.2 : Int) < (q24.2.1 : Int))) = true then
((World.cell? w22 (Addr.add (⟨w0.heap.size, 0, none⟩) 3)).bind fun v26 =>
(asSl v26).bind fun q27 =>
(idxA q27.1 q27.2.1 1 s21.2.2).bind fun a28 =>
(World.cell? w22 a28).bind fun v29 =>
(asI .i64 v29).bind fun n30 =>
if (decide ((n30 : Int) ≤ s21.2.1)) = true then
(some (.ret, (true, s21.2.1, s21.2.2), w22))
else
((World.cell? w22 (Addr.add (⟨w0.heap.size, 0, none⟩) 3)).bind fun v31 =>
(asSl v31).bind fun q32 =>
(idxA q32.1 q32.2.1 1 s21.2.2).bind fun a33 =>
(World.cell? w22 a33).bind fun v34 =>
(asI .i64 v34).bind fun n35 =>
some (.normal, (s21.1, n35, (IntKind.i64.wrap (s21.2.2 + 1))), w22)))
else
(some ((.exit 0), (s21.1, s21.2.1, s21.2.2), w22))

noncomputable def g28_K36  : Exit → Env → World → Option (Value × World) :=
  retK Try.prog Try.f28.results.toList

noncomputable def g28_K37  : Exit → Env → World → Option (Value × World) :=
  seqK (ev Try.prog 68 28 g28_ann (cAt [1, 1, 1, 1] (bodyOf Try.f28)) [1, 1, 1, 1] g28_K36) g28_K36

noncomputable def g28_K38  : Exit → Env → World → Option (Value × World) :=
  blkK 0 g28_K37

/-- the loop, from a state on -/
noncomputable def g28_l20 (w0 : World) (s : Bool × Int × Int) (w : World) : Option (Value × World) :=
  loopM Try.prog 68 28 g28_ann (cAt [1, 1, 1, 0, 1, 0, 0] (bodyOf Try.f28)) [0, 1, 0, 1, 1, 1] g28_K38 ((g28_l20_cs w0) ++ sputs [(2, .b), (3, .i .i64), (4, .i .i64)] s) w

/-- behind the loop, left by x0 -/
noncomputable def g28_l20_x0  (t39 : Bool × Int × Int) (w40 : World) : Option (Value × World) :=
some (.bool false, w40)

/-- behind the loop, left by ret -/
noncomputable def g28_l20_ret  (t41 : Bool × Int × Int) (w42 : World) : Option (Value × World) :=
some (.bool t41.1, w42)

def g28_l58_cs (w0 : World) : List (Nat × Value) := ([(1, .pointer (some (⟨w0.heap.size, 0, none⟩)))] : List (Nat × Value))

/-- the round of a loop (penstock/penstockref16.bad) -/
noncomputable def g28_l58_b (w0 : World) (s59 : Bool × Int × Int) (w60 : World) : Option (Exit × (Bool × Int × Int) × World) :=
(World.cell? w60 (Addr.add (⟨w0.heap.size, 0, none⟩) 3)).bind fun v61 =>
(asSl v61).bind fun q62 =>
if (decide ((s59.2.2 : Int) < (q62.2.1 : Int))) = true then
((World.cell? w60 (Addr.add (⟨w0.heap.size, 0, none⟩) 3)).bind fun v64 =>
(asSl v64).bind fun q65 =>
(idxA q65.1 q65.2.1 1 s59.2.2).bind fun a66 =>
(World.cell? w60 a66).bind fun v67 =>
(asI .i64 v67).bind fun n68 =>
if (decide ((n68 : Int) ≤ s59.2.1)) = true then
(some (.ret, (true, s59.2.1, s59.2.2), w60))
else
((World.cell? w60 (Addr.add (⟨w0.heap.size, 0, none⟩) 3)).bind fun v69 =>
(asSl v69).bind fun q70 =>
(idxA q70.1 q70.2.1 1 s59.2.2).bind fun a71 =>
(World.cell? w60 a71).bind fun v72 =>
(asI .i64 v72).bind fun n73 =>
some (.normal, (s59.1, n73, (IntKind.i64.wrap (s59.2.2 + 1))), w60)))
else
(some ((.exit 0), (s59.1, s59.2.1, s59.2.2), w60))

noncomputable def g28_K74  : Exit → Env → World → Option (Value × World) :=
  seqK (ev Try.prog 68 28 g28_ann (cAt [1, 1, 1, 1] (bodyOf Try.f28)) [1, 1, 1, 1] g28_K36) g28_K36

noncomputable def g28_K75  : Exit → Env → World → Option (Value × World) :=
  blkK 0 g28_K74

/-- the loop, from a state on -/
noncomputable def g28_l58 (w0 : World) (s : Bool × Int × Int) (w : World) : Option (Value × World) :=
  loopM Try.prog 68 28 g28_ann (cAt [1, 1, 1, 0, 1, 0, 0] (bodyOf Try.f28)) [0, 1, 0, 1, 1, 1] g28_K75 ((g28_l58_cs w0) ++ sputs [(2, .b), (3, .i .i64), (4, .i .i64)] s) w

/-- behind the loop, left by x0 -/
noncomputable def g28_l58_x0  (t76 : Bool × Int × Int) (w77 : World) : Option (Value × World) :=
some (.bool false, w77)

/-- behind the loop, left by ret -/
noncomputable def g28_l58_ret  (t78 : Bool × Int × Int) (w79 : World) : Option (Value × World) :=
some (.bool t78.1, w79)

noncomputable def g28 (u0c0 : Int) (u0c1 : Int) (u0c2 : Int) (u0c3 : Option Addr × Nat × Nat) (u0c4 : Int) (u0c5 : Int) (w0 : World) : Option (Value × World) :=
(World.cell? (World.alloc w0 (.cells #[.int .i64 u0c0, .int .i64 u0c1, .int .i64 u0c2, .slice u0c3.1 u0c3.2.1 u0c3.2.2, .int .i64 u0c4, .int .i64 u0c5] 27)) (⟨w0.heap.size, 0, none⟩)).bind fun v1 =>
(asI .i64 v1).bind fun n2 =>
if ((n2 : Int) != 1) = true then
((World.cell? (World.alloc w0 (.cells #[.int .i64 u0c0, .int .i64 u0c1, .int .i64 u0c2, .slice u0c3.1 u0c3.2.1 u0c3.2.2, .int .i64 u0c4, .int .i64 u0c5] 27)) (⟨w0.heap.size, 0, none⟩)).bind fun v3 =>
(asI .i64 v3).bind fun n4 =>
if ((n4 : Int) != 2) = true then
(some (.bool true, (World.alloc w0 (.cells #[.int .i64 u0c0, .int .i64 u0c1, .int .i64 u0c2, .slice u0c3.1 u0c3.2.1 u0c3.2.2, .int .i64 u0c4, .int .i64 u0c5] 27))))
else
((World.cell? (World.alloc w0 (.cells #[.int .i64 u0c0, .int .i64 u0c1, .int .i64 u0c2, .slice u0c3.1 u0c3.2.1 u0c3.2.2, .int .i64 u0c4, .int .i64 u0c5] 27)) (Addr.add (⟨w0.heap.size, 0, none⟩) 1)).bind fun v5 =>
(asI .i64 v5).bind fun n6 =>
if (decide ((n6 : Int) < 0)) = true then
(some (.bool true, (World.alloc w0 (.cells #[.int .i64 u0c0, .int .i64 u0c1, .int .i64 u0c2, .slice u0c3.1 u0c3.2.1 u0c3.2.2, .int .i64 u0c4, .int .i64 u0c5] 27))))
else
((World.cell? (World.alloc w0 (.cells #[.int .i64 u0c0, .int .i64 u0c1, .int .i64 u0c2, .slice u0c3.1 u0c3.2.1 u0c3.2.2, .int .i64 u0c4, .int .i64 u0c5] 27)) (Addr.add (⟨w0.heap.size, 0, none⟩) 1)).bind fun v7 =>
(asI .i64 v7).bind fun n8 =>
if (decide ((n8 : Int) > 7)) = true then
(some (.bool true, (World.alloc w0 (.cells #[.int .i64 u0c0, .int .i64 u0c1, .int .i64 u0c2, .slice u0c3.1 u0c3.2.1 u0c3.2.2, .int .i64 u0c4, .int .i64 u0c5] 27))))
else
((World.cell? (World.alloc w0 (.cells #[.int .i64 u0c0, .int .i64 u0c1, .int .i64 u0c2, .slice u0c3.1 u0c3.2.1 u0c3.2.2, .int .i64 u0c4, .int .i64 u0c5] 27)) (Addr.add (⟨w0.heap.size, 0, none⟩) 2)).bind fun v9 =>
(asI .i64 v9).bind fun n10 =>
if (decide ((n10 : Int) < 0)) = true then
(some (.bool true, (World.alloc w0 (.cells #[.int .i64 u0c0, .int .i64 u0c1, .int .i64 u0c2, .slice u0c3.1 u0c3.2.1 u0c3.2.2, .int .i64 u0c4, .int .i64 u0c5] 27))))
else
((World.cell? (World.alloc w0 (.cells #[.int .i64 u0c0, .int .i64 u0c1, .int .i64 u0c2, .slice u0c3.1 u0c3.2.1 u0c3.2.2, .int .i64 u0c4, .int .i64 u0c5] 27)) (Addr.add (⟨w0.heap.size, 0, none⟩) 5)).bind fun v11 =>
(asI .i64 v11).bind fun n12 =>
if (decide ((n12 : Int) < 0)) = true then
(some (.bool true, (World.alloc w0 (.cells #[.int .i64 u0c0, .int .i64 u0c1, .int .i64 u0c2, .slice u0c3.1 u0c3.2.1 u0c3.2.2, .int .i64 u0c4, .int .i64 u0c5] 27))))
else
((World.cell? (World.alloc w0 (.cells #[.int .i64 u0c0, .int .i64 u0c1, .int .i64 u0c2, .slice u0c3.1 u0c3.2.1 u0c3.2.2, .int .i64 u0c4, .int .i64 u0c5] 27)) (Addr.add (⟨w0.heap.size, 0, none⟩) 4)).bind fun v13 =>
(asI .i64 v13).bind fun n14 =>
if (decide ((n14 : Int) < 0)) = true then
(some (.bool true, (World.alloc w0 (.cells #[.int .i64 u0c0, .int .i64 u0c1, .int .i64 u0c2, .slice u0c3.1 u0c3.2.1 u0c3.2.2, .int .i64 u0c4, .int .i64 u0c5] 27))))
else
((World.cell? (World.alloc w0 (.cells #[.int .i64 u0c0, .int .i64 u0c1, .int .i64 u0c2, .slice u0c3.1 u0c3.2.1 u0c3.2.2, .int .i64 u0c4, .int .i64 u0c5] 27)) (Addr.add (⟨w0.heap.size, 0, none⟩) 4)).bind fun v15 =>
(asI .i64 v15).bind fun n16 =>
if (decide ((n16 : Int) > 3)) = true then
(some (.bool true, (World.alloc w0 (.cells #[.int .i64 u0c0, .int .i64 u0c1, .int .i64 u0c2, .slice u0c3.1 u0c3.2.1 u0c3.2.2, .int .i64 u0c4, .int .i64 u0c5] 27))))
else
((World.cell? (World.alloc w0 (.cells #[.int .i64 u0c0, .int .i64 u0c1, .int .i64 u0c2, .slice u0c3.1 u0c3.2.1 u0c3.2.2, .int .i64 u0c4, .int .i64 u0c5] 27)) (Addr.add (⟨w0.heap.size, 0, none⟩) 3)).bind fun v17 =>
(asSl v17).bind fun q18 =>
if (decide (((q18.2.1 : Int) : Int) > 8)) = true then
(some (.bool true, (World.alloc w0 (.cells #[.int .i64 u0c0, .int .i64 u0c1, .int .i64 u0c2, .slice u0c3.1 u0c3.2.1 u0c3.2.2, .int .i64 u0c4, .int .i64 u0c5] 27))))
else
(g28_l20 w0 (false, (-1), 0) (World.alloc w0 (.cells #[.int .i64 u0c0, .int .i64 u0c1, .int .i64 u0c2, .slice u0c3.1 u0c3.2.1 u0c3.2.2, .int .i64 u0c4, .int .i64 u0c5] 27)))))))))))
else
((World.cell? (World.alloc w0 (.cells #[.int .i64 u0c0, .int .i64 u0c1, .int .i64 u0c2, .slice u0c3.1 u0c3.2.1 u0c3.2.2, .int .i64 u0c4, .int .i64 u0c5] 27)) (Addr.add (⟨w0.heap.size, 0, none⟩) 1)).bind fun v43 =>
(asI .i64 v43).bind fun n44 =>
if (decide ((n44 : Int) < 0)) = true then
(some (.bool true, (World.alloc w0 (.cells #[.int .i64 u0c0, .int .i64 u0c1, .int .i64 u0c2, .slice u0c3.1 u0c3.2.1 u0c3.2.2, .int .i64 u0c4, .int .i64 u0c5] 27))))
else
((World.cell? (World.alloc w0 (.cells #[.int .i64 u0c0, .int .i64 u0c1, .int .i64 u0c2, .slice u0c3.1 u0c3.2.1 u0c3.2.2, .int .i64 u0c4, .int .i64 u0c5] 27)) (Addr.add (⟨w0.heap.size, 0, none⟩) 1)).bind fun v45 =>
(asI .i64 v45).bind fun n46 =>
if (decide ((n46 : Int) > 7)) = true then
(some (.bool true, (World.alloc w0 (.cells #[.int .i64 u0c0, .int .i64 u0c1, .int .i64 u0c2, .slice u0c3.1 u0c3.2.1 u0c3.2.2, .int .i64 u0c4, .int .i64 u0c5] 27))))
else
((World.cell? (World.alloc w0 (.cells #[.int .i64 u0c0, .int .i64 u0c1, .int .i64 u0c2, .slice u0c3.1 u0c3.2.1 u0c3.2.2, .int .i64 u0c4, .int .i64 u0c5] 27)) (Addr.add (⟨w0.heap.size, 0, none⟩) 2)).bind fun v47 =>
(asI .i64 v47).bind fun n48 =>
if (decide ((n48 : Int) < 0)) = true then
(some (.bool true, (World.alloc w0 (.cells #[.int .i64 u0c0, .int .i64 u0c1, .int .i64 u0c2, .slice u0c3.1 u0c3.2.1 u0c3.2.2, .int .i64 u0c4, .int .i64 u0c5] 27))))
else
((World.cell? (World.alloc w0 (.cells #[.int .i64 u0c0, .int .i64 u0c1, .int .i64 u0c2, .slice u0c3.1 u0c3.2.1 u0c3.2.2, .int .i64 u0c4, .int .i64 u0c5] 27)) (Addr.add (⟨w0.heap.size, 0, none⟩) 5)).bind fun v49 =>
(asI .i64 v49).bind fun n50 =>
if (decide ((n50 : Int) < 0)) = true then
(some (.bool true, (World.alloc w0 (.cells #[.int .i64 u0c0, .int .i64 u0c1, .int .i64 u0c2, .slice u0c3.1 u0c3.2.1 u0c3.2.2, .int .i64 u0c4, .int .i64 u0c5] 27))))
else
((World.cell? (World.alloc w0 (.cells #[.int .i64 u0c0, .int .i64 u0c1, .int .i64 u0c2, .slice u0c3.1 u0c3.2.1 u0c3.2.2, .int .i64 u0c4, .int .i64 u0c5] 27)) (Addr.add (⟨w0.heap.size, 0, none⟩) 4)).bind fun v51 =>
(asI .i64 v51).bind fun n52 =>
if (decide ((n52 : Int) < 0)) = true then
(some (.bool true, (World.alloc w0 (.cells #[.int .i64 u0c0, .int .i64 u0c1, .int .i64 u0c2, .slice u0c3.1 u0c3.2.1 u0c3.2.2, .int .i64 u0c4, .int .i64 u0c5] 27))))
else
((World.cell? (World.alloc w0 (.cells #[.int .i64 u0c0, .int .i64 u0c1, .int .i64 u0c2, .slice u0c3.1 u0c3.2.1 u0c3.2.2, .int .i64 u0c4, .int .i64 u0c5] 27)) (Addr.add (⟨w0.heap.size, 0, none⟩) 4)).bind fun v53 =>
(asI .i64 v53).bind fun n54 =>
if (decide ((n54 : Int) > 3)) = true then
(some (.bool true, (World.alloc w0 (.cells #[.int .i64 u0c0, .int .i64 u0c1, .int .i64 u0c2, .slice u0c3.1 u0c3.2.1 u0c3.2.2, .int .i64 u0c4, .int .i64 u0c5] 27))))
else
((World.cell? (World.alloc w0 (.cells #[.int .i64 u0c0, .int .i64 u0c1, .int .i64 u0c2, .slice u0c3.1 u0c3.2.1 u0c3.2.2, .int .i64 u0c4, .int .i64 u0c5] 27)) (Addr.add (⟨w0.heap.size, 0, none⟩) 3)).bind fun v55 =>
(asSl v55).bind fun q56 =>
if (decide (((q56.2.1 : Int) : Int) > 8)) = true then
(some (.bool true, (World.alloc w0 (.cells #[.int .i64 u0c0, .int .i64 u0c1, .int .i64 u0c2, .slice u0c3.1 u0c3.2.1 u0c3.2.2, .int .i64 u0c4, .int .i64 u0c5] 27))))
else
(g28_l58 w0 (false, (-1), 0) (World.alloc w0 (.cells #[.int .i64 u0c0, .int .i64 u0c1, .int .i64 u0c2, .slice u0c3.1 u0c3.2.1 u0c3.2.2, .int .i64 u0c4, .int .i64 u0c5] 27))))))))))

theorem g28_eq (u0c0 : Int) (u0c1 : Int) (u0c2 : Int) (u0c3 : Option Addr × Nat × Nat) (u0c4 : Int) (u0c5 : Int) (w0 : World) : evFn Try.prog 28 g28_ann #[.agg #[.int .i64 u0c0, .int .i64 u0c1, .int .i64 u0c2, .slice u0c3.1 u0c3.2.1 u0c3.2.2, .int .i64 u0c4, .int .i64 u0c5]] w0 = g28 u0c0 u0c1 u0c2 u0c3 u0c4 u0c5 w0 := by kernel_rfl

theorem g28_call {u0c0 : Int} {u0c1 : Int} {u0c2 : Int} {u0c3 : Option Addr × Nat × Nat} {u0c4 : Int} {u0c5 : Int} {w0 : World} {r : Value × World} (h : g28 u0c0 u0c1 u0c2 u0c3 u0c4 u0c5 w0 = some r) : callF Try.prog 28 #[.agg #[.int .i64 u0c0, .int .i64 u0c1, .int .i64 u0c2, .slice u0c3.1 u0c3.2.1 u0c3.2.2, .int .i64 u0c4, .int .i64 u0c5]] w0 = some r :=
  callF_of_evFn (ann := g28_ann) Try.call28 (by kernel_rfl) ((g28_eq u0c0 u0c1 u0c2 u0c3 u0c4 u0c5 w0).trans h)

theorem g28_l20_x0_of {w0 : World} {s t : Bool × Int × Int} {w w' : World} (h : loopS (g28_l20_b w0) s w = some (.exit 0, t, w')) : g28_l20 w0 s w = g28_l20_x0 t w' := by
  have h1 : g28_l20 w0 s w = loopM Try.prog 68 28 g28_ann (cAt [1, 1, 1, 0, 1, 0, 0] (bodyOf Try.f28)) [0, 1, 0, 1, 1, 1] g28_K38 ((g28_l20_cs w0) ++ sputs [(2, .b), (3, .i .i64), (4, .i .i64)] s) w := by kernel_rfl
  have h2 : loopM Try.prog 68 28 g28_ann (cAt [1, 1, 1, 0, 1, 0, 0] (bodyOf Try.f28)) [0, 1, 0, 1, 1, 1] g28_K38 ((g28_l20_cs w0) ++ sputs [(2, .b), (3, .i .i64), (4, .i .i64)] s) w = g28_K38 (.exit 0) (puts 68 ((g28_l20_cs w0) ++ sputs [(2, .b), (3, .i .i64), (4, .i .i64)] t)) w' :=
    loop_rule (P := Try.prog) (N := 68) (f := 28) (ann := g28_ann) (body := (cAt [1, 1, 1, 0, 1, 0, 0] (bodyOf Try.f28))) (pt := [0, 1, 0, 1, 1, 1]) (K := g28_K38) (g28_l20_cs w0) [(2, .b), (3, .i .i64), (4, .i .i64)] (b := g28_l20_b w0) (fun s w => by kernel_rfl) (by kernel_rfl) (by kernel_rfl) (by kernel_rfl) h
  have h3 : g28_K38 (.exit 0) (puts 68 ((g28_l20_cs w0) ++ sputs [(2, .b), (3, .i .i64), (4, .i .i64)] t)) w' = g28_l20_x0 t w' := by kernel_rfl
  exact h1.trans (h2.trans h3)

theorem g28_l20_ret_of {w0 : World} {s t : Bool × Int × Int} {w w' : World} (h : loopS (g28_l20_b w0) s w = some (.ret, t, w')) : g28_l20 w0 s w = g28_l20_ret t w' := by
  have h1 : g28_l20 w0 s w = loopM Try.prog 68 28 g28_ann (cAt [1, 1, 1, 0, 1, 0, 0] (bodyOf Try.f28)) [0, 1, 0, 1, 1, 1] g28_K38 ((g28_l20_cs w0) ++ sputs [(2, .b), (3, .i .i64), (4, .i .i64)] s) w := by kernel_rfl
  have h2 : loopM Try.prog 68 28 g28_ann (cAt [1, 1, 1, 0, 1, 0, 0] (bodyOf Try.f28)) [0, 1, 0, 1, 1, 1] g28_K38 ((g28_l20_cs w0) ++ sputs [(2, .b), (3, .i .i64), (4, .i .i64)] s) w = g28_K38 (.ret) (puts 68 ((g28_l20_cs w0) ++ sputs [(2, .b), (3, .i .i64), (4, .i .i64)] t)) w' :=
    loop_rule (P := Try.prog) (N := 68) (f := 28) (ann := g28_ann) (body := (cAt [1, 1, 1, 0, 1, 0, 0] (bodyOf Try.f28))) (pt := [0, 1, 0, 1, 1, 1]) (K := g28_K38) (g28_l20_cs w0) [(2, .b), (3, .i .i64), (4, .i .i64)] (b := g28_l20_b w0) (fun s w => by kernel_rfl) (by kernel_rfl) (by kernel_rfl) (by kernel_rfl) h
  have h3 : g28_K38 (.ret) (puts 68 ((g28_l20_cs w0) ++ sputs [(2, .b), (3, .i .i64), (4, .i .i64)] t)) w' = g28_l20_ret t w' := by kernel_rfl
  exact h1.trans (h2.trans h3)

theorem g28_l58_x0_of {w0 : World} {s t : Bool × Int × Int} {w w' : World} (h : loopS (g28_l58_b w0) s w = some (.exit 0, t, w')) : g28_l58 w0 s w = g28_l58_x0 t w' := by
  have h1 : g28_l58 w0 s w = loopM Try.prog 68 28 g28_ann (cAt [1, 1, 1, 0, 1, 0, 0] (bodyOf Try.f28)) [0, 1, 0, 1, 1, 1] g28_K75 ((g28_l58_cs w0) ++ sputs [(2, .b), (3, .i .i64), (4, .i .i64)] s) w := by kernel_rfl
  have h2 : loopM Try.prog 68 28 g28_ann (cAt [1, 1, 1, 0, 1, 0, 0] (bodyOf Try.f28)) [0, 1, 0, 1, 1, 1] g28_K75 ((g28_l58_cs w0) ++ sputs [(2, .b), (3, .i .i64), (4, .i .i64)] s) w = g28_K75 (.exit 0) (puts 68 ((g28_l58_cs w0) ++ sputs [(2, .b), (3, .i .i64), (4, .i .i64)] t)) w' :=
    loop_rule (P := Try.prog) (N := 68) (f := 28) (ann := g28_ann) (body := (cAt [1, 1, 1, 0, 1, 0, 0] (bodyOf Try.f28))) (pt := [0, 1, 0, 1, 1, 1]) (K := g28_K75) (g28_l58_cs w0) [(2, .b), (3, .i .i64), (4, .i .i64)] (b := g28_l58_b w0) (fun s w => by kernel_rfl) (by kernel_rfl) (by kernel_rfl) (by kernel_rfl) h
  have h3 : g28_K75 (.exit 0) (puts 68 ((g28_l58_cs w0) ++ sputs [(2, .b), (3, .i .i64), (4, .i .i64)] t)) w' = g28_l58_x0 t w' := by kernel_rfl
  exact h1.trans (h2.trans h3)

theorem g28_l58_ret_of {w0 : World} {s t : Bool × Int × Int} {w w' : World} (h : loopS (g28_l58_b w0) s w = some (.ret, t, w')) : g28_l58 w0 s w = g28_l58_ret t w' := by
  have h1 : g28_l58 w0 s w = loopM Try.prog 68 28 g28_ann (cAt [1, 1, 1, 0, 1, 0, 0] (bodyOf Try.f28)) [0, 1, 0, 1, 1, 1] g28_K75 ((g28_l58_cs w0) ++ sputs [(2, .b), (3, .i .i64), (4, .i .i64)] s) w := by kernel_rfl
  have h2 : loopM Try.prog 68 28 g28_ann (cAt [1, 1, 1, 0, 1, 0, 0] (bodyOf Try.f28)) [0, 1, 0, 1, 1, 1] g28_K75 ((g28_l58_cs w0) ++ sputs [(2, .b), (3, .i .i64), (4, .i .i64)] s) w = g28_K75 (.ret) (puts 68 ((g28_l58_cs w0) ++ sputs [(2, .b), (3, .i .i64), (4, .i .i64)] t)) w' :=
    loop_rule (P := Try.prog) (N := 68) (f := 28) (ann := g28_ann) (body := (cAt [1, 1, 1, 0, 1, 0, 0] (bodyOf Try.f28))) (pt := [0, 1, 0, 1, 1, 1]) (K := g28_K75) (g28_l58_cs w0) [(2, .b), (3, .i .i64), (4, .i .i64)] (b := g28_l58_b w0) (fun s w => by kernel_rfl) (by kernel_rfl) (by kernel_rfl) (by kernel_rfl) h
  have h3 : g28_K75 (.ret) (puts 68 ((g28_l58_cs w0) ++ sputs [(2, .b), (3, .i .i64), (4, .i .i64)] t)) w' = g28_l58_ret t w' := by kernel_rfl
  exact h1.trans (h2.trans h3)

/-! 29: penstock/penstockref03.Int (n: int) -/
def g29_ann : List (List Nat × List Nat) := []

noncomputable def g29 (u0 : Int) (w0 : World) : Option (Value × World) :=
(callF Try.prog 52 #[.int .i64 u0] w0).bind fun r1 =>
(asI .u64 r1.1).bind fun n2 =>
(callF Try.prog 51 #[.int .u64 n2] r1.2).bind fun r3 =>
(asSl r3.1).bind fun q4 =>
some (.slice q4.1 q4.2.1 q4.2.2, r3.2)

theorem g29_eq (u0 : Int) (w0 : World) : evFn Try.prog 29 g29_ann #[.int .i64 u0] w0 = g29 u0 w0 := by kernel_rfl

theorem g29_call {u0 : Int} {w0 : World} {r : Value × World} (h : g29 u0 w0 = some r) : callF Try.prog 29 #[.int .i64 u0] w0 = some r :=
  callF_of_evFn (ann := g29_ann) Try.call29 (by kernel_rfl) ((g29_eq u0 w0).trans h)

/-! 30: penstock/penstockref03.Ints (l: []int) -/
def g30_ann : List (List Nat × List Nat) := [([0, 1, 0, 1, 1], [0, 3, 4])]

def g30_l4_cs (u0 : Option Addr × Nat × Nat) : List (Nat × Value) := ([(0, .slice u0.1 u0.2.1 u0.2.2)] : List (Nat × Value))

/-- the round of a loop (penstock/penstockref03.Ints) -/
noncomputable def g30_l4_b (u0 : Option Addr × Nat × Nat) (s5 : (Option Addr × Nat × Nat) × Int) (w6 : World) : Option (Exit × ((Option Addr × Nat × Nat) × Int) × World) :=
if (decide ((s5.2 : Int) < (u0.2.1 : Int))) = true then
((idxA u0.1 u0.2.1 1 s5.2).bind fun a8 =>
(World.cell? w6 a8).bind fun v9 =>
(asI .i64 v9).bind fun n10 =>
(callF Try.prog 29 #[.int .i64 n10] w6).bind fun r11 =>
(asSl r11.1).bind fun q12 =>
(callB Try.prog .append #[28, 28] 28 #[false, false] #[.slice s5.1.1 s5.1.2.1 s5.1.2.2, .slice q12.1 q12.2.1 q12.2.2] r11.2).bind fun r13 =>
(asSl r13.1).bind fun q14 =>
some (.normal, ((q14.1, q14.2.1, q14.2.2), (IntKind.i64.wrap (s5.2 + 1))), r13.2))
else
(some ((.exit 0), ((s5.1.1, s5.1.2.1, s5.1.2.2), s5.2), w6))

noncomputable def g30_K15  : Exit → Env → World → Option (Value × World) :=
  retK Try.prog Try.f30.results.toList

noncomputable def g30_K16  : Exit → Env → World → Option (Value × World) :=
  seqK (ev Try.prog 23 30 g30_ann (cAt [1, 1, 1] (bodyOf Try.f30)) [1, 1, 1] g30_K15) g30_K15

noncomputable def g30_K17  : Exit → Env → World → Option (Value × World) :=
  blkK 0 g30_K16

/-- the loop, from a state on -/
noncomputable def g30_l4 (u0 : Option Addr × Nat × Nat) (s : (Option Addr × Nat × Nat) × Int) (w : World) : Option (Value × World) :=
  loopM Try.prog 23 30 g30_ann (cAt [1, 1, 0, 1, 0, 0] (bodyOf Try.f30)) [0, 1, 0, 1, 1] g30_K17 ((g30_l4_cs u0) ++ sputs [(3, .sl), (4, .i .i64)] s) w

/-- behind the loop, left by x0 -/
noncomputable def g30_l4_x0  (t18 : (Option Addr × Nat × Nat) × Int) (w19 : World) : Option (Value × World) :=
some (.slice t18.1.1 t18.1.2.1 t18.1.2.2, w19)

noncomputable def g30 (u0 : Option Addr × Nat × Nat) (w0 : World) : Option (Value × World) :=
(callF Try.prog 51 #[.int .u64 (IntKind.u64.wrap (u0.2.1 : Int))] w0).bind fun r2 =>
(asSl r2.1).bind fun q3 =>
g30_l4 u0 ((q3.1, q3.2.1, q3.2.2), 0) r2.2

theorem g30_eq (u0 : Option Addr × Nat × Nat) (w0 : World) : evFn Try.prog 30 g30_ann #[.slice u0.1 u0.2.1 u0.2.2] w0 = g30 u0 w0 := by kernel_rfl

theorem g30_call {u0 : Option Addr × Nat × Nat} {w0 : World} {r : Value × World} (h : g30 u0 w0 = some r) : callF Try.prog 30 #[.slice u0.1 u0.2.1 u0.2.2] w0 = some r :=
  callF_of_evFn (ann := g30_ann) Try.call30 (by kernel_rfl) ((g30_eq u0 w0).trans h)

theorem g30_l4_x0_of {u0 : Option Addr × Nat × Nat} {s t : (Option Addr × Nat × Nat) × Int} {w w' : World} (h : loopS (g30_l4_b u0) s w = some (.exit 0, t, w')) : g30_l4 u0 s w = g30_l4_x0 t w' := by
  have h1 : g30_l4 u0 s w = loopM Try.prog 23 30 g30_ann (cAt [1, 1, 0, 1, 0, 0] (bodyOf Try.f30)) [0, 1, 0, 1, 1] g30_K17 ((g30_l4_cs u0) ++ sputs [(3, .sl), (4, .i .i64)] s) w := by kernel_rfl
  have h2 : loopM Try.prog 23 30 g30_ann (cAt [1, 1, 0, 1, 0, 0] (bodyOf Try.f30)) [0, 1, 0, 1, 1] g30_K17 ((g30_l4_cs u0) ++ sputs [(3, .sl), (4, .i .i64)] s) w = g30_K17 (.exit 0) (puts 23 ((g30_l4_cs u0) ++ sputs [(3, .sl), (4, .i .i64)] t)) w' :=
    loop_rule (P := Try.prog) (N := 23) (f := 30) (ann := g30_ann) (body := (cAt [1, 1, 0, 1, 0, 0] (bodyOf Try.f30))) (pt := [0, 1, 0, 1, 1]) (K := g30_K17) (g30_l4_cs u0) [(3, .sl), (4, .i .i64)] (b := g30_l4_b u0) (fun s w => by kernel_rfl) (by kernel_rfl) (by kernel_rfl) (by kernel_rfl) h
  have h3 : g30_K17 (.exit 0) (puts 23 ((g30_l4_cs u0) ++ sputs [(3, .sl), (4, .i .i64)] t)) w' = g30_l4_x0 t w' := by kernel_rfl
  exact h1.trans (h2.trans h3)

/-! 31: (*penstock/penstockref03.Reader).Int (r: *penstockref03.Reader) -/
def g31_ann : List (List Nat × List Nat) := []

noncomputable def g31 (u0 : Option Addr) (w0 : World) : Option (Value × World) :=
(callF Try.prog 54 #[.pointer u0] w0).bind fun r1 =>
(asI .u64 r1.1).bind fun n2 =>
(callF Try.prog 53 #[.int .u64 n2] r1.2).bind fun r3 =>
(asI .i64 r3.1).bind fun n4 =>
some (.int .i64 n4, r3.2)

theorem g31_eq (u0 : Option Addr) (w0 : World) : evFn Try.prog 31 g31_ann #[.pointer u0] w0 = g31 u0 w0 := by kernel_rfl

theorem g31_call {u0 : Option Addr} {w0 : World} {r : Value × World} (h : g31 u0 w0 = some r) : callF Try.prog 31 #[.pointer u0] w0 = some r :=
  callF_of_evFn (ann := g31_ann) Try.call31 (by kernel_rfl) ((g31_eq u0 w0).trans h)

/-! 32: (*penstock/penstockref03.Reader).Ints (r: *penstockref03.Reader) -/
def g32_ann : List (List Nat × List Nat) := [([0, 1, 0, 1, 1, 1, 1, 1], [0, 3, 4, 5])]

def g32_l12_cs (u0 : Option Addr) (n2 : Int) : List (Nat × Value) := ([(0, .pointer u0), (3, .int .u64 n2)] : List (Nat × Value))

/-- the round of a loop ((*penstock/penstockref03.Reader).Ints) -/
noncomputable def g32_l12_b (n2 : Int) (u0 : Option Addr) (s13 : (Option Addr × Nat × Nat) × Int) (w14 : World) : Option (Exit × ((Option Addr × Nat × Nat) × Int) × World) :=
if (decide ((s13.2 : Int) < (IntKind.i64.wrap n2))) = true then
(u0.bind fun a15 =>
(World.cell? w14 (Addr.add a15 2)).bind fun v16 =>
(asI .i64 v16).bind fun n17 =>
if ((n17 : Int) == 0) = true then
((callF Try.prog 31 #[.pointer u0] w14).bind fun r18 =>
(asI .i64 r18.1).bind fun n19 =>
(callB Try.prog .append #[22, 22] 22 #[false, false] #[.slice s13.1.1 s13.1.2.1 s13.1.2.2, .slice (some (⟨r18.2.heap.size, 0, none⟩)) 1 1] (World.alloc r18.2 (.cells #[.int .i64 n19] 3))).bind fun r20 =>
(asSl r20.1).bind fun q21 =>
some (.normal, ((q21.1, q21.2.1, q21.2.2), (IntKind.i64.wrap (s13.2 + 1))), r20.2))
else
(some ((.exit 0), ((s13.1.1, s13.1.2.1, s13.1.2.2), s13.2), w14)))
else
(some ((.exit 0), ((s13.1.1, s13.1.2.1, s13.1.2.2), s13.2), w14))

noncomputable def g32_K22  : Exit → Env → World → Option (Value × World) :=
  retK Try.prog Try.f32.results.toList

noncomputable def g32_K23  : Exit → Env → World → Option (Value × World) :=
  seqK (ev Try.prog 48 32 g32_ann (cAt [1, 1, 1, 1, 1, 1] (bodyOf Try.f32)) [1, 1, 1, 1, 1, 1] g32_K22) g32_K22

noncomputable def g32_K24  : Exit → Env → World → Option (Value × World) :=
  blkK 0 g32_K23

/-- the loop, from a state on -/
noncomputable def g32_l12 (u0 : Option Addr) (n2 : Int) (s : (Option Addr × Nat × Nat) × Int) (w : World) : Option (Value × World) :=
  loopM Try.prog 48 32 g32_ann (cAt [1, 1, 1, 1, 1, 0, 1, 0, 0] (bodyOf Try.f32)) [0, 1, 0, 1, 1, 1, 1, 1] g32_K24 ((g32_l12_cs u0 n2) ++ sputs [(4, .sl), (5, .i .i64)] s) w

/-- behind the loop, left by x0 -/
noncomputable def g32_l12_x0 (u0 : Option Addr) (t25 : (Option Addr × Nat × Nat) × Int) (w26 : World) : Option (Value × World) :=
u0.bind fun a27 =>
(World.cell? w26 (Addr.add a27 2)).bind fun v28 =>
(asI .i64 v28).bind fun n29 =>
if ((n29 : Int) != 0) = true then
(some (.slice none 0 0, w26))
else
(some (.slice t25.1.1 t25.1.2.1 t25.1.2.2, w26))

noncomputable def g32_j3 (u0 : Option Addr) (n2 : Int) (w8 : World) : Option (Value × World) :=
u0.bind fun a9 =>
(World.cell? w8 (Addr.add a9 2)).bind fun v10 =>
(asI .i64 v10).bind fun n11 =>
if ((n11 : Int) != 0) = true then
(some (.slice none 0 0, w8))
else
(g32_l12 u0 n2 ((none, 0, 0), 0) w8)

noncomputable def g32 (u0 : Option Addr) (w0 : World) : Option (Value × World) :=
(callF Try.prog 54 #[.pointer u0] w0).bind fun r1 =>
(asI .u64 r1.1).bind fun n2 =>
u0.bind fun a4 =>
(World.cell? r1.2 (Addr.add a4 2)).bind fun v5 =>
(asI .i64 v5).bind fun n6 =>
if ((n6 : Int) == 0) = true then
(if (decide ((n2 : Int) > 4096)) = true then
((callF Try.prog 55 #[.pointer u0, .int .i64 2] r1.2).bind fun r7 =>
(asTup 0 r7.1).bind fun _ =>
g32_j3 u0 n2 r7.2)
else
(g32_j3 u0 n2 r1.2))
else
(g32_j3 u0 n2 r1.2)

theorem g32_eq (u0 : Option Addr) (w0 : World) : evFn Try.prog 32 g32_ann #[.pointer u0] w0 = g32 u0 w0 := by kernel_rfl

theorem g32_call {u0 : Option Addr} {w0 : World} {r : Value × World} (h : g32 u0 w0 = some r) : callF Try.prog 32 #[.pointer u0] w0 = some r :=
  callF_of_evFn (ann := g32_ann) Try.call32 (by kernel_rfl) ((g32_eq u0 w0).trans h)

theorem g32_l12_x0_of {u0 : Option Addr} {n2 : Int} {s t : (Option Addr × Nat × Nat) × Int} {w w' : World} (h : loopS (g32_l12_b n2 u0) s w = some (.exit 0, t, w')) : g32_l12 u0 n2 s w = g32_l12_x0 u0 t w' := by
  have h1 : g32_l12 u0 n2 s w = loopM Try.prog 48 32 g32_ann (cAt [1, 1, 1, 1, 1, 0, 1, 0, 0] (bodyOf Try.f32)) [0, 1, 0, 1, 1, 1, 1, 1] g32_K24 ((g32_l12_cs u0 n2) ++ sputs [(4, .sl), (5, .i .i64)] s) w := by kernel_rfl
  have h2 : loopM Try.prog 48 32 g32_ann (cAt [1, 1, 1, 1, 1, 0, 1, 0, 0] (bodyOf Try.f32)) [0, 1, 0, 1, 1, 1, 1, 1] g32_K24 ((g32_l12_cs u0 n2) ++ sputs [(4, .sl), (5, .i .i64)] s) w = g32_K24 (.exit 0) (puts 48 ((g32_l12_cs u0 n2) ++ sputs [(4, .sl), (5, .i .i64)] t)) w' :=
    loop_rule (P := Try.prog) (N := 48) (f := 32) (ann := g32_ann) (body := (cAt [1, 1, 1, 1, 1, 0, 1, 0, 0] (bodyOf Try.f32))) (pt := [0, 1, 0, 1, 1, 1, 1, 1]) (K := g32_K24) (g32_l12_cs u0 n2) [(4, .sl), (5, .i .i64)] (b := g32_l12_b n2 u0) (fun s w => by kernel_rfl) (by kernel_rfl) (by kernel_rfl) (by kernel_rfl) h
  have h3 : g32_K24 (.exit 0) (puts 48 ((g32_l12_cs u0 n2) ++ sputs [(4, .sl), (5, .i .i64)] t)) w' = g32_l12_x0 u0 t w' := by kernel_rfl
  exact h1.trans (h2.trans h3)

/-! 33: (*penstock/penstockref03.Reader).End (r: *penstockref03.Reader) -/
def g33_ann : List (List Nat × List Nat) := []

noncomputable def g33 (u0 : Option Addr) (w0 : World) : Option (Value × World) :=
u0.bind fun a1 =>
(World.cell? (World.drew w0) (Addr.add a1 2)).bind fun v2 =>
(asI .i64 v2).bind fun n3 =>
if ((n3 : Int) == 0) = true then
(u0.bind fun a4 =>
(World.cell? (World.drew w0) (Addr.add a4 1)).bind fun v5 =>
(asI .i64 v5).bind fun n6 =>
u0.bind fun a7 =>
(World.cell? (World.drew w0) a7).bind fun v8 =>
(asSl v8).bind fun q9 =>
if (decide ((n6 : Int) < (q9.2.1 : Int))) = true then
(some (.int .i64 6, (World.drew w0)))
else
(u0.bind fun a11 =>
(World.cell? (World.drew w0) (Addr.add a11 2)).bind fun v12 =>
(asI .i64 v12).bind fun n13 =>
some (.int .i64 n13, (World.drew w0))))
else
(u0.bind fun a14 =>
(World.cell? (World.drew w0) (Addr.add a14 2)).bind fun v15 =>
(asI .i64 v15).bind fun n16 =>
some (.int .i64 n16, (World.drew w0)))

theorem g33_eq (u0 : Option Addr) (w0 : World) : evFn Try.prog 33 g33_ann #[.pointer u0] w0 = g33 u0 w0 := by kernel_rfl

theorem g33_call {u0 : Option Addr} {w0 : World} {r : Value × World} (h : g33 u0 w0 = some r) : callF Try.prog 33 #[.pointer u0] w0 = some r :=
  callF_of_evFn (ann := g33_ann) Try.call33 (by kernel_rfl) ((g33_eq u0 w0).trans h)

/-! 35: penstock/codec.NewWriter () -/
def g35_ann : List (List Nat × List Nat) := []

noncomputable def g35  (w0 : World) : Option (Value × World) :=
some (.pointer (some (⟨w0.heap.size, 0, none⟩)), (World.alloc w0 (.cells #[.slice none 0 0, .int .i64 0] 106)))

theorem g35_eq  (w0 : World) : evFn Try.prog 35 g35_ann #[] w0 = g35 w0 := by kernel_rfl

theorem g35_call  {w0 : World} {r : Value × World} (h : g35 w0 = some r) : callF Try.prog 35 #[] w0 = some r :=
  callF_of_evFn (ann := g35_ann) Try.call35 (by kernel_rfl) ((g35_eq  w0).trans h)

/-! 36: (*penstock/codec.Writer).Int (w: *codec.Writer, n: int) -/
def g36_ann : List (List Nat × List Nat) := []

noncomputable def g36 (u0 : Option Addr) (u1 : Int) (w0 : World) : Option (Value × World) :=
(callF Try.prog 56 #[.pointer u0, .int .u64 (IntKind.u64.wrap ((BitVec.ofInt 64 (IntKind.u64.wrap ((IntKind.u64.wrap u1) * 2 ^ (min (Int.toNat 1) 64))) ^^^ BitVec.ofInt 64 (IntKind.u64.wrap (Int.fdiv u1 (2 ^ (min (Int.toNat 63) 64))))).toNat : Nat))] w0).bind fun r1 =>
(asTup 0 r1.1).bind fun _ =>
some (.tuple #[], r1.2)

theorem g36_eq (u0 : Option Addr) (u1 : Int) (w0 : World) : evFn Try.prog 36 g36_ann #[.pointer u0, .int .i64 u1] w0 = g36 u0 u1 w0 := by kernel_rfl

theorem g36_call {u0 : Option Addr} {u1 : Int} {w0 : World} {r : Value × World} (h : g36 u0 u1 w0 = some r) : callF Try.prog 36 #[.pointer u0, .int .i64 u1] w0 = some r :=
  callF_of_evFn (ann := g36_ann) Try.call36 (by kernel_rfl) ((g36_eq u0 u1 w0).trans h)

/-! 37: (*penstock/codec.Writer).Ints (w: *codec.Writer, l: []int) -/
def g37_ann : List (List Nat × List Nat) := [([0, 1, 1], [0, 11, 12, 13])]

def g37_l4_cs (u0 : Option Addr) (u1 : Option Addr × Nat × Nat) : List (Nat × Value) := ([(0, .pointer u0), (11, .slice u1.1 u1.2.1 u1.2.2), (12, .int .i64 (u1.2.1 : Int))] : List (Nat × Value))

/-- the round of a loop ((*penstock/codec.Writer).Ints) -/
noncomputable def g37_l4_b (u1 : Option Addr × Nat × Nat) (u0 : Option Addr) (s5 : Int) (w6 : World) : Option (Exit × (Int) × World) :=
if (decide ((s5 : Int) < (u1.2.1 : Int))) = true then
((idxA u1.1 u1.2.1 1 s5).bind fun a7 =>
(World.cell? w6 a7).bind fun v8 =>
(asI .i64 v8).bind fun n9 =>
(callF Try.prog 36 #[.pointer u0, .int .i64 n9] w6).bind fun r10 =>
(asTup 0 r10.1).bind fun _ =>
some (.normal, (IntKind.i64.wrap (s5 + 1)), r10.2))
else
(some ((.exit 0), s5, w6))

noncomputable def g37_K11  : Exit → Env → World → Option (Value × World) :=
  retK Try.prog Try.f37.results.toList

noncomputable def g37_K12  : Exit → Env → World → Option (Value × World) :=
  blkK 0 g37_K11

/-- the loop, from a state on -/
noncomputable def g37_l4 (u0 : Option Addr) (u1 : Option Addr × Nat × Nat) (s : Int) (w : World) : Option (Value × World) :=
  loopM Try.prog 21 37 g37_ann (cAt [1, 1, 0, 0] (bodyOf Try.f37)) [0, 1, 1] g37_K12 ((g37_l4_cs u0 u1) ++ sputs [(13, .i .i64)] s) w

/-- behind the loop, left by x0 -/
noncomputable def g37_l4_x0  (t13 : Int) (w14 : World) : Option (Value × World) :=
some (.tuple #[], w14)

noncomputable def g37 (u0 : Option Addr) (u1 : Option Addr × Nat × Nat) (w0 : World) : Option (Value × World) :=
(callF Try.prog 56 #[.pointer u0, .int .u64 (IntKind.u64.wrap (u1.2.1 : Int))] w0).bind fun r2 =>
(asTup 0 r2.1).bind fun _ =>
g37_l4 u0 u1 0 r2.2

theorem g37_eq (u0 : Option Addr) (u1 : Option Addr × Nat × Nat) (w0 : World) : evFn Try.prog 37 g37_ann #[.pointer u0, .slice u1.1 u1.2.1 u1.2.2] w0 = g37 u0 u1 w0 := by kernel_rfl

theorem g37_call {u0 : Option Addr} {u1 : Option Addr × Nat × Nat} {w0 : World} {r : Value × World} (h : g37 u0 u1 w0 = some r) : callF Try.prog 37 #[.pointer u0, .slice u1.1 u1.2.1 u1.2.2] w0 = some r :=
  callF_of_evFn (ann := g37_ann) Try.call37 (by kernel_rfl) ((g37_eq u0 u1 w0).trans h)

theorem g37_l4_x0_of {u0 : Option Addr} {u1 : Option Addr × Nat × Nat} {s t : Int} {w w' : World} (h : loopS (g37_l4_b u1 u0) s w = some (.exit 0, t, w')) : g37_l4 u0 u1 s w = g37_l4_x0 t w' := by
  have h1 : g37_l4 u0 u1 s w = loopM Try.prog 21 37 g37_ann (cAt [1, 1, 0, 0] (bodyOf Try.f37)) [0, 1, 1] g37_K12 ((g37_l4_cs u0 u1) ++ sputs [(13, .i .i64)] s) w := by kernel_rfl
  have h2 : loopM Try.prog 21 37 g37_ann (cAt [1, 1, 0, 0] (bodyOf Try.f37)) [0, 1, 1] g37_K12 ((g37_l4_cs u0 u1) ++ sputs [(13, .i .i64)] s) w = g37_K12 (.exit 0) (puts 21 ((g37_l4_cs u0 u1) ++ sputs [(13, .i .i64)] t)) w' :=
    loop_rule (P := Try.prog) (N := 21) (f := 37) (ann := g37_ann) (body := (cAt [1, 1, 0, 0] (bodyOf Try.f37))) (pt := [0, 1, 1]) (K := g37_K12) (g37_l4_cs u0 u1) [(13, .i .i64)] (b := g37_l4_b u1 u0) (fun s w => by kernel_rfl) (by kernel_rfl) (by kernel_rfl) (by kernel_rfl) h
  have h3 : g37_K12 (.exit 0) (puts 21 ((g37_l4_cs u0 u1) ++ sputs [(13, .i .i64)] t)) w' = g37_l4_x0 t w' := by kernel_rfl
  exact h1.trans (h2.trans h3)

/-! 38: (*penstock/codec.Writer).Out (w: *codec.Writer) -/
def g38_ann : List (List Nat × List Nat) := []

noncomputable def g38 (u0 : Option Addr) (w0 : World) : Option (Value × World) :=
if (u0.isNone) = true then
(some (.tuple #[.slice none 0 0, .int .i64 5], w0))
else
(u0.bind fun a1 =>
(World.cell? w0 (Addr.add a1 1)).bind fun v2 =>
(asI .i64 v2).bind fun n3 =>
if ((n3 : Int) != 0) = true then
(u0.bind fun a4 =>
(World.cell? (World.drew w0) (Addr.add a4 1)).bind fun v5 =>
(asI .i64 v5).bind fun n6 =>
some (.tuple #[.slice none 0 0, .int .i64 n6], (World.drew w0)))
else
(u0.bind fun a7 =>
(World.cell? w0 a7).bind fun v8 =>
(asSl v8).bind fun q9 =>
(callB Try.prog .append #[28, 28] 28 #[true, false] #[.slice none 0 0, .slice q9.1 q9.2.1 q9.2.2] w0).bind fun r10 =>
(asSl r10.1).bind fun q11 =>
some (.tuple #[.slice q11.1 q11.2.1 q11.2.2, .int .i64 0], r10.2)))

theorem g38_eq (u0 : Option Addr) (w0 : World) : evFn Try.prog 38 g38_ann #[.pointer u0] w0 = g38 u0 w0 := by kernel_rfl

theorem g38_call {u0 : Option Addr} {w0 : World} {r : Value × World} (h : g38 u0 w0 = some r) : callF Try.prog 38 #[.pointer u0] w0 = some r :=
  callF_of_evFn (ann := g38_ann) Try.call38 (by kernel_rfl) ((g38_eq u0 w0).trans h)

/-! 39: penstock/codec.NewReader (b: []uint8) -/
def g39_ann : List (List Nat × List Nat) := []

noncomputable def g39 (u0 : Option Addr × Nat × Nat) (w0 : World) : Option (Value × World) :=
(callB Try.prog .append #[28, 28] 28 #[true, false] #[.slice none 0 0, .slice u0.1 u0.2.1 u0.2.2] w0).bind fun r1 =>
(asSl r1.1).bind fun q2 =>
some (.pointer (some (⟨r1.2.heap.size, 0, none⟩)), (World.alloc r1.2 (.cells #[.slice q2.1 q2.2.1 q2.2.2, .int .i64 0, .int .i64 0] 110)))

theorem g39_eq (u0 : Option Addr × Nat × Nat) (w0 : World) : evFn Try.prog 39 g39_ann #[.slice u0.1 u0.2.1 u0.2.2] w0 = g39 u0 w0 := by kernel_rfl

theorem g39_call {u0 : Option Addr × Nat × Nat} {w0 : World} {r : Value × World} (h : g39 u0 w0 = some r) : callF Try.prog 39 #[.slice u0.1 u0.2.1 u0.2.2] w0 = some r :=
  callF_of_evFn (ann := g39_ann) Try.call39 (by kernel_rfl) ((g39_eq u0 w0).trans h)

/-! 40: (*penstock/codec.Reader).Int (r: *codec.Reader) -/
def g40_ann : List (List Nat × List Nat) := []

noncomputable def g40 (u0 : Option Addr) (w0 : World) : Option (Value × World) :=
(callF Try.prog 57 #[.pointer u0] w0).bind fun r1 =>
(asI .u64 r1.1).bind fun n2 =>
some (.int .i64 (IntKind.i64.wrap ((BitVec.ofInt 64 (IntKind.i64.wrap (Int.fdiv n2 (2 ^ (min (Int.toNat 1) 64)))) ^^^ BitVec.ofInt 64 (IntKind.i64.wrap (0 - (IntKind.i64.wrap (IntKind.u64.wrap ((BitVec.ofInt 64 n2 &&& BitVec.ofInt 64 1).toNat : Nat)))))).toNat : Nat)), r1.2)

theorem g40_eq (u0 : Option Addr) (w0 : World) : evFn Try.prog 40 g40_ann #[.pointer u0] w0 = g40 u0 w0 := by kernel_rfl

theorem g40_call {u0 : Option Addr} {w0 : World} {r : Value × World} (h : g40 u0 w0 = some r) : callF Try.prog 40 #[.pointer u0] w0 = some r :=
  callF_of_evFn (ann := g40_ann) Try.call40 (by kernel_rfl) ((g40_eq u0 w0).trans h)

/-! 41: (*penstock/codec.Reader).Ints (r: *codec.Reader) -/
def g41_ann : List (List Nat × List Nat) := [([0, 1, 0, 1, 1, 1, 1], [0, 12, 2, 4, 13])]

def g41_l4_cs (u0 : Option Addr) (n2 : Int) : List (Nat × Value) := ([(0, .pointer u0), (12, .int .u64 n2)] : List (Nat × Value))

/-- the round of a loop ((*penstock/codec.Reader).Ints) -/
noncomputable def g41_l4_b (n2 : Int) (u0 : Option Addr) (s5 : (Option Addr × Nat × Nat) × (Option Addr × Nat × Nat) × Int) (w6 : World) : Option (Exit × ((Option Addr × Nat × Nat) × (Option Addr × Nat × Nat) × Int) × World) :=
if (decide ((s5.2.2 : Int) < n2)) = true then
((callF Try.prog 40 #[.pointer u0] w6).bind fun r7 =>
(asI .i64 r7.1).bind fun n8 =>
u0.bind fun a9 =>
(World.cell? r7.2 (Addr.add a9 2)).bind fun v10 =>
(asI .i64 v10).bind fun n11 =>
if ((n11 : Int) != 0) = true then
(some (.ret, ((none, 0, 0), (s5.2.1.1, s5.2.1.2.1, s5.2.1.2.2), s5.2.2), r7.2))
else
((callB Try.prog .append #[22, 22] 22 #[false, false] #[.slice s5.2.1.1 s5.2.1.2.1 s5.2.1.2.2, .slice (some (⟨r7.2.heap.size, 0, none⟩)) 1 1] (World.alloc r7.2 (.cells #[.int .i64 n8] 3))).bind fun r12 =>
(asSl r12.1).bind fun q13 =>
some (.normal, ((s5.1.1, s5.1.2.1, s5.1.2.2), (q13.1, q13.2.1, q13.2.2), (IntKind.u64.wrap (s5.2.2 + 1))), r12.2)))
else
(some ((.exit 0), ((s5.1.1, s5.1.2.1, s5.1.2.2), (s5.2.1.1, s5.2.1.2.1, s5.2.1.2.2), s5.2.2), w6))

noncomputable def g41_K14  : Exit → Env → World → Option (Value × World) :=
  retK Try.prog Try.f41.results.toList

noncomputable def g41_K15  : Exit → Env → World → Option (Value × World) :=
  seqK (ev Try.prog 28 41 g41_ann (cAt [1, 1, 1, 1, 1] (bodyOf Try.f41)) [1, 1, 1, 1, 1] g41_K14) g41_K14

noncomputable def g41_K16  : Exit → Env → World → Option (Value × World) :=
  blkK 0 g41_K15

/-- the loop, from a state on -/
noncomputable def g41_l4 (u0 : Option Addr) (n2 : Int) (s : (Option Addr × Nat × Nat) × (Option Addr × Nat × Nat) × Int) (w : World) : Option (Value × World) :=
  loopM Try.prog 28 41 g41_ann (cAt [1, 1, 1, 1, 0, 1, 0, 0] (bodyOf Try.f41)) [0, 1, 0, 1, 1, 1, 1] g41_K16 ((g41_l4_cs u0 n2) ++ sputs [(2, .sl), (4, .sl), (13, .i .u64)] s) w

/-- behind the loop, left by x0 -/
noncomputable def g41_l4_x0  (t17 : (Option Addr × Nat × Nat) × (Option Addr × Nat × Nat) × Int) (w18 : World) : Option (Value × World) :=
some (.slice t17.2.1.1 t17.2.1.2.1 t17.2.1.2.2, w18)

/-- behind the loop, left by ret -/
noncomputable def g41_l4_ret  (t19 : (Option Addr × Nat × Nat) × (Option Addr × Nat × Nat) × Int) (w20 : World) : Option (Value × World) :=
some (.slice t19.1.1 t19.1.2.1 t19.1.2.2, w20)

noncomputable def g41 (u0 : Option Addr) (w0 : World) : Option (Value × World) :=
(callF Try.prog 57 #[.pointer u0] w0).bind fun r1 =>
(asI .u64 r1.1).bind fun n2 =>
if (decide ((n2 : Int) > 4096)) = true then
((callF Try.prog 58 #[.pointer u0, .int .i64 2] r1.2).bind fun r3 =>
(asTup 0 r3.1).bind fun _ =>
some (.slice none 0 0, r3.2))
else
(g41_l4 u0 n2 ((none, 0, 0), (none, 0, 0), 0) r1.2)

theorem g41_eq (u0 : Option Addr) (w0 : World) : evFn Try.prog 41 g41_ann #[.pointer u0] w0 = g41 u0 w0 := by kernel_rfl

theorem g41_call {u0 : Option Addr} {w0 : World} {r : Value × World} (h : g41 u0 w0 = some r) : callF Try.prog 41 #[.pointer u0] w0 = some r :=
  callF_of_evFn (ann := g41_ann) Try.call41 (by kernel_rfl) ((g41_eq u0 w0).trans h)

theorem g41_l4_x0_of {u0 : Option Addr} {n2 : Int} {s t : (Option Addr × Nat × Nat) × (Option Addr × Nat × Nat) × Int} {w w' : World} (h : loopS (g41_l4_b n2 u0) s w = some (.exit 0, t, w')) : g41_l4 u0 n2 s w = g41_l4_x0 t w' := by
  have h1 : g41_l4 u0 n2 s w = loopM Try.prog 28 41 g41_ann (cAt [1, 1, 1, 1, 0, 1, 0, 0] (bodyOf Try.f41)) [0, 1, 0, 1, 1, 1, 1] g41_K16 ((g41_l4_cs u0 n2) ++ sputs [(2, .sl), (4, .sl), (13, .i .u64)] s) w := by kernel_rfl
  have h2 : loopM Try.prog 28 41 g41_ann (cAt [1, 1, 1, 1, 0, 1, 0, 0] (bodyOf Try.f41)) [0, 1, 0, 1, 1, 1, 1] g41_K16 ((g41_l4_cs u0 n2) ++ sputs [(2, .sl), (4, .sl), (13, .i .u64)] s) w = g41_K16 (.exit 0) (puts 28 ((g41_l4_cs u0 n2) ++ sputs [(2, .sl), (4, .sl), (13, .i .u64)] t)) w' :=
    loop_rule (P := Try.prog) (N := 28) (f := 41) (ann := g41_ann) (body := (cAt [1, 1, 1, 1, 0, 1, 0, 0] (bodyOf Try.f41))) (pt := [0, 1, 0, 1, 1, 1, 1]) (K := g41_K16) (g41_l4_cs u0 n2) [(2, .sl), (4, .sl), (13, .i .u64)] (b := g41_l4_b n2 u0) (fun s w => by kernel_rfl) (by kernel_rfl) (by kernel_rfl) (by kernel_rfl) h
  have h3 : g41_K16 (.exit 0) (puts 28 ((g41_l4_cs u0 n2) ++ sputs [(2, .sl), (4, .sl), (13, .i .u64)] t)) w' = g41_l4_x0 t w' := by kernel_rfl
  exact h1.trans (h2.trans h3)

theorem g41_l4_ret_of {u0 : Option Addr} {n2 : Int} {s t : (Option Addr × Nat × Nat) × (Option Addr × Nat × Nat) × Int} {w w' : World} (h : loopS (g41_l4_b n2 u0) s w = some (.ret, t, w')) : g41_l4 u0 n2 s w = g41_l4_ret t w' := by
  have h1 : g41_l4 u0 n2 s w = loopM Try.prog 28 41 g41_ann (cAt [1, 1, 1, 1, 0, 1, 0, 0] (bodyOf Try.f41)) [0, 1, 0, 1, 1, 1, 1] g41_K16 ((g41_l4_cs u0 n2) ++ sputs [(2, .sl), (4, .sl), (13, .i .u64)] s) w := by kernel_rfl
  have h2 : loopM Try.prog 28 41 g41_ann (cAt [1, 1, 1, 1, 0, 1, 0, 0] (bodyOf Try.f41)) [0, 1, 0, 1, 1, 1, 1] g41_K16 ((g41_l4_cs u0 n2) ++ sputs [(2, .sl), (4, .sl), (13, .i .u64)] s) w = g41_K16 (.ret) (puts 28 ((g41_l4_cs u0 n2) ++ sputs [(2, .sl), (4, .sl), (13, .i .u64)] t)) w' :=
    loop_rule (P := Try.prog) (N := 28) (f := 41) (ann := g41_ann) (body := (cAt [1, 1, 1, 1, 0, 1, 0, 0] (bodyOf Try.f41))) (pt := [0, 1, 0, 1, 1, 1, 1]) (K := g41_K16) (g41_l4_cs u0 n2) [(2, .sl), (4, .sl), (13, .i .u64)] (b := g41_l4_b n2 u0) (fun s w => by kernel_rfl) (by kernel_rfl) (by kernel_rfl) (by kernel_rfl) h
  have h3 : g41_K16 (.ret) (puts 28 ((g41_l4_cs u0 n2) ++ sputs [(2, .sl), (4, .sl), (13, .i .u64)] t)) w' = g41_l4_ret t w' := by kernel_rfl
  exact h1.trans (h2.trans h3)

/-! 42: (*penstock/codec.Reader).End (r: *codec.Reader) -/
def g42_ann : List (List Nat × List Nat) := []

noncomputable def g42 (u0 : Option Addr) (w0 : World) : Option (Value × World) :=
if (u0.isNone) = true then
(some (.int .i64 5, w0))
else
(u0.bind fun a1 =>
(World.cell? (World.drew w0) (Addr.add a1 2)).bind fun v2 =>
(asI .i64 v2).bind fun n3 =>
if ((n3 : Int) == 0) = true then
(u0.bind fun a4 =>
(World.cell? (World.drew w0) (Addr.add a4 1)).bind fun v5 =>
(asI .i64 v5).bind fun n6 =>
u0.bind fun a7 =>
(World.cell? (World.drew w0) a7).bind fun v8 =>
(asSl v8).bind fun q9 =>
if (decide ((n6 : Int) < (q9.2.1 : Int))) = true then
(some (.int .i64 6, (World.drew w0)))
else
(u0.bind fun a11 =>
(World.cell? (World.drew w0) (Addr.add a11 2)).bind fun v12 =>
(asI .i64 v12).bind fun n13 =>
some (.int .i64 n13, (World.drew w0))))
else
(u0.bind fun a14 =>
(World.cell? (World.drew w0) (Addr.add a14 2)).bind fun v15 =>
(asI .i64 v15).bind fun n16 =>
some (.int .i64 n16, (World.drew w0))))

theorem g42_eq (u0 : Option Addr) (w0 : World) : evFn Try.prog 42 g42_ann #[.pointer u0] w0 = g42 u0 w0 := by kernel_rfl

theorem g42_call {u0 : Option Addr} {w0 : World} {r : Value × World} (h : g42 u0 w0 = some r) : callF Try.prog 42 #[.pointer u0] w0 = some r :=
  callF_of_evFn (ann := g42_ann) Try.call42 (by kernel_rfl) ((g42_eq u0 w0).trans h)

/-! 51: penstock/penstockref03.Uint (n: uint64) -/
def g51_ann : List (List Nat × List Nat) := [([0, 1, 1], [0, 2, 3])]

def g51_l1_cs  : List (Nat × Value) := ([] : List (Nat × Value))

/-- the round of a loop (penstock/penstockref03.Uint) -/
noncomputable def g51_l1_b  (s2 : Int × (Option Addr × Nat × Nat) × (Option Addr × Nat × Nat)) (w3 : World) : Option (Exit × (Int × (Option Addr × Nat × Nat) × (Option Addr × Nat × Nat)) × World) :=
if (((IntKind.u64.wrap (Int.tdiv s2.1 128)) : Int) == 0) = true then
((callB Try.prog .append #[28, 28] 28 #[false, false] #[.slice s2.2.2.1 s2.2.2.2.1 s2.2.2.2.2, .slice (some (⟨w3.heap.size, 0, none⟩)) 1 1] (World.alloc w3 (.cells #[.int .u8 (IntKind.u8.wrap (Int.tmod s2.1 128))] 5))).bind fun r4 =>
(asSl r4.1).bind fun q5 =>
some (.ret, ((IntKind.u64.wrap (Int.tdiv s2.1 128)), (q5.1, q5.2.1, q5.2.2), (q5.1, q5.2.1, q5.2.2)), r4.2))
else
((callB Try.prog .append #[28, 28] 28 #[false, false] #[.slice s2.2.2.1 s2.2.2.2.1 s2.2.2.2.2, .slice (some (⟨w3.heap.size, 0, none⟩)) 1 1] (World.alloc w3 (.cells #[.int .u8 (IntKind.u8.wrap (IntKind.u64.wrap ((Int.tmod s2.1 128) + 128)))] 5))).bind fun r6 =>
(asSl r6.1).bind fun q7 =>
some (.normal, ((IntKind.u64.wrap (Int.tdiv s2.1 128)), (s2.2.1.1, s2.2.1.2.1, s2.2.1.2.2), (q7.1, q7.2.1, q7.2.2)), r6.2))

noncomputable def g51_K8  : Exit → Env → World → Option (Value × World) :=
  retK Try.prog Try.f51.results.toList

noncomputable def g51_K9  : Exit → Env → World → Option (Value × World) :=
  blkK 0 g51_K8

/-- the loop, from a state on -/
noncomputable def g51_l1  (s : Int × (Option Addr × Nat × Nat) × (Option Addr × Nat × Nat)) (w : World) : Option (Value × World) :=
  loopM Try.prog 23 51 g51_ann (cAt [1, 1, 0, 0] (bodyOf Try.f51)) [0, 1, 1] g51_K9 (g51_l1_cs ++ sputs [(0, .i .u64), (2, .sl), (3, .sl)] s) w

/-- behind the loop, left by ret -/
noncomputable def g51_l1_ret  (t10 : Int × (Option Addr × Nat × Nat) × (Option Addr × Nat × Nat)) (w11 : World) : Option (Value × World) :=
some (.slice t10.2.1.1 t10.2.1.2.1 t10.2.1.2.2, w11)

noncomputable def g51 (u0 : Int) (w0 : World) : Option (Value × World) :=
g51_l1 (u0, (none, 0, 0), (none, 0, 0)) w0

theorem g51_eq (u0 : Int) (w0 : World) : evFn Try.prog 51 g51_ann #[.int .u64 u0] w0 = g51 u0 w0 := by kernel_rfl

theorem g51_call {u0 : Int} {w0 : World} {r : Value × World} (h : g51 u0 w0 = some r) : callF Try.prog 51 #[.int .u64 u0] w0 = some r :=
  callF_of_evFn (ann := g51_ann) Try.call51 (by kernel_rfl) ((g51_eq u0 w0).trans h)

theorem g51_l1_ret_of  {s t : Int × (Option Addr × Nat × Nat) × (Option Addr × Nat × Nat)} {w w' : World} (h : loopS (g51_l1_b) s w = some (.ret, t, w')) : g51_l1 s w = g51_l1_ret t w' := by
  have h1 : g51_l1 s w = loopM Try.prog 23 51 g51_ann (cAt [1, 1, 0, 0] (bodyOf Try.f51)) [0, 1, 1] g51_K9 (g51_l1_cs ++ sputs [(0, .i .u64), (2, .sl), (3, .sl)] s) w := by kernel_rfl
  have h2 : loopM Try.prog 23 51 g51_ann (cAt [1, 1, 0, 0] (bodyOf Try.f51)) [0, 1, 1] g51_K9 (g51_l1_cs ++ sputs [(0, .i .u64), (2, .sl), (3, .sl)] s) w = g51_K9 (.ret) (puts 23 (g51_l1_cs ++ sputs [(0, .i .u64), (2, .sl), (3, .sl)] t)) w' :=
    loop_rule (P := Try.prog) (N := 23) (f := 51) (ann := g51_ann) (body := (cAt [1, 1, 0, 0] (bodyOf Try.f51))) (pt := [0, 1, 1]) (K := g51_K9) g51_l1_cs [(0, .i .u64), (2, .sl), (3, .sl)] (b := g51_l1_b) (fun s w => by kernel_rfl) (by kernel_rfl) (by kernel_rfl) (by kernel_rfl) h
  have h3 : g51_K9 (.ret) (puts 23 (g51_l1_cs ++ sputs [(0, .i .u64), (2, .sl), (3, .sl)] t)) w' = g51_l1_ret t w' := by kernel_rfl
  exact h1.trans (h2.trans h3)

/-! 52: penstock/penstockref03.Zig (n: int) -/
def g52_ann : List (List Nat × List Nat) := []

noncomputable def g52 (u0 : Int) (w0 : World) : Option (Value × World) :=
if (decide ((u0 : Int) ≥ 0)) = true then
(some (.int .u64 (IntKind.u64.wrap (2 * (IntKind.u64.wrap u0))), w0))
else
(some (.int .u64 (IntKind.u64.wrap ((IntKind.u64.wrap (2 * (IntKind.u64.wrap (IntKind.i64.wrap (0 - (IntKind.i64.wrap (u0 + 1))))))) + 1)), w0))

theorem g52_eq (u0 : Int) (w0 : World) : evFn Try.prog 52 g52_ann #[.int .i64 u0] w0 = g52 u0 w0 := by kernel_rfl

theorem g52_call {u0 : Int} {w0 : World} {r : Value × World} (h : g52 u0 w0 = some r) : callF Try.prog 52 #[.int .i64 u0] w0 = some r :=
  callF_of_evFn (ann := g52_ann) Try.call52 (by kernel_rfl) ((g52_eq u0 w0).trans h)

/-! 53: penstock/penstockref03.Zag (n: uint64) -/
def g53_ann : List (List Nat × List Nat) := []

noncomputable def g53 (u0 : Int) (w0 : World) : Option (Value × World) :=
if (((Int.tmod u0 2) : Int) == 0) = true then
(some (.int .i64 (IntKind.i64.wrap (IntKind.u64.wrap (Int.tdiv u0 2))), w0))
else
(some (.int .i64 (IntKind.i64.wrap ((IntKind.i64.wrap (0 - (IntKind.i64.wrap (IntKind.u64.wrap (Int.tdiv u0 2))))) - 1)), w0))

theorem g53_eq (u0 : Int) (w0 : World) : evFn Try.prog 53 g53_ann #[.int .u64 u0] w0 = g53 u0 w0 := by kernel_rfl

theorem g53_call {u0 : Int} {w0 : World} {r : Value × World} (h : g53 u0 w0 = some r) : callF Try.prog 53 #[.int .u64 u0] w0 = some r :=
  callF_of_evFn (ann := g53_ann) Try.call53 (by kernel_rfl) ((g53_eq u0 w0).trans h)

/-! 54: (*penstock/penstockref03.Reader).Uint (r: *penstockref03.Reader) -/
def g54_ann : List (List Nat × List Nat) := [([0, 1, 0, 1, 1, 1], [0, 2, 3, 4])]

def g54_l4_cs (u0 : Option Addr) : List (Nat × Value) := ([(0, .pointer u0)] : List (Nat × Value))

/-- the round of a loop ((*penstock/penstockref03.Reader).Uint) -/
noncomputable def g54_l4_b (u0 : Option Addr) (s5 : Int × Int × Int) (w6 : World) : Option (Exit × (Int × Int × Int) × World) :=
if (decide ((s5.2.2 : Int) < 10)) = true then
(u0.bind fun a7 =>
(World.cell? (World.drew w6) (Addr.add a7 1)).bind fun v8 =>
(asI .i64 v8).bind fun n9 =>
u0.bind fun a10 =>
(World.cell? (World.drew w6) a10).bind fun v11 =>
(asSl v11).bind fun q12 =>
if (decide (((IntKind.i64.wrap (n9 + s5.2.2)) : Int) ≥ (q12.2.1 : Int))) = true then
((callF Try.prog 55 #[.pointer u0, .int .i64 6] (World.drew w6)).bind fun r14 =>
(asTup 0 r14.1).bind fun _ =>
some (.ret, (0, s5.2.1, s5.2.2), r14.2))
else
(u0.bind fun a15 =>
(World.cell? (World.drew (World.drew w6)) a15).bind fun v16 =>
(asSl v16).bind fun q17 =>
u0.bind fun a18 =>
(World.cell? (World.drew (World.drew w6)) (Addr.add a18 1)).bind fun v19 =>
(asI .i64 v19).bind fun n20 =>
(idxA q17.1 q17.2.1 1 (IntKind.i64.wrap (n20 + s5.2.2))).bind fun a21 =>
(World.cell? (World.drew (World.drew w6)) a21).bind fun v22 =>
(asI .u8 v22).bind fun n23 =>
if ((s5.2.2 : Int) == 9) = true then
(if (decide (((IntKind.u64.wrap n23) : Int) > 1)) = true then
((callF Try.prog 55 #[.pointer u0, .int .i64 7] (World.drew (World.drew w6))).bind fun r24 =>
(asTup 0 r24.1).bind fun _ =>
some (.ret, (0, s5.2.1, s5.2.2), r24.2))
else
(if (decide ((s5.2.2 : Int) > 0)) = true then
(if (((IntKind.u64.wrap n23) : Int) == 0) = true then
((callF Try.prog 55 #[.pointer u0, .int .i64 7] (World.drew (World.drew w6))).bind fun r25 =>
(asTup 0 r25.1).bind fun _ =>
some (.ret, (0, s5.2.1, s5.2.2), r25.2))
else
(if ((IntKind.u64.wrap (IntKind.i64.wrap (7 * s5.2.2))) : Int) < 0 then
(none)
else
(if (decide (((IntKind.u64.wrap n23) : Int) < 128)) = true then
(u0.bind fun a26 =>
(World.cell? (World.drew (World.drew w6)) (Addr.add a26 1)).bind fun v27 =>
(asI .i64 v27).bind fun n28 =>
u0.bind fun a29 =>
(st1 (World.drew (World.drew w6)) (Addr.add a29 1) (.int .i64 (IntKind.i64.wrap ((IntKind.i64.wrap (n28 + s5.2.2)) + 1)))).bind fun w30 =>
some (.ret, ((IntKind.u64.wrap (s5.2.1 + (IntKind.u64.wrap ((Int.tmod (IntKind.u64.wrap n23) 128) * 2 ^ (min (Int.toNat (IntKind.u64.wrap (IntKind.i64.wrap (7 * s5.2.2)))) 64))))), (IntKind.u64.wrap (s5.2.1 + (IntKind.u64.wrap ((Int.tmod (IntKind.u64.wrap n23) 128) * 2 ^ (min (Int.toNat (IntKind.u64.wrap (IntKind.i64.wrap (7 * s5.2.2)))) 64))))), s5.2.2), w30))
else
(some (.normal, (s5.1, (IntKind.u64.wrap (s5.2.1 + (IntKind.u64.wrap ((Int.tmod (IntKind.u64.wrap n23) 128) * 2 ^ (min (Int.toNat (IntKind.u64.wrap (IntKind.i64.wrap (7 * s5.2.2)))) 64))))), (IntKind.i64.wrap (s5.2.2 + 1))), (World.drew (World.drew w6)))))))
else
(if ((IntKind.u64.wrap (IntKind.i64.wrap (7 * s5.2.2))) : Int) < 0 then
(none)
else
(if (decide (((IntKind.u64.wrap n23) : Int) < 128)) = true then
(u0.bind fun a31 =>
(World.cell? (World.drew (World.drew w6)) (Addr.add a31 1)).bind fun v32 =>
(asI .i64 v32).bind fun n33 =>
u0.bind fun a34 =>
(st1 (World.drew (World.drew w6)) (Addr.add a34 1) (.int .i64 (IntKind.i64.wrap ((IntKind.i64.wrap (n33 + s5.2.2)) + 1)))).bind fun w35 =>
some (.ret, ((IntKind.u64.wrap (s5.2.1 + (IntKind.u64.wrap ((Int.tmod (IntKind.u64.wrap n23) 128) * 2 ^ (min (Int.toNat (IntKind.u64.wrap (IntKind.i64.wrap (7 * s5.2.2)))) 64))))), (IntKind.u64.wrap (s5.2.1 + (IntKind.u64.wrap ((Int.tmod (IntKind.u64.wrap n23) 128) * 2 ^ (min (Int.toNat (IntKind.u64.wrap (IntKind.i64.wrap (7 * s5.2.2)))) 64))))), s5.2.2), w35))
else
(some (.normal, (s5.1, (IntKind.u64.wrap (s5.2.1 + (IntKind.u64.wrap ((Int.tmod (IntKind.u64.wrap n23) 128) * 2 ^ (min (Int.toNat (IntKind.u64.wrap (IntKind.i64.wrap (7 * s5.2.2)))) 64))))), (IntKind.i64.wrap (s5.2.2 + 1))), (World.drew (World.drew w6))))))))
else
(if (decide ((s5.2.2 : Int) > 0)) = true then
(if (((IntKind.u64.wrap n23) : Int) == 0) = true then
((callF Try.prog 55 #[.pointer u0, .int .i64 7] (World.drew (World.drew w6))).bind fun r36 =>
(asTup 0 r36.1).bind fun _ =>
some (.ret, (0, s5.2.1, s5.2.2), r36.2))
else
(if ((IntKind.u64.wrap (IntKind.i64.wrap (7 * s5.2.2))) : Int) < 0 then
(none)
else
(if (decide (((IntKind.u64.wrap n23) : Int) < 128)) = true then
(u0.bind fun a37 =>
(World.cell? (World.drew (World.drew w6)) (Addr.add a37 1)).bind fun v38 =>
(asI .i64 v38).bind fun n39 =>
u0.bind fun a40 =>
(st1 (World.drew (World.drew w6)) (Addr.add a40 1) (.int .i64 (IntKind.i64.wrap ((IntKind.i64.wrap (n39 + s5.2.2)) + 1)))).bind fun w41 =>
some (.ret, ((IntKind.u64.wrap (s5.2.1 + (IntKind.u64.wrap ((Int.tmod (IntKind.u64.wrap n23) 128) * 2 ^ (min (Int.toNat (IntKind.u64.wrap (IntKind.i64.wrap (7 * s5.2.2)))) 64))))), (IntKind.u64.wrap (s5.2.1 + (IntKind.u64.wrap ((Int.tmod (IntKind.u64.wrap n23) 128) * 2 ^ (min (Int.toNat (IntKind.u64.wrap (IntKind.i64.wrap (7 * s5.2.2)))) 64))))), s5.2.2), w41))
else
(some (.normal, (s5.1, (IntKind.u64.wrap (s5.2.1 + (IntKind.u64.wrap ((Int.tmod (IntKind.u64.wrap n23) 128) * 2 ^ (min (Int.toNat (IntKind.u64.wrap (IntKind.i64.wrap (7 * s5.2.2)))) 64))))), (IntKind.i64.wrap (s5.2.2 + 1))), (World.drew (World.drew w6)))))))
else
(if ((IntKind.u64.wrap (IntKind.i64.wrap (7 * s5.2.2))) : Int) < 0 then
(none)
else
(if (decide (((IntKind.u64.wrap n23) : Int) < 128)) = true then
(u0.bind fun a42 =>
(World.cell? (World.drew (World.drew w6)) (Addr.add a42 1)).bind fun v43 =>
(asI .i64 v43).bind fun n44 =>
u0.bind fun a45 =>
(st1 (World.drew (World.drew w6)) (Addr.add a45 1) (.int .i64 (IntKind.i64.wrap ((IntKind.i64.wrap (n44 + s5.2.2)) + 1)))).bind fun w46 =>
some (.ret, ((IntKind.u64.wrap (s5.2.1 + (IntKind.u64.wrap ((Int.tmod (IntKind.u64.wrap n23) 128) * 2 ^ (min (Int.toNat (IntKind.u64.wrap (IntKind.i64.wrap (7 * s5.2.2)))) 64))))), (IntKind.u64.wrap (s5.2.1 + (IntKind.u64.wrap ((Int.tmod (IntKind.u64.wrap n23) 128) * 2 ^ (min (Int.toNat (IntKind.u64.wrap (IntKind.i64.wrap (7 * s5.2.2)))) 64))))), s5.2.2), w46))
else
(some (.normal, (s5.1, (IntKind.u64.wrap (s5.2.1 + (IntKind.u64.wrap ((Int.tmod (IntKind.u64.wrap n23) 128) * 2 ^ (min (Int.toNat (IntKind.u64.wrap (IntKind.i64.wrap (7 * s5.2.2)))) 64))))), (IntKind.i64.wrap (s5.2.2 + 1))), (World.drew (World.drew w6)))))))))
else
(some ((.exit 0), (s5.1, s5.2.1, s5.2.2), w6))

noncomputable def g54_K47  : Exit → Env → World → Option (Value × World) :=
  retK Try.prog Try.f54.results.toList

noncomputable def g54_K48  : Exit → Env → World → Option (Value × World) :=
  seqK (ev Try.prog 81 54 g54_ann (cAt [1, 1, 1, 1] (bodyOf Try.f54)) [1, 1, 1, 1] g54_K47) g54_K47

noncomputable def g54_K49  : Exit → Env → World → Option (Value × World) :=
  blkK 0 g54_K48

/-- the loop, from a state on -/
noncomputable def g54_l4 (u0 : Option Addr) (s : Int × Int × Int) (w : World) : Option (Value × World) :=
  loopM Try.prog 81 54 g54_ann (cAt [1, 1, 1, 0, 1, 0, 0] (bodyOf Try.f54)) [0, 1, 0, 1, 1, 1] g54_K49 ((g54_l4_cs u0) ++ sputs [(2, .i .u64), (3, .i .u64), (4, .i .i64)] s) w

/-- behind the loop, left by x0 -/
noncomputable def g54_l4_x0 (u0 : Option Addr) (t50 : Int × Int × Int) (w51 : World) : Option (Value × World) :=
(callF Try.prog 55 #[.pointer u0, .int .i64 7] w51).bind fun r52 =>
(asTup 0 r52.1).bind fun _ =>
some (.int .u64 0, r52.2)

/-- behind the loop, left by ret -/
noncomputable def g54_l4_ret  (t53 : Int × Int × Int) (w54 : World) : Option (Value × World) :=
some (.int .u64 t53.1, w54)

noncomputable def g54 (u0 : Option Addr) (w0 : World) : Option (Value × World) :=
u0.bind fun a1 =>
(World.cell? w0 (Addr.add a1 2)).bind fun v2 =>
(asI .i64 v2).bind fun n3 =>
if ((n3 : Int) != 0) = true then
(some (.int .u64 0, w0))
else
(g54_l4 u0 (0, 0, 0) w0)

theorem g54_eq (u0 : Option Addr) (w0 : World) : evFn Try.prog 54 g54_ann #[.pointer u0] w0 = g54 u0 w0 := by kernel_rfl

theorem g54_call {u0 : Option Addr} {w0 : World} {r : Value × World} (h : g54 u0 w0 = some r) : callF Try.prog 54 #[.pointer u0] w0 = some r :=
  callF_of_evFn (ann := g54_ann) Try.call54 (by kernel_rfl) ((g54_eq u0 w0).trans h)

theorem g54_l4_x0_of {u0 : Option Addr} {s t : Int × Int × Int} {w w' : World} (h : loopS (g54_l4_b u0) s w = some (.exit 0, t, w')) : g54_l4 u0 s w = g54_l4_x0 u0 t w' := by
  have h1 : g54_l4 u0 s w = loopM Try.prog 81 54 g54_ann (cAt [1, 1, 1, 0, 1, 0, 0] (bodyOf Try.f54)) [0, 1, 0, 1, 1, 1] g54_K49 ((g54_l4_cs u0) ++ sputs [(2, .i .u64), (3, .i .u64), (4, .i .i64)] s) w := by kernel_rfl
  have h2 : loopM Try.prog 81 54 g54_ann (cAt [1, 1, 1, 0, 1, 0, 0] (bodyOf Try.f54)) [0, 1, 0, 1, 1, 1] g54_K49 ((g54_l4_cs u0) ++ sputs [(2, .i .u64), (3, .i .u64), (4, .i .i64)] s) w = g54_K49 (.exit 0) (puts 81 ((g54_l4_cs u0) ++ sputs [(2, .i .u64), (3, .i .u64), (4, .i .i64)] t)) w' :=
    loop_rule (P := Try.prog) (N := 81) (f := 54) (ann := g54_ann) (body := (cAt [1, 1, 1, 0, 1, 0, 0] (bodyOf Try.f54))) (pt := [0, 1, 0, 1, 1, 1]) (K := g54_K49) (g54_l4_cs u0) [(2, .i .u64), (3, .i .u64), (4, .i .i64)] (b := g54_l4_b u0) (fun s w => by kernel_rfl) (by kernel_rfl) (by kernel_rfl) (by kernel_rfl) h
  have h3 : g54_K49 (.exit 0) (puts 81 ((g54_l4_cs u0) ++ sputs [(2, .i .u64), (3, .i .u64), (4, .i .i64)] t)) w' = g54_l4_x0 u0 t w' := by kernel_rfl
  exact h1.trans (h2.trans h3)

theorem g54_l4_ret_of {u0 : Option Addr} {s t : Int × Int × Int} {w w' : World} (h : loopS (g54_l4_b u0) s w = some (.ret, t, w')) : g54_l4 u0 s w = g54_l4_ret t w' := by
  have h1 : g54_l4 u0 s w = loopM Try.prog 81 54 g54_ann (cAt [1, 1, 1, 0, 1, 0, 0] (bodyOf Try.f54)) [0, 1, 0, 1, 1, 1] g54_K49 ((g54_l4_cs u0) ++ sputs [(2, .i .u64), (3, .i .u64), (4, .i .i64)] s) w := by kernel_rfl
  have h2 : loopM Try.prog 81 54 g54_ann (cAt [1, 1, 1, 0, 1, 0, 0] (bodyOf Try.f54)) [0, 1, 0, 1, 1, 1] g54_K49 ((g54_l4_cs u0) ++ sputs [(2, .i .u64), (3, .i .u64), (4, .i .i64)] s) w = g54_K49 (.ret) (puts 81 ((g54_l4_cs u0) ++ sputs [(2, .i .u64), (3, .i .u64), (4, .i .i64)] t)) w' :=
    loop_rule (P := Try.prog) (N := 81) (f := 54) (ann := g54_ann) (body := (cAt [1, 1, 1, 0, 1, 0, 0] (bodyOf Try.f54))) (pt := [0, 1, 0, 1, 1, 1]) (K := g54_K49) (g54_l4_cs u0) [(2, .i .u64), (3, .i .u64), (4, .i .i64)] (b := g54_l4_b u0) (fun s w => by kernel_rfl) (by kernel_rfl) (by kernel_rfl) (by kernel_rfl) h
  have h3 : g54_K49 (.ret) (puts 81 ((g54_l4_cs u0) ++ sputs [(2, .i .u64), (3, .i .u64), (4, .i .i64)] t)) w' = g54_l4_ret t w' := by kernel_rfl
  exact h1.trans (h2.trans h3)

/-! 55: (*penstock/penstockref03.Reader).fail (r: *penstockref03.Reader, e: int) -/
def g55_ann : List (List Nat × List Nat) := []

noncomputable def g55 (u0 : Option Addr) (u1 : Int) (w0 : World) : Option (Value × World) :=
u0.bind fun a1 =>
(World.cell? w0 (Addr.add a1 2)).bind fun v2 =>
(asI .i64 v2).bind fun n3 =>
if ((n3 : Int) == 0) = true then
(u0.bind fun a4 =>
(st1 w0 (Addr.add a4 2) (.int .i64 u1)).bind fun w5 =>
some (.tuple #[], w5))
else
(some (.tuple #[], w0))

theorem g55_eq (u0 : Option Addr) (u1 : Int) (w0 : World) : evFn Try.prog 55 g55_ann #[.pointer u0, .int .i64 u1] w0 = g55 u0 u1 w0 := by kernel_rfl

theorem g55_call {u0 : Option Addr} {u1 : Int} {w0 : World} {r : Value × World} (h : g55 u0 u1 w0 = some r) : callF Try.prog 55 #[.pointer u0, .int .i64 u1] w0 = some r :=
  callF_of_evFn (ann := g55_ann) Try.call55 (by kernel_rfl) ((g55_eq u0 u1 w0).trans h)

/-! 56: (*penstock/codec.Writer).Uint (w: *codec.Writer, n: uint64) -/
def g56_ann : List (List Nat × List Nat) := [([0, 0, 1], [0, 1])]

def g56_l1_cs (u0 : Option Addr) : List (Nat × Value) := ([(0, .pointer u0)] : List (Nat × Value))

/-- the round of a loop ((*penstock/codec.Writer).Uint) -/
noncomputable def g56_l1_b (u0 : Option Addr) (s2 : Int) (w3 : World) : Option (Exit × (Int) × World) :=
if (decide ((s2 : Int) > 127)) = true then
(u0.bind fun a4 =>
(World.cell? w3 a4).bind fun v5 =>
(asSl v5).bind fun q6 =>
(callB Try.prog .append #[28, 28] 28 #[false, false] #[.slice q6.1 q6.2.1 q6.2.2, .slice (some (⟨w3.heap.size, 0, none⟩)) 1 1] (World.alloc w3 (.cells #[.int .u8 (IntKind.u8.wrap ((BitVec.ofInt 8 (IntKind.u8.wrap s2) ||| BitVec.ofInt 8 128).toNat : Nat))] 5))).bind fun r7 =>
(asSl r7.1).bind fun q8 =>
u0.bind fun a9 =>
(st1 r7.2 a9 (.slice q8.1 q8.2.1 q8.2.2)).bind fun w10 =>
some (.normal, (Int.fdiv s2 (2 ^ (min (Int.toNat 7) 64))), w10))
else
(some ((.exit 0), s2, w3))

noncomputable def g56_K11  : Exit → Env → World → Option (Value × World) :=
  retK Try.prog Try.f56.results.toList

noncomputable def g56_K12  : Exit → Env → World → Option (Value × World) :=
  seqK (ev Try.prog 33 56 g56_ann (cAt [1, 1] (bodyOf Try.f56)) [1, 1] g56_K11) g56_K11

noncomputable def g56_K13  : Exit → Env → World → Option (Value × World) :=
  blkK 0 g56_K12

/-- the loop, from a state on -/
noncomputable def g56_l1 (u0 : Option Addr) (s : Int) (w : World) : Option (Value × World) :=
  loopM Try.prog 33 56 g56_ann (cAt [1, 0, 0, 0] (bodyOf Try.f56)) [0, 0, 1] g56_K13 ((g56_l1_cs u0) ++ sputs [(1, .i .u64)] s) w

/-- behind the loop, left by x0 -/
noncomputable def g56_l1_x0 (u0 : Option Addr) (t14 : Int) (w15 : World) : Option (Value × World) :=
u0.bind fun a16 =>
(World.cell? w15 a16).bind fun v17 =>
(asSl v17).bind fun q18 =>
(callB Try.prog .append #[28, 28] 28 #[false, false] #[.slice q18.1 q18.2.1 q18.2.2, .slice (some (⟨w15.heap.size, 0, none⟩)) 1 1] (World.alloc w15 (.cells #[.int .u8 (IntKind.u8.wrap t14)] 5))).bind fun r19 =>
(asSl r19.1).bind fun q20 =>
u0.bind fun a21 =>
(st1 r19.2 a21 (.slice q20.1 q20.2.1 q20.2.2)).bind fun w22 =>
some (.tuple #[], w22)

noncomputable def g56 (u0 : Option Addr) (u1 : Int) (w0 : World) : Option (Value × World) :=
if (u0.isNone) = true then
(some (.tuple #[], w0))
else
(g56_l1 u0 u1 w0)

theorem g56_eq (u0 : Option Addr) (u1 : Int) (w0 : World) : evFn Try.prog 56 g56_ann #[.pointer u0, .int .u64 u1] w0 = g56 u0 u1 w0 := by kernel_rfl

theorem g56_call {u0 : Option Addr} {u1 : Int} {w0 : World} {r : Value × World} (h : g56 u0 u1 w0 = some r) : callF Try.prog 56 #[.pointer u0, .int .u64 u1] w0 = some r :=
  callF_of_evFn (ann := g56_ann) Try.call56 (by kernel_rfl) ((g56_eq u0 u1 w0).trans h)

theorem g56_l1_x0_of {u0 : Option Addr} {s t : Int} {w w' : World} (h : loopS (g56_l1_b u0) s w = some (.exit 0, t, w')) : g56_l1 u0 s w = g56_l1_x0 u0 t w' := by
  have h1 : g56_l1 u0 s w = loopM Try.prog 33 56 g56_ann (cAt [1, 0, 0, 0] (bodyOf Try.f56)) [0, 0, 1] g56_K13 ((g56_l1_cs u0) ++ sputs [(1, .i .u64)] s) w := by kernel_rfl
  have h2 : loopM Try.prog 33 56 g56_ann (cAt [1, 0, 0, 0] (bodyOf Try.f56)) [0, 0, 1] g56_K13 ((g56_l1_cs u0) ++ sputs [(1, .i .u64)] s) w = g56_K13 (.exit 0) (puts 33 ((g56_l1_cs u0) ++ sputs [(1, .i .u64)] t)) w' :=
    loop_rule (P := Try.prog) (N := 33) (f := 56) (ann := g56_ann) (body := (cAt [1, 0, 0, 0] (bodyOf Try.f56))) (pt := [0, 0, 1]) (K := g56_K13) (g56_l1_cs u0) [(1, .i .u64)] (b := g56_l1_b u0) (fun s w => by kernel_rfl) (by kernel_rfl) (by kernel_rfl) (by kernel_rfl) h
  have h3 : g56_K13 (.exit 0) (puts 33 ((g56_l1_cs u0) ++ sputs [(1, .i .u64)] t)) w' = g56_l1_x0 u0 t w' := by kernel_rfl
  exact h1.trans (h2.trans h3)

/-! 57: (*penstock/codec.Reader).Uint (r: *codec.Reader) -/
def g57_ann : List (List Nat × List Nat) := [([0, 1, 1, 1, 1, 1], [0, 3, 2, 4, 5])]

def g57_l7_cs (u0 : Option Addr) (n6 : Int) : List (Nat × Value) := ([(0, .pointer u0), (3, .int .i64 n6)] : List (Nat × Value))

/-- the round of a loop ((*penstock/codec.Reader).Uint) -/
noncomputable def g57_l7_b (u0 : Option Addr) (n6 : Int) (s8 : Int × Int × Int) (w9 : World) : Option (Exit × (Int × Int × Int) × World) :=
u0.bind fun a10 =>
(World.cell? (World.drew w9) (Addr.add a10 1)).bind fun v11 =>
(asI .i64 v11).bind fun n12 =>
u0.bind fun a13 =>
(World.cell? (World.drew w9) a13).bind fun v14 =>
(asSl v14).bind fun q15 =>
if ((n12 : Int) == (q15.2.1 : Int)) = true then
(u0.bind fun a17 =>
(st1 (World.drew w9) (Addr.add a17 1) (.int .i64 n6)).bind fun w18 =>
(callF Try.prog 58 #[.pointer u0, .int .i64 6] w18).bind fun r19 =>
(asTup 0 r19.1).bind fun _ =>
some (.ret, (0, s8.2.1, s8.2.2), r19.2))
else
(u0.bind fun a20 =>
(World.cell? (World.drew (World.drew w9)) a20).bind fun v21 =>
(asSl v21).bind fun q22 =>
u0.bind fun a23 =>
(World.cell? (World.drew (World.drew w9)) (Addr.add a23 1)).bind fun v24 =>
(asI .i64 v24).bind fun n25 =>
(idxA q22.1 q22.2.1 1 n25).bind fun a26 =>
(World.cell? (World.drew (World.drew w9)) a26).bind fun v27 =>
(asI .u8 v27).bind fun n28 =>
u0.bind fun a29 =>
(World.cell? (World.drew (World.drew w9)) (Addr.add a29 1)).bind fun v30 =>
(asI .i64 v30).bind fun n31 =>
u0.bind fun a32 =>
(st1 (World.drew (World.drew w9)) (Addr.add a32 1) (.int .i64 (IntKind.i64.wrap (n31 + 1)))).bind fun w33 =>
if ((s8.2.2 : Int) == 63) = true then
(if (decide ((n28 : Int) > 1)) = true then
(u0.bind fun a34 =>
(st1 w33 (Addr.add a34 1) (.int .i64 n6)).bind fun w35 =>
(callF Try.prog 58 #[.pointer u0, .int .i64 7] w35).bind fun r36 =>
(asTup 0 r36.1).bind fun _ =>
some (.ret, (0, s8.2.1, s8.2.2), r36.2))
else
(if ((n28 : Int) == 0) = true then
(if (decide ((s8.2.2 : Int) > 0)) = true then
(u0.bind fun a37 =>
(st1 w33 (Addr.add a37 1) (.int .i64 n6)).bind fun w38 =>
(callF Try.prog 58 #[.pointer u0, .int .i64 7] w38).bind fun r39 =>
(asTup 0 r39.1).bind fun _ =>
some (.ret, (0, s8.2.1, s8.2.2), r39.2))
else
(if (s8.2.2 : Int) < 0 then
(none)
else
(if (decide ((n28 : Int) < 128)) = true then
(some (.ret, ((IntKind.u64.wrap ((BitVec.ofInt 64 s8.2.1 ||| BitVec.ofInt 64 (IntKind.u64.wrap ((IntKind.u64.wrap (IntKind.u8.wrap ((BitVec.ofInt 8 n28 &&& BitVec.ofInt 8 127).toNat : Nat))) * 2 ^ (min (Int.toNat s8.2.2) 64)))).toNat : Nat)), (IntKind.u64.wrap ((BitVec.ofInt 64 s8.2.1 ||| BitVec.ofInt 64 (IntKind.u64.wrap ((IntKind.u64.wrap (IntKind.u8.wrap ((BitVec.ofInt 8 n28 &&& BitVec.ofInt 8 127).toNat : Nat))) * 2 ^ (min (Int.toNat s8.2.2) 64)))).toNat : Nat)), s8.2.2), w33))
else
(some (.normal, (s8.1, (IntKind.u64.wrap ((BitVec.ofInt 64 s8.2.1 ||| BitVec.ofInt 64 (IntKind.u64.wrap ((IntKind.u64.wrap (IntKind.u8.wrap ((BitVec.ofInt 8 n28 &&& BitVec.ofInt 8 127).toNat : Nat))) * 2 ^ (min (Int.toNat s8.2.2) 64)))).toNat : Nat)), (IntKind.i64.wrap (s8.2.2 + 7))), w33)))))
else
(if (s8.2.2 : Int) < 0 then
(none)
else
(if (decide ((n28 : Int) < 128)) = true then
(some (.ret, ((IntKind.u64.wrap ((BitVec.ofInt 64 s8.2.1 ||| BitVec.ofInt 64 (IntKind.u64.wrap ((IntKind.u64.wrap (IntKind.u8.wrap ((BitVec.ofInt 8 n28 &&& BitVec.ofInt 8 127).toNat : Nat))) * 2 ^ (min (Int.toNat s8.2.2) 64)))).toNat : Nat)), (IntKind.u64.wrap ((BitVec.ofInt 64 s8.2.1 ||| BitVec.ofInt 64 (IntKind.u64.wrap ((IntKind.u64.wrap (IntKind.u8.wrap ((BitVec.ofInt 8 n28 &&& BitVec.ofInt 8 127).toNat : Nat))) * 2 ^ (min (Int.toNat s8.2.2) 64)))).toNat : Nat)), s8.2.2), w33))
else
(some (.normal, (s8.1, (IntKind.u64.wrap ((BitVec.ofInt 64 s8.2.1 ||| BitVec.ofInt 64 (IntKind.u64.wrap ((IntKind.u64.wrap (IntKind.u8.wrap ((BitVec.ofInt 8 n28 &&& BitVec.ofInt 8 127).toNat : Nat))) * 2 ^ (min (Int.toNat s8.2.2) 64)))).toNat : Nat)), (IntKind.i64.wrap (s8.2.2 + 7))), w33))))))
else
(if ((n28 : Int) == 0) = true then
(if (decide ((s8.2.2 : Int) > 0)) = true then
(u0.bind fun a40 =>
(st1 w33 (Addr.add a40 1) (.int .i64 n6)).bind fun w41 =>
(callF Try.prog 58 #[.pointer u0, .int .i64 7] w41).bind fun r42 =>
(asTup 0 r42.1).bind fun _ =>
some (.ret, (0, s8.2.1, s8.2.2), r42.2))
else
(if (s8.2.2 : Int) < 0 then
(none)
else
(if (decide ((n28 : Int) < 128)) = true then
(some (.ret, ((IntKind.u64.wrap ((BitVec.ofInt 64 s8.2.1 ||| BitVec.ofInt 64 (IntKind.u64.wrap ((IntKind.u64.wrap (IntKind.u8.wrap ((BitVec.ofInt 8 n28 &&& BitVec.ofInt 8 127).toNat : Nat))) * 2 ^ (min (Int.toNat s8.2.2) 64)))).toNat : Nat)), (IntKind.u64.wrap ((BitVec.ofInt 64 s8.2.1 ||| BitVec.ofInt 64 (IntKind.u64.wrap ((IntKind.u64.wrap (IntKind.u8.wrap ((BitVec.ofInt 8 n28 &&& BitVec.ofInt 8 127).toNat : Nat))) * 2 ^ (min (Int.toNat s8.2.2) 64)))).toNat : Nat)), s8.2.2), w33))
else
(some (.normal, (s8.1, (IntKind.u64.wrap ((BitVec.ofInt 64 s8.2.1 ||| BitVec.ofInt 64 (IntKind.u64.wrap ((IntKind.u64.wrap (IntKind.u8.wrap ((BitVec.ofInt 8 n28 &&& BitVec.ofInt 8 127).toNat : Nat))) * 2 ^ (min (Int.toNat s8.2.2) 64)))).toNat : Nat)), (IntKind.i64.wrap (s8.2.2 + 7))), w33)))))
else
(if (s8.2.2 : Int) < 0 then
(none)
else
(if (decide ((n28 : Int) < 128)) = true then
(some (.ret, ((IntKind.u64.wrap ((BitVec.ofInt 64 s8.2.1 ||| BitVec.ofInt 64 (IntKind.u64.wrap ((IntKind.u64.wrap (IntKind.u8.wrap ((BitVec.ofInt 8 n28 &&& BitVec.ofInt 8 127).toNat : Nat))) * 2 ^ (min (Int.toNat s8.2.2) 64)))).toNat : Nat)), (IntKind.u64.wrap ((BitVec.ofInt 64 s8.2.1 ||| BitVec.ofInt 64 (IntKind.u64.wrap ((IntKind.u64.wrap (IntKind.u8.wrap ((BitVec.ofInt 8 n28 &&& BitVec.ofInt 8 127).toNat : Nat))) * 2 ^ (min (Int.toNat s8.2.2) 64)))).toNat : Nat)), s8.2.2), w33))
else
(some (.normal, (s8.1, (IntKind.u64.wrap ((BitVec.ofInt 64 s8.2.1 ||| BitVec.ofInt 64 (IntKind.u64.wrap ((IntKind.u64.wrap (IntKind.u8.wrap ((BitVec.ofInt 8 n28 &&& BitVec.ofInt 8 127).toNat : Nat))) * 2 ^ (min (Int.toNat s8.2.2) 64)))).toNat : Nat)), (IntKind.i64.wrap (s8.2.2 + 7))), w33))))))

noncomputable def g57_K43  : Exit → Env → World → Option (Value × World) :=
  retK Try.prog Try.f57.results.toList

noncomputable def g57_K44  : Exit → Env → World → Option (Value × World) :=
  blkK 0 g57_K43

/-- the loop, from a state on -/
noncomputable def g57_l7 (u0 : Option Addr) (n6 : Int) (s : Int × Int × Int) (w : World) : Option (Value × World) :=
  loopM Try.prog 85 57 g57_ann (cAt [1, 1, 1, 1, 1, 0, 0] (bodyOf Try.f57)) [0, 1, 1, 1, 1, 1] g57_K44 ((g57_l7_cs u0 n6) ++ sputs [(2, .i .u64), (4, .i .u64), (5, .i .i64)] s) w

/-- behind the loop, left by ret -/
noncomputable def g57_l7_ret  (t45 : Int × Int × Int) (w46 : World) : Option (Value × World) :=
some (.int .u64 t45.1, w46)

noncomputable def g57 (u0 : Option Addr) (w0 : World) : Option (Value × World) :=
if (u0.isNone) = true then
(some (.int .u64 0, w0))
else
(u0.bind fun a1 =>
(World.cell? w0 (Addr.add a1 2)).bind fun v2 =>
(asI .i64 v2).bind fun n3 =>
if ((n3 : Int) != 0) = true then
(some (.int .u64 0, w0))
else
(u0.bind fun a4 =>
(World.cell? w0 (Addr.add a4 1)).bind fun v5 =>
(asI .i64 v5).bind fun n6 =>
g57_l7 u0 n6 (0, 0, 0) w0))

theorem g57_eq (u0 : Option Addr) (w0 : World) : evFn Try.prog 57 g57_ann #[.pointer u0] w0 = g57 u0 w0 := by kernel_rfl

theorem g57_call {u0 : Option Addr} {w0 : World} {r : Value × World} (h : g57 u0 w0 = some r) : callF Try.prog 57 #[.pointer u0] w0 = some r :=
  callF_of_evFn (ann := g57_ann) Try.call57 (by kernel_rfl) ((g57_eq u0 w0).trans h)

theorem g57_l7_ret_of {u0 : Option Addr} {n6 : Int} {s t : Int × Int × Int} {w w' : World} (h : loopS (g57_l7_b u0 n6) s w = some (.ret, t, w')) : g57_l7 u0 n6 s w = g57_l7_ret t w' := by
  have h1 : g57_l7 u0 n6 s w = loopM Try.prog 85 57 g57_ann (cAt [1, 1, 1, 1, 1, 0, 0] (bodyOf Try.f57)) [0, 1, 1, 1, 1, 1] g57_K44 ((g57_l7_cs u0 n6) ++ sputs [(2, .i .u64), (4, .i .u64), (5, .i .i64)] s) w := by kernel_rfl
  have h2 : loopM Try.prog 85 57 g57_ann (cAt [1, 1, 1, 1, 1, 0, 0] (bodyOf Try.f57)) [0, 1, 1, 1, 1, 1] g57_K44 ((g57_l7_cs u0 n6) ++ sputs [(2, .i .u64), (4, .i .u64), (5, .i .i64)] s) w = g57_K44 (.ret) (puts 85 ((g57_l7_cs u0 n6) ++ sputs [(2, .i .u64), (4, .i .u64), (5, .i .i64)] t)) w' :=
    loop_rule (P := Try.prog) (N := 85) (f := 57) (ann := g57_ann) (body := (cAt [1, 1, 1, 1, 1, 0, 0] (bodyOf Try.f57))) (pt := [0, 1, 1, 1, 1, 1]) (K := g57_K44) (g57_l7_cs u0 n6) [(2, .i .u64), (4, .i .u64), (5, .i .i64)] (b := g57_l7_b u0 n6) (fun s w => by kernel_rfl) (by kernel_rfl) (by kernel_rfl) (by kernel_rfl) h
  have h3 : g57_K44 (.ret) (puts 85 ((g57_l7_cs u0 n6) ++ sputs [(2, .i .u64), (4, .i .u64), (5, .i .i64)] t)) w' = g57_l7_ret t w' := by kernel_rfl
  exact h1.trans (h2.trans h3)

/-! 58: (*penstock/codec.Reader).fail (r: *codec.Reader, e: api.Errno) -/
def g58_ann : List (List Nat × List Nat) := []

noncomputable def g58 (u0 : Option Addr) (u1 : Int) (w0 : World) : Option (Value × World) :=
u0.bind fun a1 =>
(World.cell? w0 (Addr.add a1 2)).bind fun v2 =>
(asI .i64 v2).bind fun n3 =>
if ((n3 : Int) == 0) = true then
(u0.bind fun a4 =>
(st1 w0 (Addr.add a4 2) (.int .i64 u1)).bind fun w5 =>
some (.tuple #[], w5))
else
(some (.tuple #[], w0))

theorem g58_eq (u0 : Option Addr) (u1 : Int) (w0 : World) : evFn Try.prog 58 g58_ann #[.pointer u0, .int .i64 u1] w0 = g58 u0 u1 w0 := by kernel_rfl

theorem g58_call {u0 : Option Addr} {u1 : Int} {w0 : World} {r : Value × World} (h : g58 u0 u1 w0 = some r) : callF Try.prog 58 #[.pointer u0, .int .i64 u1] w0 = some r :=
  callF_of_evFn (ann := g58_ann) Try.call58 (by kernel_rfl) ((g58_eq u0 u1 w0).trans h)

end Go.Proofs.Ytcakijeoeankfaa
