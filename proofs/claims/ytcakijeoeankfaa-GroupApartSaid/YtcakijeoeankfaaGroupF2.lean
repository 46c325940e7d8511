/-
  GroupF2: lemmas on what Go functions of this seat come to (for whatever arguments, as each says). No condition but those that stand in each lemma.
-/
import Derived.Test.YtcakijeoeankfaaGroupF0
namespace Go.Proofs.Ytcakijeoeankfaa
open Go Go.Ev
set_option maxRecDepth 100000
set_option linter.unusedVariables false
/-! 21: penstock/penstocklaw16.batch (pid: uint64, l: []api.GrRec) -/
def g21_ann : List (List Nat × List Nat) := [([0, 1, 0, 1, 1], [4, 5, 14, 15, 16])]

def g21_l3_cs (w0 : World) (u1 : Option Addr × Nat × Nat) : List (Nat × Value) := ([(4, .pointer (some (⟨w0.heap.size, 0, none⟩))), (5, .pointer (some (⟨(World.alloc w0 (.cells #[.int .i64 0, .int .i64 0, .int .u64 0, .int .i64 0, .int .i64 0, .bool false, .bool false, .bool false, .slice none 0 0] 50)).heap.size, 0, none⟩))), (14, .slice u1.1 u1.2.1 u1.2.2), (15, .int .i64 (u1.2.1 : Int))] : List (Nat × Value))

/-- the round of a loop (penstock/penstocklaw16.batch) -/
noncomputable def g21_l3_b (u1 : Option Addr × Nat × Nat) (w0 : World) (s4 : Int) (w5 : World) : Option (Exit × (Int) × World) :=
if (decide ((s4 : Int) < (u1.2.1 : Int))) = true then
((idxA u1.1 u1.2.1 6 s4).bind fun a6 =>
(ldN w5 a6 0 6).bind fun l7 =>
(asI .i64 (l7.getD 0 undef)).bind fun n8 =>
(asI .i64 (l7.getD 1 undef)).bind fun n9 =>
(asI .i64 (l7.getD 2 undef)).bind fun n10 =>
(asSl (l7.getD 3 undef)).bind fun q11 =>
(asI .i64 (l7.getD 4 undef)).bind fun n12 =>
(asI .i64 (l7.getD 5 undef)).bind fun n13 =>
(stL (World.alloc w5 (.cells #[.int .i64 0, .int .i64 0, .int .i64 0, .slice none 0 0, .int .i64 0, .int .i64 0] 27)) (⟨w5.heap.size, 0, none⟩) [.int .i64 n8, .int .i64 n9, .int .i64 n10, .slice q11.1 q11.2.1 q11.2.2, .int .i64 n12, .int .i64 n13] 0).bind fun w14 =>
(ldN w14 (⟨w5.heap.size, 0, none⟩) 0 6).bind fun l15 =>
(asI .i64 (l15.getD 0 undef)).bind fun n16 =>
(asI .i64 (l15.getD 1 undef)).bind fun n17 =>
(asI .i64 (l15.getD 2 undef)).bind fun n18 =>
(asSl (l15.getD 3 undef)).bind fun q19 =>
(asI .i64 (l15.getD 4 undef)).bind fun n20 =>
(asI .i64 (l15.getD 5 undef)).bind fun n21 =>
(callF Try.prog 12 #[.agg #[.int .i64 n16, .int .i64 n17, .int .i64 n18, .slice q19.1 q19.2.1 q19.2.2, .int .i64 n20, .int .i64 n21]] w14).bind fun r22 =>
(asTup 2 r22.1).bind fun l23 =>
(asSl (l23.getD 0 undef)).bind fun q24 =>
(asI .i64 (l23.getD 1 undef)).bind fun n25 =>
(World.cell? r22.2 (Addr.add (⟨(World.alloc w0 (.cells #[.int .i64 0, .int .i64 0, .int .u64 0, .int .i64 0, .int .i64 0, .bool false, .bool false, .bool false, .slice none 0 0] 50)).heap.size, 0, none⟩) 8)).bind fun v26 =>
(asSl v26).bind fun q27 =>
(callB Try.prog .append #[48, 48] 48 #[false, false] #[.slice q27.1 q27.2.1 q27.2.2, .slice (some (⟨r22.2.heap.size, 0, none⟩)) 1 1] (World.alloc r22.2 (.cells #[.slice q24.1 q24.2.1 q24.2.2] 28))).bind fun r28 =>
(asSl r28.1).bind fun q29 =>
(st1 r28.2 (Addr.add (⟨(World.alloc w0 (.cells #[.int .i64 0, .int .i64 0, .int .u64 0, .int .i64 0, .int .i64 0, .bool false, .bool false, .bool false, .slice none 0 0] 50)).heap.size, 0, none⟩) 8) (.slice q29.1 q29.2.1 q29.2.2)).bind fun w30 =>
some (.normal, (IntKind.i64.wrap (s4 + 1)), w30))
else
(some ((.exit 0), s4, w5))

noncomputable def g21_K31  : Exit → Env → World → Option (Value × World) :=
  retK Try.prog Try.f21.results.toList

noncomputable def g21_K32  : Exit → Env → World → Option (Value × World) :=
  seqK (ev Try.prog 33 21 g21_ann (cAt [1, 1, 1] (bodyOf Try.f21)) [1, 1, 1] g21_K31) g21_K31

noncomputable def g21_K33  : Exit → Env → World → Option (Value × World) :=
  blkK 0 g21_K32

/-- the loop, from a state on -/
noncomputable def g21_l3 (w0 : World) (u1 : Option Addr × Nat × Nat) (s : Int) (w : World) : Option (Value × World) :=
  loopM Try.prog 33 21 g21_ann (cAt [1, 1, 0, 1, 0, 0] (bodyOf Try.f21)) [0, 1, 0, 1, 1] g21_K33 ((g21_l3_cs w0 u1) ++ sputs [(16, .i .i64)] s) w

/-- behind the loop, left by x0 -/
noncomputable def g21_l3_x0 (w0 : World) (t34 : Int) (w35 : World) : Option (Value × World) :=
(ldN w35 (⟨(World.alloc w0 (.cells #[.int .i64 0, .int .i64 0, .int .u64 0, .int .i64 0, .int .i64 0, .bool false, .bool false, .bool false, .slice none 0 0] 50)).heap.size, 0, none⟩) 0 9).bind fun l36 =>
(asI .i64 (l36.getD 0 undef)).bind fun n37 =>
(asI .i64 (l36.getD 1 undef)).bind fun n38 =>
(asI .u64 (l36.getD 2 undef)).bind fun n39 =>
(asI .i64 (l36.getD 3 undef)).bind fun n40 =>
(asI .i64 (l36.getD 4 undef)).bind fun n41 =>
(asB (l36.getD 5 undef)).bind fun b42 =>
(asB (l36.getD 6 undef)).bind fun b43 =>
(asB (l36.getD 7 undef)).bind fun b44 =>
(asSl (l36.getD 8 undef)).bind fun q45 =>
(stL w35 (⟨w0.heap.size, 0, none⟩) [.int .i64 n37, .int .i64 n38, .int .u64 n39, .int .i64 n40, .int .i64 n41, .bool b42, .bool b43, .bool b44, .slice q45.1 q45.2.1 q45.2.2] 0).bind fun w46 =>
(ldN w46 (⟨w0.heap.size, 0, none⟩) 0 9).bind fun l47 =>
(asI .i64 (l47.getD 0 undef)).bind fun n48 =>
(asI .i64 (l47.getD 1 undef)).bind fun n49 =>
(asI .u64 (l47.getD 2 undef)).bind fun n50 =>
(asI .i64 (l47.getD 3 undef)).bind fun n51 =>
(asI .i64 (l47.getD 4 undef)).bind fun n52 =>
(asB (l47.getD 5 undef)).bind fun b53 =>
(asB (l47.getD 6 undef)).bind fun b54 =>
(asB (l47.getD 7 undef)).bind fun b55 =>
(asSl (l47.getD 8 undef)).bind fun q56 =>
some (.agg #[.int .i64 n48, .int .i64 n49, .int .u64 n50, .int .i64 n51, .int .i64 n52, .bool b53, .bool b54, .bool b55, .slice q56.1 q56.2.1 q56.2.2], w46)

noncomputable def g21 (u0 : Int) (u1 : Option Addr × Nat × Nat) (w0 : World) : Option (Value × World) :=
(stL (World.alloc (World.alloc w0 (.cells #[.int .i64 0, .int .i64 0, .int .u64 0, .int .i64 0, .int .i64 0, .bool false, .bool false, .bool false, .slice none 0 0] 50)) (.cells #[.int .i64 0, .int .i64 0, .int .u64 0, .int .i64 0, .int .i64 0, .bool false, .bool false, .bool false, .slice none 0 0] 50)) (⟨(World.alloc w0 (.cells #[.int .i64 0, .int .i64 0, .int .u64 0, .int .i64 0, .int .i64 0, .bool false, .bool false, .bool false, .slice none 0 0] 50)).heap.size, 0, none⟩) [.int .i64 0, .int .i64 0, .int .u64 u0, .int .i64 0, .int .i64 0, .bool (decide ((u0 : Int) > 0)), .bool false, .bool false, .slice none 0 0] 0).bind fun w1 =>
g21_l3 w0 u1 0 w1

theorem g21_eq (u0 : Int) (u1 : Option Addr × Nat × Nat) (w0 : World) : evFn Try.prog 21 g21_ann #[.int .u64 u0, .slice u1.1 u1.2.1 u1.2.2] w0 = g21 u0 u1 w0 := by kernel_rfl

theorem g21_call {u0 : Int} {u1 : Option Addr × Nat × Nat} {w0 : World} {r : Value × World} (h : g21 u0 u1 w0 = some r) : callF Try.prog 21 #[.int .u64 u0, .slice u1.1 u1.2.1 u1.2.2] w0 = some r :=
  callF_of_evFn (ann := g21_ann) Try.call21 (by kernel_rfl) ((g21_eq u0 u1 w0).trans h)

theorem g21_l3_x0_of {w0 : World} {u1 : Option Addr × Nat × Nat} {s t : Int} {w w' : World} (h : loopS (g21_l3_b u1 w0) s w = some (.exit 0, t, w')) : g21_l3 w0 u1 s w = g21_l3_x0 w0 t w' := by
  have h1 : g21_l3 w0 u1 s w = loopM Try.prog 33 21 g21_ann (cAt [1, 1, 0, 1, 0, 0] (bodyOf Try.f21)) [0, 1, 0, 1, 1] g21_K33 ((g21_l3_cs w0 u1) ++ sputs [(16, .i .i64)] s) w := by kernel_rfl
  have h2 : loopM Try.prog 33 21 g21_ann (cAt [1, 1, 0, 1, 0, 0] (bodyOf Try.f21)) [0, 1, 0, 1, 1] g21_K33 ((g21_l3_cs w0 u1) ++ sputs [(16, .i .i64)] s) w = g21_K33 (.exit 0) (puts 33 ((g21_l3_cs w0 u1) ++ sputs [(16, .i .i64)] t)) w' :=
    loop_rule (P := Try.prog) (N := 33) (f := 21) (ann := g21_ann) (body := (cAt [1, 1, 0, 1, 0, 0] (bodyOf Try.f21))) (pt := [0, 1, 0, 1, 1]) (K := g21_K33) (g21_l3_cs w0 u1) [(16, .i .i64)] (b := g21_l3_b u1 w0) (fun s w => by kernel_rfl) (by kernel_rfl) (by kernel_rfl) (by kernel_rfl) h
  have h3 : g21_K33 (.exit 0) (puts 33 ((g21_l3_cs w0 u1) ++ sputs [(16, .i .i64)] t)) w' = g21_l3_x0 w0 t w' := by kernel_rfl
  exact h1.trans (h2.trans h3)

end Go.Proofs.Ytcakijeoeankfaa
