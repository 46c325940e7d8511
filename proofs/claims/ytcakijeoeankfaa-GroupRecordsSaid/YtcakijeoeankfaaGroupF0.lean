/-
  GroupF0: lemmas on what Go functions of this seat come to (for whatever arguments, as each says). No condition but those that stand in each lemma.
-/
import Derived.Test.YtcakijeoeankfaaLb9
import Derived.Test.YtcakijeoeankfaaProg
namespace Go.Proofs.Ytcakijeoeankfaa
open Go Go.Ev
set_option maxRecDepth 100000
set_option linter.unusedVariables false
/-! 9: penstock/penstocklaw16.awake () -/
def g9_ann : List (List Nat × List Nat) := []

noncomputable def g9  (w0 : World) : Option (Value × World) :=
(callF Try.prog 19 #[] w0).bind fun r1 =>
(asP r1.1).bind fun p2 =>
if (p2.isNone) = true then
(some (.bool false, r1.2))
else
((callF Try.prog 25 #[.pointer p2, .int .i64 0, .int .i64 2, .bool true] r1.2).bind fun r3 =>
(asTup 3 r3.1).bind fun l4 =>
(Ev.asAgg 6 (l4.getD 0 undef)).bind fun l5 =>
(asI .i64 (l5.getD 0 undef)).bind fun n6 =>
(asI .i64 (l5.getD 1 undef)).bind fun n7 =>
(asI .i64 (l5.getD 2 undef)).bind fun n8 =>
(asSl (l5.getD 3 undef)).bind fun q9 =>
(asI .i64 (l5.getD 4 undef)).bind fun n10 =>
(asI .i64 (l5.getD 5 undef)).bind fun n11 =>
(asB (l4.getD 1 undef)).bind fun b12 =>
(asI .i64 (l4.getD 2 undef)).bind fun n13 =>
(stL (World.alloc r3.2 (.cells #[.int .i64 0, .int .i64 0, .int .i64 0, .slice none 0 0, .int .i64 0, .int .i64 0] 27)) (⟨r3.2.heap.size, 0, none⟩) [.int .i64 n6, .int .i64 n7, .int .i64 n8, .slice q9.1 q9.2.1 q9.2.2, .int .i64 n10, .int .i64 n11] 0).bind fun w14 =>
if b12 = true then
(if ((n13 : Int) == 0) = true then
((World.cell? w14 (⟨r3.2.heap.size, 0, none⟩)).bind fun v15 =>
(asI .i64 v15).bind fun n16 =>
if ((n16 : Int) == 1) = true then
((World.cell? w14 (Addr.add (⟨r3.2.heap.size, 0, none⟩) 2)).bind fun v17 =>
(asI .i64 v17).bind fun n18 =>
if ((n18 : Int) == 1) = true then
((World.cell? w14 (Addr.add (⟨r3.2.heap.size, 0, none⟩) 3)).bind fun v19 =>
(asSl v19).bind fun q20 =>
if (((q20.2.1 : Int) : Int) == 1) = true then
((World.cell? w14 (Addr.add (⟨r3.2.heap.size, 0, none⟩) 3)).bind fun v22 =>
(asSl v22).bind fun q23 =>
(idxA q23.1 q23.2.1 1 0).bind fun a24 =>
(World.cell? w14 a24).bind fun v25 =>
(asI .i64 v25).bind fun n26 =>
some (.bool ((n26 : Int) == 2), w14))
else
(some (.bool false, w14)))
else
(some (.bool false, w14)))
else
(some (.bool false, w14)))
else
(some (.bool false, w14)))
else
(some (.bool false, w14)))

theorem g9_eq  (w0 : World) : evFn Try.prog 9 g9_ann #[] w0 = g9 w0 := by kernel_rfl

theorem g9_call  {w0 : World} {r : Value × World} (h : g9 w0 = some r) : callF Try.prog 9 #[] w0 = some r :=
  callF_of_evFn (ann := g9_ann) Try.call9 (by kernel_rfl) ((g9_eq  w0).trans h)

/-! 10: penstock/group.Owner (members: []int, part: int) -/
def g10_ann : List (List Nat × List Nat) := []

noncomputable def g10 (u0 : Option Addr × Nat × Nat) (u1 : Int) (w0 : World) : Option (Value × World) :=
if (((u0.2.1 : Int) : Int) == 0) = true then
(some (.int .i64 (-1), w0))
else
(if (decide ((u1 : Int) < 0)) = true then
(some (.int .i64 (-1), w0))
else
(if ((u0.2.1 : Int) : Int) = 0 then
(none)
else
((idxA u0.1 u0.2.1 1 (Int.tmod u1 (u0.2.1 : Int))).bind fun a3 =>
(World.cell? w0 a3).bind fun v4 =>
(asI .i64 v4).bind fun n5 =>
some (.int .i64 n5, w0))))

theorem g10_eq (u0 : Option Addr × Nat × Nat) (u1 : Int) (w0 : World) : evFn Try.prog 10 g10_ann #[.slice u0.1 u0.2.1 u0.2.2, .int .i64 u1] w0 = g10 u0 u1 w0 := by kernel_rfl

theorem g10_call {u0 : Option Addr × Nat × Nat} {u1 : Int} {w0 : World} {r : Value × World} (h : g10 u0 u1 w0 = some r) : callF Try.prog 10 #[.slice u0.1 u0.2.1 u0.2.2, .int .i64 u1] w0 = some r :=
  callF_of_evFn (ann := g10_ann) Try.call10 (by kernel_rfl) ((g10_eq u0 u1 w0).trans h)

/-! 11: penstock/penstockref16.Owner (members: []int, part: int) -/
def g11_ann : List (List Nat × List Nat) := [([0, 0, 1, 1], [0, 1])]

def g11_l2_cs (u0 : Option Addr × Nat × Nat) : List (Nat × Value) := ([(0, .slice u0.1 u0.2.1 u0.2.2)] : List (Nat × Value))

/-- the round of a loop (penstock/penstockref16.Owner) -/
noncomputable def g11_l2_b (u0 : Option Addr × Nat × Nat) (s3 : Int) (w4 : World) : Option (Exit × (Int) × World) :=
if (decide ((s3 : Int) ≥ (u0.2.1 : Int))) = true then
(if ((u0.2.1 : Int) : Int) = 0 then
(none)
else
(some (.normal, (Int.tmod s3 (u0.2.1 : Int)), w4)))
else
(some ((.exit 0), s3, w4))

noncomputable def g11_K7  : Exit → Env → World → Option (Value × World) :=
  retK Try.prog Try.f11.results.toList

noncomputable def g11_K8  : Exit → Env → World → Option (Value × World) :=
  seqK (ev Try.prog 24 11 g11_ann (cAt [1, 1, 1] (bodyOf Try.f11)) [1, 1, 1] g11_K7) g11_K7

noncomputable def g11_K9  : Exit → Env → World → Option (Value × World) :=
  blkK 0 g11_K8

/-- the loop, from a state on -/
noncomputable def g11_l2 (u0 : Option Addr × Nat × Nat) (s : Int) (w : World) : Option (Value × World) :=
  loopM Try.prog 24 11 g11_ann (cAt [1, 1, 0, 0, 0] (bodyOf Try.f11)) [0, 0, 1, 1] g11_K9 ((g11_l2_cs u0) ++ sputs [(1, .i .i64)] s) w

/-- behind the loop, left by x0 -/
noncomputable def g11_l2_x0 (u0 : Option Addr × Nat × Nat) (t10 : Int) (w11 : World) : Option (Value × World) :=
(idxA u0.1 u0.2.1 1 t10).bind fun a12 =>
(World.cell? w11 a12).bind fun v13 =>
(asI .i64 v13).bind fun n14 =>
some (.int .i64 n14, w11)

noncomputable def g11 (u0 : Option Addr × Nat × Nat) (u1 : Int) (w0 : World) : Option (Value × World) :=
if (decide ((u1 : Int) < 0)) = true then
(some (.int .i64 (-1), w0))
else
(if (((u0.2.1 : Int) : Int) == 0) = true then
(some (.int .i64 (-1), w0))
else
(g11_l2 u0 u1 w0))

theorem g11_eq (u0 : Option Addr × Nat × Nat) (u1 : Int) (w0 : World) : evFn Try.prog 11 g11_ann #[.slice u0.1 u0.2.1 u0.2.2, .int .i64 u1] w0 = g11 u0 u1 w0 := by kernel_rfl

theorem g11_call {u0 : Option Addr × Nat × Nat} {u1 : Int} {w0 : World} {r : Value × World} (h : g11 u0 u1 w0 = some r) : callF Try.prog 11 #[.slice u0.1 u0.2.1 u0.2.2, .int .i64 u1] w0 = some r :=
  callF_of_evFn (ann := g11_ann) Try.call11 (by kernel_rfl) ((g11_eq u0 u1 w0).trans h)

theorem g11_l2_x0_of {u0 : Option Addr × Nat × Nat} {s t : Int} {w w' : World} (h : loopS (g11_l2_b u0) s w = some (.exit 0, t, w')) : g11_l2 u0 s w = g11_l2_x0 u0 t w' := by
  have h1 : g11_l2 u0 s w = loopM Try.prog 24 11 g11_ann (cAt [1, 1, 0, 0, 0] (bodyOf Try.f11)) [0, 0, 1, 1] g11_K9 ((g11_l2_cs u0) ++ sputs [(1, .i .i64)] s) w := by kernel_rfl
  have h2 : loopM Try.prog 24 11 g11_ann (cAt [1, 1, 0, 0, 0] (bodyOf Try.f11)) [0, 0, 1, 1] g11_K9 ((g11_l2_cs u0) ++ sputs [(1, .i .i64)] s) w = g11_K9 (.exit 0) (puts 24 ((g11_l2_cs u0) ++ sputs [(1, .i .i64)] t)) w' :=
    loop_rule (P := Try.prog) (N := 24) (f := 11) (ann := g11_ann) (body := (cAt [1, 1, 0, 0, 0] (bodyOf Try.f11))) (pt := [0, 0, 1, 1]) (K := g11_K9) (g11_l2_cs u0) [(1, .i .i64)] (b := g11_l2_b u0) (fun s w => by kernel_rfl) (by kernel_rfl) (by kernel_rfl) (by kernel_rfl) h
  have h3 : g11_K9 (.exit 0) (puts 24 ((g11_l2_cs u0) ++ sputs [(1, .i .i64)] t)) w' = g11_l2_x0 u0 t w' := by kernel_rfl
  exact h1.trans (h2.trans h3)

/-! 14: penstock/penstocklaw16.own (r: api.GrRec) -/
def g14_ann : List (List Nat × List Nat) := []

noncomputable def g14 (u0c0 : Int) (u0c1 : Int) (u0c2 : Int) (u0c3 : Option Addr × Nat × Nat) (u0c4 : Int) (u0c5 : Int) (w0 : World) : Option (Value × World) :=
(World.cell? (World.alloc (World.alloc (World.alloc w0 (.cells #[.int .i64 u0c0, .int .i64 u0c1, .int .i64 u0c2, .slice u0c3.1 u0c3.2.1 u0c3.2.2, .int .i64 u0c4, .int .i64 u0c5] 27)) (.cells #[.int .i64 0, .int .i64 0, .int .i64 0, .slice none 0 0, .int .i64 0, .int .i64 0] 27)) (.cells #[] 3)) (Addr.add (⟨w0.heap.size, 0, none⟩) 3)).bind fun v1 =>
(asSl v1).bind fun q2 =>
(callB Try.prog .append #[22, 22] 22 #[false, false] #[.slice (some (⟨(World.alloc (World.alloc w0 (.cells #[.int .i64 u0c0, .int .i64 u0c1, .int .i64 u0c2, .slice u0c3.1 u0c3.2.1 u0c3.2.2, .int .i64 u0c4, .int .i64 u0c5] 27)) (.cells #[.int .i64 0, .int .i64 0, .int .i64 0, .slice none 0 0, .int .i64 0, .int .i64 0] 27)).heap.size, 0, none⟩)) 0 0, .slice q2.1 q2.2.1 q2.2.2] (World.alloc (World.alloc (World.alloc w0 (.cells #[.int .i64 u0c0, .int .i64 u0c1, .int .i64 u0c2, .slice u0c3.1 u0c3.2.1 u0c3.2.2, .int .i64 u0c4, .int .i64 u0c5] 27)) (.cells #[.int .i64 0, .int .i64 0, .int .i64 0, .slice none 0 0, .int .i64 0, .int .i64 0] 27)) (.cells #[] 3))).bind fun r3 =>
(asSl r3.1).bind fun q4 =>
(st1 r3.2 (Addr.add (⟨w0.heap.size, 0, none⟩) 3) (.slice q4.1 q4.2.1 q4.2.2)).bind fun w5 =>
(ldN w5 (⟨w0.heap.size, 0, none⟩) 0 6).bind fun l6 =>
(asI .i64 (l6.getD 0 undef)).bind fun n7 =>
(asI .i64 (l6.getD 1 undef)).bind fun n8 =>
(asI .i64 (l6.getD 2 undef)).bind fun n9 =>
(asSl (l6.getD 3 undef)).bind fun q10 =>
(asI .i64 (l6.getD 4 undef)).bind fun n11 =>
(asI .i64 (l6.getD 5 undef)).bind fun n12 =>
(stL w5 (⟨(World.alloc w0 (.cells #[.int .i64 u0c0, .int .i64 u0c1, .int .i64 u0c2, .slice u0c3.1 u0c3.2.1 u0c3.2.2, .int .i64 u0c4, .int .i64 u0c5] 27)).heap.size, 0, none⟩) [.int .i64 n7, .int .i64 n8, .int .i64 n9, .slice q10.1 q10.2.1 q10.2.2, .int .i64 n11, .int .i64 n12] 0).bind fun w13 =>
(ldN w13 (⟨(World.alloc w0 (.cells #[.int .i64 u0c0, .int .i64 u0c1, .int .i64 u0c2, .slice u0c3.1 u0c3.2.1 u0c3.2.2, .int .i64 u0c4, .int .i64 u0c5] 27)).heap.size, 0, none⟩) 0 6).bind fun l14 =>
(asI .i64 (l14.getD 0 undef)).bind fun n15 =>
(asI .i64 (l14.getD 1 undef)).bind fun n16 =>
(asI .i64 (l14.getD 2 undef)).bind fun n17 =>
(asSl (l14.getD 3 undef)).bind fun q18 =>
(asI .i64 (l14.getD 4 undef)).bind fun n19 =>
(asI .i64 (l14.getD 5 undef)).bind fun n20 =>
some (.agg #[.int .i64 n15, .int .i64 n16, .int .i64 n17, .slice q18.1 q18.2.1 q18.2.2, .int .i64 n19, .int .i64 n20], w13)

theorem g14_eq (u0c0 : Int) (u0c1 : Int) (u0c2 : Int) (u0c3 : Option Addr × Nat × Nat) (u0c4 : Int) (u0c5 : Int) (w0 : World) : evFn Try.prog 14 g14_ann #[.agg #[.int .i64 u0c0, .int .i64 u0c1, .int .i64 u0c2, .slice u0c3.1 u0c3.2.1 u0c3.2.2, .int .i64 u0c4, .int .i64 u0c5]] w0 = g14 u0c0 u0c1 u0c2 u0c3 u0c4 u0c5 w0 := by kernel_rfl

theorem g14_call {u0c0 : Int} {u0c1 : Int} {u0c2 : Int} {u0c3 : Option Addr × Nat × Nat} {u0c4 : Int} {u0c5 : Int} {w0 : World} {r : Value × World} (h : g14 u0c0 u0c1 u0c2 u0c3 u0c4 u0c5 w0 = some r) : callF Try.prog 14 #[.agg #[.int .i64 u0c0, .int .i64 u0c1, .int .i64 u0c2, .slice u0c3.1 u0c3.2.1 u0c3.2.2, .int .i64 u0c4, .int .i64 u0c5]] w0 = some r :=
  callF_of_evFn (ann := g14_ann) Try.call14 (by kernel_rfl) ((g14_eq u0c0 u0c1 u0c2 u0c3 u0c4 u0c5 w0).trans h)

/-! 19: penstock/group.New () -/
def g19_ann : List (List Nat × List Nat) := []

noncomputable def g19  (w0 : World) : Option (Value × World) :=
some (.pointer (some (⟨(World.alloc (World.alloc w0 (.map #[] 0)) (.map #[] 0)).heap.size, 0, none⟩)), (World.alloc (World.alloc (World.alloc w0 (.map #[] 0)) (.map #[] 0)) (.cells #[.map (some w0.heap.size), .map (some ((World.alloc w0 (.map #[] 0)).heap.size))] 87)))

theorem g19_eq  (w0 : World) : evFn Try.prog 19 g19_ann #[] w0 = g19 w0 := by kernel_rfl

theorem g19_call  {w0 : World} {r : Value × World} (h : g19 w0 = some r) : callF Try.prog 19 #[] w0 = some r :=
  callF_of_evFn (ann := g19_ann) Try.call19 (by kernel_rfl) ((g19_eq  w0).trans h)

/-! 20: (*penstock/group.State).Apply (s: *group.State, b: api.Batch) -/
def g20_ann : List (List Nat × List Nat) := [([0, 1, 0, 1, 0, 0, 1, 1, 1, 0, 0, 1], [0, 3, 24, 25, 26]), ([0, 1, 1, 1], [0, 3, 41, 42, 43])]

def g20_l13_cs (u0 : Option Addr) (w0 : World) (q11 : Option Addr × Nat × Nat) : List (Nat × Value) := ([(0, .pointer u0), (3, .pointer (some (⟨w0.heap.size, 0, none⟩))), (24, .slice q11.1 q11.2.1 q11.2.2), (25, .int .i64 (q11.2.1 : Int))] : List (Nat × Value))

/-- the round of a loop ((*penstock/group.State).Apply) -/
noncomputable def g20_l13_b (q11 : Option Addr × Nat × Nat) (u0 : Option Addr) (w0 : World) (s14 : Int) (w15 : World) : Option (Exit × (Int) × World) :=
if (decide ((s14 : Int) < (q11.2.1 : Int))) = true then
((idxA q11.1 q11.2.1 6 s14).bind fun a16 =>
(ldN w15 a16 0 6).bind fun l17 =>
(asI .i64 (l17.getD 0 undef)).bind fun n18 =>
(asI .i64 (l17.getD 1 undef)).bind fun n19 =>
(asI .i64 (l17.getD 2 undef)).bind fun n20 =>
(asSl (l17.getD 3 undef)).bind fun q21 =>
(asI .i64 (l17.getD 4 undef)).bind fun n22 =>
(asI .i64 (l17.getD 5 undef)).bind fun n23 =>
(stL (World.alloc w15 (.cells #[.int .i64 0, .int .i64 0, .int .i64 0, .slice none 0 0, .int .i64 0, .int .i64 0] 27)) (⟨w15.heap.size, 0, none⟩) [.int .i64 n18, .int .i64 n19, .int .i64 n20, .slice q21.1 q21.2.1 q21.2.2, .int .i64 n22, .int .i64 n23] 0).bind fun w24 =>
(ldN w24 (⟨w15.heap.size, 0, none⟩) 0 6).bind fun l25 =>
(asI .i64 (l25.getD 0 undef)).bind fun n26 =>
(asI .i64 (l25.getD 1 undef)).bind fun n27 =>
(asI .i64 (l25.getD 2 undef)).bind fun n28 =>
(asSl (l25.getD 3 undef)).bind fun q29 =>
(asI .i64 (l25.getD 4 undef)).bind fun n30 =>
(asI .i64 (l25.getD 5 undef)).bind fun n31 =>
(callF Try.prog 43 #[.pointer u0, .agg #[.int .i64 n26, .int .i64 n27, .int .i64 n28, .slice q29.1 q29.2.1 q29.2.2, .int .i64 n30, .int .i64 n31]] w24).bind fun r32 =>
(asTup 0 r32.1).bind fun _ =>
some (.normal, (IntKind.i64.wrap (s14 + 1)), r32.2))
else
(some ((.exit 1), s14, w15))

noncomputable def g20_K33  : Exit → Env → World → Option (Value × World) :=
  retK Try.prog Try.f20.results.toList

noncomputable def g20_K34  : Exit → Env → World → Option (Value × World) :=
  seqK (ev Try.prog 78 20 g20_ann (cAt [1, 1] (bodyOf Try.f20)) [1, 1] g20_K33) g20_K33

noncomputable def g20_K35  : Exit → Env → World → Option (Value × World) :=
  blkK 0 g20_K34

noncomputable def g20_K36  : Exit → Env → World → Option (Value × World) :=
  seqK (ev Try.prog 78 20 g20_ann (cAt [1, 0, 0, 1, 1, 1, 0, 1] (bodyOf Try.f20)) [1, 0, 1, 1, 1, 0, 0, 1] g20_K35) g20_K35

noncomputable def g20_K37  : Exit → Env → World → Option (Value × World) :=
  blkK 1 g20_K36

/-- the loop, from a state on -/
noncomputable def g20_l13 (u0 : Option Addr) (w0 : World) (q11 : Option Addr × Nat × Nat) (s : Int) (w : World) : Option (Value × World) :=
  loopM Try.prog 78 20 g20_ann (cAt [1, 0, 0, 1, 1, 1, 0, 0, 1, 0, 1, 0, 0] (bodyOf Try.f20)) [0, 1, 0, 1, 0, 0, 1, 1, 1, 0, 0, 1] g20_K37 ((g20_l13_cs u0 w0 q11) ++ sputs [(26, .i .i64)] s) w

/-- behind the loop, left by x1 -/
noncomputable def g20_l13_x1 (u0 : Option Addr) (w0 : World) (t38 : Int) (w39 : World) : Option (Value × World) :=
u0.bind fun a40 =>
(World.cell? (World.drew w39) (Addr.add a40 1)).bind fun v41 =>
(asM v41).bind fun m42 =>
(World.cell? (World.drew w39) (Addr.add (⟨w0.heap.size, 0, none⟩) 2)).bind fun v43 =>
(asI .u64 v43).bind fun n44 =>
(callB Try.prog .delete #[85, 47] 0 #[false, false] #[.map m42, .int .u64 n44] (World.drew w39)).bind fun r45 =>
(asTup 0 r45.1).bind fun _ =>
some (.tuple #[], r45.2)

def g20_l55_cs (u0 : Option Addr) (w0 : World) (q53 : Option Addr × Nat × Nat) : List (Nat × Value) := ([(0, .pointer u0), (3, .pointer (some (⟨w0.heap.size, 0, none⟩))), (41, .slice q53.1 q53.2.1 q53.2.2), (42, .int .i64 (q53.2.1 : Int))] : List (Nat × Value))

noncomputable def g20_j357 (s56 : Int) (w364 : World) : Option (Exit × (Int) × World) :=
some (.normal, (IntKind.i64.wrap (s56 + 1)), w364)

noncomputable def g20_j335a (u0 : Option Addr) (w0 : World) (q60 : Option Addr × Nat × Nat) (r61 : Value × World) (n70 : Int) (q53 : Option Addr × Nat × Nat) (s56 : Int) (a58 : Addr) (n64 : Int) (n65 : Int) (n66 : Int) (q67 : Option Addr × Nat × Nat) (n68 : Int) (n69 : Int) (b73 : Bool) (a75 : Addr) (a80 : Addr) (n85 : Int) (n86 : Int) (n87 : Int) (q88 : Option Addr × Nat × Nat) (n89 : Int) (n90 : Int) (w71 : World) (x352 : Option Nat) (x353 : Int) (x354 : Option Addr × Nat × Nat) (w355 : World) : Option (Exit × (Int) × World) :=
(mUpd (.int .u64) w355 x352 (.int .u64 x353) (.slice x354.1 x354.2.1 x354.2.2)).bind fun w356 =>
g20_j357 s56 w356

noncomputable def g20_j296a (w71 : World) (n85 : Int) (n86 : Int) (n87 : Int) (q88 : Option Addr × Nat × Nat) (n89 : Int) (n90 : Int) (u0 : Option Addr) (w0 : World) (q60 : Option Addr × Nat × Nat) (r61 : Value × World) (n70 : Int) (q53 : Option Addr × Nat × Nat) (s56 : Int) (a58 : Addr) (n64 : Int) (n65 : Int) (n66 : Int) (q67 : Option Addr × Nat × Nat) (n68 : Int) (n69 : Int) (b73 : Bool) (a75 : Addr) (a80 : Addr) (x330 : Option Nat) (x331 : Int) (x332 : Option Addr × Nat × Nat) : Option (Exit × (Int) × World) :=
(callB Try.prog .append #[55, 55] 55 #[false, false] #[.slice x332.1 x332.2.1 x332.2.2, .slice (some (⟨(World.drew w71).heap.size, 0, none⟩)) 1 1] (World.alloc (World.drew w71) (.cells #[.int .i64 n85, .int .i64 n86, .int .i64 n87, .slice q88.1 q88.2.1 q88.2.2, .int .i64 n89, .int .i64 n90] 27))).bind fun r333 =>
(asSl r333.1).bind fun q334 =>
g20_j335a u0 w0 q60 r61 n70 q53 s56 a58 n64 n65 n66 q67 n68 n69 b73 a75 a80 n85 n86 n87 q88 n89 n90 w71 x330 x331 (q334.1, q334.2.1, q334.2.2) r333.2

noncomputable def g20_j260 (w71 : World) (n85 : Int) (n86 : Int) (n87 : Int) (q88 : Option Addr × Nat × Nat) (n89 : Int) (n90 : Int) (u0 : Option Addr) (w0 : World) (q60 : Option Addr × Nat × Nat) (r61 : Value × World) (n70 : Int) (q53 : Option Addr × Nat × Nat) (s56 : Int) (a58 : Addr) (n64 : Int) (n65 : Int) (n66 : Int) (q67 : Option Addr × Nat × Nat) (n68 : Int) (n69 : Int) (b73 : Bool) (a75 : Addr) (a80 : Addr) (x300 : Option Nat) (x301 : Int) (x302 : Option Nat) (x303 : Int) : Option (Exit × (Int) × World) :=
(mLook (.int .u64) (World.alloc (World.drew w71) (.cells #[.int .i64 n85, .int .i64 n86, .int .i64 n87, .slice q88.1 q88.2.1 q88.2.2, .int .i64 n89, .int .i64 n90] 27)) x302 (.int .u64 x303)).bind fun o304 =>
(asSl (o304.getD (.slice none 0 0))).bind fun q305 =>
g20_j296a w71 n85 n86 n87 q88 n89 n90 u0 w0 q60 r61 n70 q53 s56 a58 n64 n65 n66 q67 n68 n69 b73 a75 a80 x300 x301 (q305.1, q305.2.1, q305.2.2)

noncomputable def g20_j204 (w71 : World) (u0 : Option Addr) (w0 : World) (q60 : Option Addr × Nat × Nat) (r61 : Value × World) (n70 : Int) (q53 : Option Addr × Nat × Nat) (s56 : Int) (a58 : Addr) (n64 : Int) (n65 : Int) (n66 : Int) (q67 : Option Addr × Nat × Nat) (n68 : Int) (n69 : Int) (b73 : Bool) (a75 : Addr) (a80 : Addr) (n85 : Int) (n86 : Int) (n87 : Int) (q88 : Option Addr × Nat × Nat) (n89 : Int) (n90 : Int) (x253 : Option Nat) (x254 : Int) (x255 : Option Nat) (x256 : Int) : Option (Exit × (Int) × World) :=
if (ahd (Region.schedule true (opsOf (cAt [1, 1, 1, 0, 0, 1, 1, 0, 0, 1, 1, 0, 1, 1, 1, 0] (bodyOf Try.f20))) (World.tape w71 (World.drawn w71) (.order 20 17))) 12 14 && true) = true then
((mLook (.int .u64) (World.drew w71) x255 (.int .u64 x256)).bind fun o257 =>
(asSl (o257.getD (.slice none 0 0))).bind fun q258 =>
g20_j296a w71 n85 n86 n87 q88 n89 n90 u0 w0 q60 r61 n70 q53 s56 a58 n64 n65 n66 q67 n68 n69 b73 a75 a80 x253 x254 (q258.1, q258.2.1, q258.2.2))
else
(g20_j260 w71 n85 n86 n87 q88 n89 n90 u0 w0 q60 r61 n70 q53 s56 a58 n64 n65 n66 q67 n68 n69 b73 a75 a80 x253 x254 x255 x256)

noncomputable def g20_j205 (w71 : World) (n85 : Int) (n86 : Int) (n87 : Int) (q88 : Option Addr × Nat × Nat) (n89 : Int) (n90 : Int) (w0 : World) (u0 : Option Addr) (q60 : Option Addr × Nat × Nat) (r61 : Value × World) (n70 : Int) (q53 : Option Addr × Nat × Nat) (s56 : Int) (a58 : Addr) (n64 : Int) (n65 : Int) (n66 : Int) (q67 : Option Addr × Nat × Nat) (n68 : Int) (n69 : Int) (b73 : Bool) (a75 : Addr) (a80 : Addr) (x261 : Option Nat) (x262 : Int) (x263 : Option Nat) : Option (Exit × (Int) × World) :=
(World.cell? (World.alloc (World.drew w71) (.cells #[.int .i64 n85, .int .i64 n86, .int .i64 n87, .slice q88.1 q88.2.1 q88.2.2, .int .i64 n89, .int .i64 n90] 27)) (Addr.add (⟨w0.heap.size, 0, none⟩) 2)).bind fun v264 =>
(asI .u64 v264).bind fun n265 =>
g20_j260 w71 n85 n86 n87 q88 n89 n90 u0 w0 q60 r61 n70 q53 s56 a58 n64 n65 n66 q67 n68 n69 b73 a75 a80 x261 x262 x263 n265

noncomputable def g20_j145 (w71 : World) (w0 : World) (u0 : Option Addr) (q60 : Option Addr × Nat × Nat) (r61 : Value × World) (n70 : Int) (q53 : Option Addr × Nat × Nat) (s56 : Int) (a58 : Addr) (n64 : Int) (n65 : Int) (n66 : Int) (q67 : Option Addr × Nat × Nat) (n68 : Int) (n69 : Int) (b73 : Bool) (a75 : Addr) (a80 : Addr) (n85 : Int) (n86 : Int) (n87 : Int) (q88 : Option Addr × Nat × Nat) (n89 : Int) (n90 : Int) (x199 : Option Nat) (x200 : Int) (x201 : Option Nat) : Option (Exit × (Int) × World) :=
if (ahd (Region.schedule true (opsOf (cAt [1, 1, 1, 0, 0, 1, 1, 0, 0, 1, 1, 0, 1, 1, 1, 0] (bodyOf Try.f20))) (World.tape w71 (World.drawn w71) (.order 20 17))) 11 14 && true) = true then
((World.cell? (World.drew w71) (Addr.add (⟨w0.heap.size, 0, none⟩) 2)).bind fun v202 =>
(asI .u64 v202).bind fun n203 =>
g20_j204 w71 u0 w0 q60 r61 n70 q53 s56 a58 n64 n65 n66 q67 n68 n69 b73 a75 a80 n85 n86 n87 q88 n89 n90 x199 x200 x201 n203)
else
(g20_j205 w71 n85 n86 n87 q88 n89 n90 w0 u0 q60 r61 n70 q53 s56 a58 n64 n65 n66 q67 n68 n69 b73 a75 a80 x199 x200 x201)

noncomputable def g20_j148 (w71 : World) (a80 : Addr) (u0 : Option Addr) (w0 : World) (q60 : Option Addr × Nat × Nat) (r61 : Value × World) (n70 : Int) (q53 : Option Addr × Nat × Nat) (s56 : Int) (a58 : Addr) (n64 : Int) (n65 : Int) (n66 : Int) (q67 : Option Addr × Nat × Nat) (n68 : Int) (n69 : Int) (b73 : Bool) (a75 : Addr) (n85 : Int) (n86 : Int) (n87 : Int) (q88 : Option Addr × Nat × Nat) (n89 : Int) (n90 : Int) (x206 : Option Nat) (x207 : Int) (x208 : Int) : Option (Exit × (Int) × World) :=
if (ahd (Region.schedule true (opsOf (cAt [1, 1, 1, 0, 0, 1, 1, 0, 0, 1, 1, 0, 1, 1, 1, 0] (bodyOf Try.f20))) (World.tape w71 (World.drawn w71) (.order 20 17))) 9 14 && true) = true then
((World.cell? (World.drew w71) (Addr.add a80 1)).bind fun v209 =>
(asM v209).bind fun m210 =>
g20_j204 w71 u0 w0 q60 r61 n70 q53 s56 a58 n64 n65 n66 q67 n68 n69 b73 a75 a80 n85 n86 n87 q88 n89 n90 x206 x207 m210 x208)
else
((World.cell? (World.alloc (World.drew w71) (.cells #[.int .i64 n85, .int .i64 n86, .int .i64 n87, .slice q88.1 q88.2.1 q88.2.2, .int .i64 n89, .int .i64 n90] 27)) (Addr.add a80 1)).bind fun v266 =>
(asM v266).bind fun m267 =>
g20_j260 w71 n85 n86 n87 q88 n89 n90 u0 w0 q60 r61 n70 q53 s56 a58 n64 n65 n66 q67 n68 n69 b73 a75 a80 x206 x207 m267 x208)

noncomputable def g20_j107 (w71 : World) (a80 : Addr) (u0 : Option Addr) (w0 : World) (q60 : Option Addr × Nat × Nat) (r61 : Value × World) (n70 : Int) (q53 : Option Addr × Nat × Nat) (s56 : Int) (a58 : Addr) (n64 : Int) (n65 : Int) (n66 : Int) (q67 : Option Addr × Nat × Nat) (n68 : Int) (n69 : Int) (b73 : Bool) (a75 : Addr) (n85 : Int) (n86 : Int) (n87 : Int) (q88 : Option Addr × Nat × Nat) (n89 : Int) (n90 : Int) (x141 : Option Nat) (x142 : Int) : Option (Exit × (Int) × World) :=
if (ahd (Region.schedule true (opsOf (cAt [1, 1, 1, 0, 0, 1, 1, 0, 0, 1, 1, 0, 1, 1, 1, 0] (bodyOf Try.f20))) (World.tape w71 (World.drawn w71) (.order 20 17))) 9 11 && (ahd (Region.schedule true (opsOf (cAt [1, 1, 1, 0, 0, 1, 1, 0, 0, 1, 1, 0, 1, 1, 1, 0] (bodyOf Try.f20))) (World.tape w71 (World.drawn w71) (.order 20 17))) 9 14 && true)) = true then
((World.cell? (World.drew w71) (Addr.add a80 1)).bind fun v143 =>
(asM v143).bind fun m144 =>
g20_j145 w71 w0 u0 q60 r61 n70 q53 s56 a58 n64 n65 n66 q67 n68 n69 b73 a75 a80 n85 n86 n87 q88 n89 n90 x141 x142 m144)
else
(if (ahd (Region.schedule true (opsOf (cAt [1, 1, 1, 0, 0, 1, 1, 0, 0, 1, 1, 0, 1, 1, 1, 0] (bodyOf Try.f20))) (World.tape w71 (World.drawn w71) (.order 20 17))) 11 14 && true) = true then
((World.cell? (World.drew w71) (Addr.add (⟨w0.heap.size, 0, none⟩) 2)).bind fun v146 =>
(asI .u64 v146).bind fun n147 =>
g20_j148 w71 a80 u0 w0 q60 r61 n70 q53 s56 a58 n64 n65 n66 q67 n68 n69 b73 a75 n85 n86 n87 q88 n89 n90 x141 x142 n147)
else
((World.cell? (World.alloc (World.drew w71) (.cells #[.int .i64 n85, .int .i64 n86, .int .i64 n87, .slice q88.1 q88.2.1 q88.2.2, .int .i64 n89, .int .i64 n90] 27)) (Addr.add a80 1)).bind fun v212 =>
(asM v212).bind fun m213 =>
g20_j205 w71 n85 n86 n87 q88 n89 n90 w0 u0 q60 r61 n70 q53 s56 a58 n64 n65 n66 q67 n68 n69 b73 a75 a80 x141 x142 m213))

noncomputable def g20_j296b (w71 : World) (n85 : Int) (n86 : Int) (n87 : Int) (q88 : Option Addr × Nat × Nat) (n89 : Int) (n90 : Int) (u0 : Option Addr) (w0 : World) (q60 : Option Addr × Nat × Nat) (r61 : Value × World) (n70 : Int) (q53 : Option Addr × Nat × Nat) (s56 : Int) (a58 : Addr) (n64 : Int) (n65 : Int) (n66 : Int) (q67 : Option Addr × Nat × Nat) (n68 : Int) (n69 : Int) (b73 : Bool) (a75 : Addr) (a80 : Addr) (x336 : Option Nat) (x337 : Int) (x338 : Option Addr × Nat × Nat) : Option (Exit × (Int) × World) :=
(callB Try.prog .append #[55, 55] 55 #[false, false] #[.slice x338.1 x338.2.1 x338.2.2, .slice (some (⟨(World.drew w71).heap.size, 0, none⟩)) 1 1] (World.alloc (World.drew w71) (.cells #[.int .i64 n85, .int .i64 n86, .int .i64 n87, .slice q88.1 q88.2.1 q88.2.2, .int .i64 n89, .int .i64 n90] 27))).bind fun r339 =>
(asSl r339.1).bind fun q340 =>
g20_j335a u0 w0 q60 r61 n70 q53 s56 a58 n64 n65 n66 q67 n68 n69 b73 a75 a80 n85 n86 n87 q88 n89 n90 w71 x336 x337 (q340.1, q340.2.1, q340.2.2) r339.2

noncomputable def g20_j259b (u0 : Option Addr) (w0 : World) (q60 : Option Addr × Nat × Nat) (r61 : Value × World) (n70 : Int) (q53 : Option Addr × Nat × Nat) (s56 : Int) (a58 : Addr) (n64 : Int) (n65 : Int) (n66 : Int) (q67 : Option Addr × Nat × Nat) (n68 : Int) (n69 : Int) (b73 : Bool) (a75 : Addr) (a80 : Addr) (n85 : Int) (n86 : Int) (n87 : Int) (q88 : Option Addr × Nat × Nat) (n89 : Int) (n90 : Int) (w71 : World) (x297 : Option Nat) (x298 : Int) (x299 : Option Addr × Nat × Nat) : Option (Exit × (Int) × World) :=
g20_j296b w71 n85 n86 n87 q88 n89 n90 u0 w0 q60 r61 n70 q53 s56 a58 n64 n65 n66 q67 n68 n69 b73 a75 a80 x297 x298 (x299.1, x299.2.1, x299.2.2)

noncomputable def g20_j312a (w0 : World) (u0 : Option Addr) (q60 : Option Addr × Nat × Nat) (r61 : Value × World) (n70 : Int) (q53 : Option Addr × Nat × Nat) (s56 : Int) (a58 : Addr) (n64 : Int) (n65 : Int) (n66 : Int) (q67 : Option Addr × Nat × Nat) (n68 : Int) (n69 : Int) (b73 : Bool) (a75 : Addr) (a80 : Addr) (n85 : Int) (n86 : Int) (n87 : Int) (q88 : Option Addr × Nat × Nat) (n89 : Int) (n90 : Int) (w71 : World) (x341 : Option Nat) (x342 : Option Addr × Nat × Nat) (w343 : World) : Option (Exit × (Int) × World) :=
(World.cell? w343 (Addr.add (⟨w0.heap.size, 0, none⟩) 2)).bind fun v344 =>
(asI .u64 v344).bind fun n345 =>
(mUpd (.int .u64) w343 x341 (.int .u64 n345) (.slice x342.1 x342.2.1 x342.2.2)).bind fun w358 =>
g20_j357 s56 w358

noncomputable def g20_j272a (w71 : World) (n85 : Int) (n86 : Int) (n87 : Int) (q88 : Option Addr × Nat × Nat) (n89 : Int) (n90 : Int) (w0 : World) (u0 : Option Addr) (q60 : Option Addr × Nat × Nat) (r61 : Value × World) (n70 : Int) (q53 : Option Addr × Nat × Nat) (s56 : Int) (a58 : Addr) (n64 : Int) (n65 : Int) (n66 : Int) (q67 : Option Addr × Nat × Nat) (n68 : Int) (n69 : Int) (b73 : Bool) (a75 : Addr) (a80 : Addr) (x306 : Option Nat) (x307 : Option Addr × Nat × Nat) : Option (Exit × (Int) × World) :=
if (ahd (Region.schedule true (opsOf (cAt [1, 1, 1, 0, 0, 1, 1, 0, 0, 1, 1, 0, 1, 1, 1, 0] (bodyOf Try.f20))) (World.tape w71 (World.drawn w71) (.order 20 17))) 5 15 && true) = true then
((World.cell? (World.alloc (World.drew w71) (.cells #[.int .i64 n85, .int .i64 n86, .int .i64 n87, .slice q88.1 q88.2.1 q88.2.2, .int .i64 n89, .int .i64 n90] 27)) (Addr.add (⟨w0.heap.size, 0, none⟩) 2)).bind fun v308 =>
(asI .u64 v308).bind fun n309 =>
g20_j296b w71 n85 n86 n87 q88 n89 n90 u0 w0 q60 r61 n70 q53 s56 a58 n64 n65 n66 q67 n68 n69 b73 a75 a80 x306 n309 (x307.1, x307.2.1, x307.2.2))
else
((callB Try.prog .append #[55, 55] 55 #[false, false] #[.slice x307.1 x307.2.1 x307.2.2, .slice (some (⟨(World.drew w71).heap.size, 0, none⟩)) 1 1] (World.alloc (World.drew w71) (.cells #[.int .i64 n85, .int .i64 n86, .int .i64 n87, .slice q88.1 q88.2.1 q88.2.2, .int .i64 n89, .int .i64 n90] 27))).bind fun r310 =>
(asSl r310.1).bind fun q311 =>
g20_j312a w0 u0 q60 r61 n70 q53 s56 a58 n64 n65 n66 q67 n68 n69 b73 a75 a80 n85 n86 n87 q88 n89 n90 w71 x306 (q311.1, q311.2.1, q311.2.2) r310.2)

noncomputable def g20_j221 (w71 : World) (w0 : World) (u0 : Option Addr) (q60 : Option Addr × Nat × Nat) (r61 : Value × World) (n70 : Int) (q53 : Option Addr × Nat × Nat) (s56 : Int) (a58 : Addr) (n64 : Int) (n65 : Int) (n66 : Int) (q67 : Option Addr × Nat × Nat) (n68 : Int) (n69 : Int) (b73 : Bool) (a75 : Addr) (a80 : Addr) (n85 : Int) (n86 : Int) (n87 : Int) (q88 : Option Addr × Nat × Nat) (n89 : Int) (n90 : Int) (x268 : Option Nat) (x269 : Option Addr × Nat × Nat) : Option (Exit × (Int) × World) :=
if (ahd (Region.schedule true (opsOf (cAt [1, 1, 1, 0, 0, 1, 1, 0, 0, 1, 1, 0, 1, 1, 1, 0] (bodyOf Try.f20))) (World.tape w71 (World.drawn w71) (.order 20 17))) 5 14 && true) = true then
((World.cell? (World.drew w71) (Addr.add (⟨w0.heap.size, 0, none⟩) 2)).bind fun v270 =>
(asI .u64 v270).bind fun n271 =>
g20_j259b u0 w0 q60 r61 n70 q53 s56 a58 n64 n65 n66 q67 n68 n69 b73 a75 a80 n85 n86 n87 q88 n89 n90 w71 x268 n271 (x269.1, x269.2.1, x269.2.2))
else
(g20_j272a w71 n85 n86 n87 q88 n89 n90 w0 u0 q60 r61 n70 q53 s56 a58 n64 n65 n66 q67 n68 n69 b73 a75 a80 x268 (x269.1, x269.2.1, x269.2.2))

noncomputable def g20_j335c (u0 : Option Addr) (w0 : World) (q60 : Option Addr × Nat × Nat) (r61 : Value × World) (n70 : Int) (q53 : Option Addr × Nat × Nat) (s56 : Int) (a58 : Addr) (n64 : Int) (n65 : Int) (n66 : Int) (q67 : Option Addr × Nat × Nat) (n68 : Int) (n69 : Int) (b73 : Bool) (a75 : Addr) (a80 : Addr) (n85 : Int) (n86 : Int) (n87 : Int) (q88 : Option Addr × Nat × Nat) (n89 : Int) (n90 : Int) (w71 : World) (x359 : Option Nat) (x360 : Int) (x361 : Option Addr × Nat × Nat) (w362 : World) : Option (Exit × (Int) × World) :=
(mUpd (.int .u64) w362 x359 (.int .u64 x360) (.slice x361.1 x361.2.1 x361.2.2)).bind fun w363 =>
g20_j357 s56 w363

noncomputable def g20_j222 (w71 : World) (n85 : Int) (n86 : Int) (n87 : Int) (q88 : Option Addr × Nat × Nat) (n89 : Int) (n90 : Int) (u0 : Option Addr) (w0 : World) (q60 : Option Addr × Nat × Nat) (r61 : Value × World) (n70 : Int) (q53 : Option Addr × Nat × Nat) (s56 : Int) (a58 : Addr) (n64 : Int) (n65 : Int) (n66 : Int) (q67 : Option Addr × Nat × Nat) (n68 : Int) (n69 : Int) (b73 : Bool) (a75 : Addr) (a80 : Addr) (x273 : Option Nat) (x274 : Option Nat) (x275 : Int) : Option (Exit × (Int) × World) :=
(mLook (.int .u64) (World.alloc (World.drew w71) (.cells #[.int .i64 n85, .int .i64 n86, .int .i64 n87, .slice q88.1 q88.2.1 q88.2.2, .int .i64 n89, .int .i64 n90] 27)) x274 (.int .u64 x275)).bind fun o276 =>
(asSl (o276.getD (.slice none 0 0))).bind fun q277 =>
if (ahd (Region.schedule true (opsOf (cAt [1, 1, 1, 0, 0, 1, 1, 0, 0, 1, 1, 0, 1, 1, 1, 0] (bodyOf Try.f20))) (World.tape w71 (World.drawn w71) (.order 20 17))) 5 15 && true) = true then
((World.cell? (World.alloc (World.drew w71) (.cells #[.int .i64 n85, .int .i64 n86, .int .i64 n87, .slice q88.1 q88.2.1 q88.2.2, .int .i64 n89, .int .i64 n90] 27)) (Addr.add (⟨w0.heap.size, 0, none⟩) 2)).bind fun v313 =>
(asI .u64 v313).bind fun n314 =>
g20_j296a w71 n85 n86 n87 q88 n89 n90 u0 w0 q60 r61 n70 q53 s56 a58 n64 n65 n66 q67 n68 n69 b73 a75 a80 x273 n314 (q277.1, q277.2.1, q277.2.2))
else
((callB Try.prog .append #[55, 55] 55 #[false, false] #[.slice q277.1 q277.2.1 q277.2.2, .slice (some (⟨(World.drew w71).heap.size, 0, none⟩)) 1 1] (World.alloc (World.drew w71) (.cells #[.int .i64 n85, .int .i64 n86, .int .i64 n87, .slice q88.1 q88.2.1 q88.2.2, .int .i64 n89, .int .i64 n90] 27))).bind fun r315 =>
(asSl r315.1).bind fun q316 =>
(World.cell? r315.2 (Addr.add (⟨w0.heap.size, 0, none⟩) 2)).bind fun v346 =>
(asI .u64 v346).bind fun n347 =>
g20_j335c u0 w0 q60 r61 n70 q53 s56 a58 n64 n65 n66 q67 n68 n69 b73 a75 a80 n85 n86 n87 q88 n89 n90 w71 x273 n347 (q316.1, q316.2.1, q316.2.2) r315.2)

noncomputable def g20_j156 (w71 : World) (w0 : World) (u0 : Option Addr) (q60 : Option Addr × Nat × Nat) (r61 : Value × World) (n70 : Int) (q53 : Option Addr × Nat × Nat) (s56 : Int) (a58 : Addr) (n64 : Int) (n65 : Int) (n66 : Int) (q67 : Option Addr × Nat × Nat) (n68 : Int) (n69 : Int) (b73 : Bool) (a75 : Addr) (a80 : Addr) (n85 : Int) (n86 : Int) (n87 : Int) (q88 : Option Addr × Nat × Nat) (n89 : Int) (n90 : Int) (x214 : Option Nat) (x215 : Option Nat) (x216 : Int) : Option (Exit × (Int) × World) :=
if (ahd (Region.schedule true (opsOf (cAt [1, 1, 1, 0, 0, 1, 1, 0, 0, 1, 1, 0, 1, 1, 1, 0] (bodyOf Try.f20))) (World.tape w71 (World.drawn w71) (.order 20 17))) 5 12 && (ahd (Region.schedule true (opsOf (cAt [1, 1, 1, 0, 0, 1, 1, 0, 0, 1, 1, 0, 1, 1, 1, 0] (bodyOf Try.f20))) (World.tape w71 (World.drawn w71) (.order 20 17))) 5 14 && true)) = true then
((World.cell? (World.drew w71) (Addr.add (⟨w0.heap.size, 0, none⟩) 2)).bind fun v217 =>
(asI .u64 v217).bind fun n218 =>
g20_j204 w71 u0 w0 q60 r61 n70 q53 s56 a58 n64 n65 n66 q67 n68 n69 b73 a75 a80 n85 n86 n87 q88 n89 n90 x214 n218 x215 x216)
else
(if (ahd (Region.schedule true (opsOf (cAt [1, 1, 1, 0, 0, 1, 1, 0, 0, 1, 1, 0, 1, 1, 1, 0] (bodyOf Try.f20))) (World.tape w71 (World.drawn w71) (.order 20 17))) 12 14 && true) = true then
((mLook (.int .u64) (World.drew w71) x215 (.int .u64 x216)).bind fun o219 =>
(asSl (o219.getD (.slice none 0 0))).bind fun q220 =>
g20_j221 w71 w0 u0 q60 r61 n70 q53 s56 a58 n64 n65 n66 q67 n68 n69 b73 a75 a80 n85 n86 n87 q88 n89 n90 x214 (q220.1, q220.2.1, q220.2.2))
else
(g20_j222 w71 n85 n86 n87 q88 n89 n90 u0 w0 q60 r61 n70 q53 s56 a58 n64 n65 n66 q67 n68 n69 b73 a75 a80 x214 x215 x216))

noncomputable def g20_j157 (w71 : World) (n85 : Int) (n86 : Int) (n87 : Int) (q88 : Option Addr × Nat × Nat) (n89 : Int) (n90 : Int) (w0 : World) (u0 : Option Addr) (q60 : Option Addr × Nat × Nat) (r61 : Value × World) (n70 : Int) (q53 : Option Addr × Nat × Nat) (s56 : Int) (a58 : Addr) (n64 : Int) (n65 : Int) (n66 : Int) (q67 : Option Addr × Nat × Nat) (n68 : Int) (n69 : Int) (b73 : Bool) (a75 : Addr) (a80 : Addr) (x223 : Option Nat) (x224 : Option Nat) : Option (Exit × (Int) × World) :=
(World.cell? (World.alloc (World.drew w71) (.cells #[.int .i64 n85, .int .i64 n86, .int .i64 n87, .slice q88.1 q88.2.1 q88.2.2, .int .i64 n89, .int .i64 n90] 27)) (Addr.add (⟨w0.heap.size, 0, none⟩) 2)).bind fun v225 =>
(asI .u64 v225).bind fun n226 =>
g20_j222 w71 n85 n86 n87 q88 n89 n90 u0 w0 q60 r61 n70 q53 s56 a58 n64 n65 n66 q67 n68 n69 b73 a75 a80 x223 x224 n226

noncomputable def g20_j110 (w71 : World) (w0 : World) (u0 : Option Addr) (q60 : Option Addr × Nat × Nat) (r61 : Value × World) (n70 : Int) (q53 : Option Addr × Nat × Nat) (s56 : Int) (a58 : Addr) (n64 : Int) (n65 : Int) (n66 : Int) (q67 : Option Addr × Nat × Nat) (n68 : Int) (n69 : Int) (b73 : Bool) (a75 : Addr) (a80 : Addr) (n85 : Int) (n86 : Int) (n87 : Int) (q88 : Option Addr × Nat × Nat) (n89 : Int) (n90 : Int) (x150 : Option Nat) (x151 : Option Nat) : Option (Exit × (Int) × World) :=
if (ahd (Region.schedule true (opsOf (cAt [1, 1, 1, 0, 0, 1, 1, 0, 0, 1, 1, 0, 1, 1, 1, 0] (bodyOf Try.f20))) (World.tape w71 (World.drawn w71) (.order 20 17))) 5 11 && (ahd (Region.schedule true (opsOf (cAt [1, 1, 1, 0, 0, 1, 1, 0, 0, 1, 1, 0, 1, 1, 1, 0] (bodyOf Try.f20))) (World.tape w71 (World.drawn w71) (.order 20 17))) 5 14 && true)) = true then
((World.cell? (World.drew w71) (Addr.add (⟨w0.heap.size, 0, none⟩) 2)).bind fun v152 =>
(asI .u64 v152).bind fun n153 =>
g20_j145 w71 w0 u0 q60 r61 n70 q53 s56 a58 n64 n65 n66 q67 n68 n69 b73 a75 a80 n85 n86 n87 q88 n89 n90 x150 n153 x151)
else
(if (ahd (Region.schedule true (opsOf (cAt [1, 1, 1, 0, 0, 1, 1, 0, 0, 1, 1, 0, 1, 1, 1, 0] (bodyOf Try.f20))) (World.tape w71 (World.drawn w71) (.order 20 17))) 11 14 && true) = true then
((World.cell? (World.drew w71) (Addr.add (⟨w0.heap.size, 0, none⟩) 2)).bind fun v154 =>
(asI .u64 v154).bind fun n155 =>
g20_j156 w71 w0 u0 q60 r61 n70 q53 s56 a58 n64 n65 n66 q67 n68 n69 b73 a75 a80 n85 n86 n87 q88 n89 n90 x150 x151 n155)
else
(g20_j157 w71 n85 n86 n87 q88 n89 n90 w0 u0 q60 r61 n70 q53 s56 a58 n64 n65 n66 q67 n68 n69 b73 a75 a80 x150 x151))

noncomputable def g20_j113 (w71 : World) (w0 : World) (u0 : Option Addr) (q60 : Option Addr × Nat × Nat) (r61 : Value × World) (n70 : Int) (q53 : Option Addr × Nat × Nat) (s56 : Int) (a58 : Addr) (n64 : Int) (n65 : Int) (n66 : Int) (q67 : Option Addr × Nat × Nat) (n68 : Int) (n69 : Int) (b73 : Bool) (a75 : Addr) (a80 : Addr) (n85 : Int) (n86 : Int) (n87 : Int) (q88 : Option Addr × Nat × Nat) (n89 : Int) (n90 : Int) (x158 : Option Nat) (x159 : Int) : Option (Exit × (Int) × World) :=
if (ahd (Region.schedule true (opsOf (cAt [1, 1, 1, 0, 0, 1, 1, 0, 0, 1, 1, 0, 1, 1, 1, 0] (bodyOf Try.f20))) (World.tape w71 (World.drawn w71) (.order 20 17))) 5 9 && (ahd (Region.schedule true (opsOf (cAt [1, 1, 1, 0, 0, 1, 1, 0, 0, 1, 1, 0, 1, 1, 1, 0] (bodyOf Try.f20))) (World.tape w71 (World.drawn w71) (.order 20 17))) 5 14 && true)) = true then
((World.cell? (World.drew w71) (Addr.add (⟨w0.heap.size, 0, none⟩) 2)).bind fun v160 =>
(asI .u64 v160).bind fun n161 =>
g20_j148 w71 a80 u0 w0 q60 r61 n70 q53 s56 a58 n64 n65 n66 q67 n68 n69 b73 a75 n85 n86 n87 q88 n89 n90 x158 n161 x159)
else
(if (ahd (Region.schedule true (opsOf (cAt [1, 1, 1, 0, 0, 1, 1, 0, 0, 1, 1, 0, 1, 1, 1, 0] (bodyOf Try.f20))) (World.tape w71 (World.drawn w71) (.order 20 17))) 9 14 && true) = true then
((World.cell? (World.drew w71) (Addr.add a80 1)).bind fun v162 =>
(asM v162).bind fun m163 =>
g20_j156 w71 w0 u0 q60 r61 n70 q53 s56 a58 n64 n65 n66 q67 n68 n69 b73 a75 a80 n85 n86 n87 q88 n89 n90 x158 m163 x159)
else
((World.cell? (World.alloc (World.drew w71) (.cells #[.int .i64 n85, .int .i64 n86, .int .i64 n87, .slice q88.1 q88.2.1 q88.2.2, .int .i64 n89, .int .i64 n90] 27)) (Addr.add a80 1)).bind fun v227 =>
(asM v227).bind fun m228 =>
g20_j222 w71 n85 n86 n87 q88 n89 n90 u0 w0 q60 r61 n70 q53 s56 a58 n64 n65 n66 q67 n68 n69 b73 a75 a80 x158 m228 x159))

noncomputable def g20_j282a (w71 : World) (n85 : Int) (n86 : Int) (n87 : Int) (q88 : Option Addr × Nat × Nat) (n89 : Int) (n90 : Int) (a75 : Addr) (u0 : Option Addr) (w0 : World) (q60 : Option Addr × Nat × Nat) (r61 : Value × World) (n70 : Int) (q53 : Option Addr × Nat × Nat) (s56 : Int) (a58 : Addr) (n64 : Int) (n65 : Int) (n66 : Int) (q67 : Option Addr × Nat × Nat) (n68 : Int) (n69 : Int) (b73 : Bool) (a80 : Addr) (x317 : Int) (x318 : Option Addr × Nat × Nat) : Option (Exit × (Int) × World) :=
if (ahd (Region.schedule true (opsOf (cAt [1, 1, 1, 0, 0, 1, 1, 0, 0, 1, 1, 0, 1, 1, 1, 0] (bodyOf Try.f20))) (World.tape w71 (World.drawn w71) (.order 20 17))) 3 15 && true) = true then
((World.cell? (World.alloc (World.drew w71) (.cells #[.int .i64 n85, .int .i64 n86, .int .i64 n87, .slice q88.1 q88.2.1 q88.2.2, .int .i64 n89, .int .i64 n90] 27)) (Addr.add a75 1)).bind fun v319 =>
(asM v319).bind fun m320 =>
g20_j296b w71 n85 n86 n87 q88 n89 n90 u0 w0 q60 r61 n70 q53 s56 a58 n64 n65 n66 q67 n68 n69 b73 a75 a80 m320 x317 (x318.1, x318.2.1, x318.2.2))
else
((callB Try.prog .append #[55, 55] 55 #[false, false] #[.slice x318.1 x318.2.1 x318.2.2, .slice (some (⟨(World.drew w71).heap.size, 0, none⟩)) 1 1] (World.alloc (World.drew w71) (.cells #[.int .i64 n85, .int .i64 n86, .int .i64 n87, .slice q88.1 q88.2.1 q88.2.2, .int .i64 n89, .int .i64 n90] 27))).bind fun r321 =>
(asSl r321.1).bind fun q322 =>
(World.cell? r321.2 (Addr.add a75 1)).bind fun v348 =>
(asM v348).bind fun m349 =>
g20_j335a u0 w0 q60 r61 n70 q53 s56 a58 n64 n65 n66 q67 n68 n69 b73 a75 a80 n85 n86 n87 q88 n89 n90 w71 m349 x317 (q322.1, q322.2.1, q322.2.2) r321.2)

noncomputable def g20_j236 (w71 : World) (a75 : Addr) (u0 : Option Addr) (w0 : World) (q60 : Option Addr × Nat × Nat) (r61 : Value × World) (n70 : Int) (q53 : Option Addr × Nat × Nat) (s56 : Int) (a58 : Addr) (n64 : Int) (n65 : Int) (n66 : Int) (q67 : Option Addr × Nat × Nat) (n68 : Int) (n69 : Int) (b73 : Bool) (a80 : Addr) (n85 : Int) (n86 : Int) (n87 : Int) (q88 : Option Addr × Nat × Nat) (n89 : Int) (n90 : Int) (x278 : Int) (x279 : Option Addr × Nat × Nat) : Option (Exit × (Int) × World) :=
if (ahd (Region.schedule true (opsOf (cAt [1, 1, 1, 0, 0, 1, 1, 0, 0, 1, 1, 0, 1, 1, 1, 0] (bodyOf Try.f20))) (World.tape w71 (World.drawn w71) (.order 20 17))) 3 14 && true) = true then
((World.cell? (World.drew w71) (Addr.add a75 1)).bind fun v280 =>
(asM v280).bind fun m281 =>
g20_j259b u0 w0 q60 r61 n70 q53 s56 a58 n64 n65 n66 q67 n68 n69 b73 a75 a80 n85 n86 n87 q88 n89 n90 w71 m281 x278 (x279.1, x279.2.1, x279.2.2))
else
(g20_j282a w71 n85 n86 n87 q88 n89 n90 a75 u0 w0 q60 r61 n70 q53 s56 a58 n64 n65 n66 q67 n68 n69 b73 a80 x278 (x279.1, x279.2.1, x279.2.2))

noncomputable def g20_j237 (w71 : World) (n85 : Int) (n86 : Int) (n87 : Int) (q88 : Option Addr × Nat × Nat) (n89 : Int) (n90 : Int) (u0 : Option Addr) (w0 : World) (q60 : Option Addr × Nat × Nat) (r61 : Value × World) (n70 : Int) (q53 : Option Addr × Nat × Nat) (s56 : Int) (a58 : Addr) (n64 : Int) (n65 : Int) (n66 : Int) (q67 : Option Addr × Nat × Nat) (n68 : Int) (n69 : Int) (b73 : Bool) (a75 : Addr) (a80 : Addr) (x283 : Int) (x284 : Option Nat) (x285 : Int) : Option (Exit × (Int) × World) :=
(mLook (.int .u64) (World.alloc (World.drew w71) (.cells #[.int .i64 n85, .int .i64 n86, .int .i64 n87, .slice q88.1 q88.2.1 q88.2.2, .int .i64 n89, .int .i64 n90] 27)) x284 (.int .u64 x285)).bind fun o286 =>
(asSl (o286.getD (.slice none 0 0))).bind fun q287 =>
if (ahd (Region.schedule true (opsOf (cAt [1, 1, 1, 0, 0, 1, 1, 0, 0, 1, 1, 0, 1, 1, 1, 0] (bodyOf Try.f20))) (World.tape w71 (World.drawn w71) (.order 20 17))) 3 15 && true) = true then
((World.cell? (World.alloc (World.drew w71) (.cells #[.int .i64 n85, .int .i64 n86, .int .i64 n87, .slice q88.1 q88.2.1 q88.2.2, .int .i64 n89, .int .i64 n90] 27)) (Addr.add a75 1)).bind fun v324 =>
(asM v324).bind fun m325 =>
g20_j296a w71 n85 n86 n87 q88 n89 n90 u0 w0 q60 r61 n70 q53 s56 a58 n64 n65 n66 q67 n68 n69 b73 a75 a80 m325 x283 (q287.1, q287.2.1, q287.2.2))
else
((callB Try.prog .append #[55, 55] 55 #[false, false] #[.slice q287.1 q287.2.1 q287.2.2, .slice (some (⟨(World.drew w71).heap.size, 0, none⟩)) 1 1] (World.alloc (World.drew w71) (.cells #[.int .i64 n85, .int .i64 n86, .int .i64 n87, .slice q88.1 q88.2.1 q88.2.2, .int .i64 n89, .int .i64 n90] 27))).bind fun r326 =>
(asSl r326.1).bind fun q327 =>
(World.cell? r326.2 (Addr.add a75 1)).bind fun v350 =>
(asM v350).bind fun m351 =>
g20_j335c u0 w0 q60 r61 n70 q53 s56 a58 n64 n65 n66 q67 n68 n69 b73 a75 a80 n85 n86 n87 q88 n89 n90 w71 m351 x283 (q327.1, q327.2.1, q327.2.2) r326.2)

noncomputable def g20_j173 (w71 : World) (a75 : Addr) (u0 : Option Addr) (w0 : World) (q60 : Option Addr × Nat × Nat) (r61 : Value × World) (n70 : Int) (q53 : Option Addr × Nat × Nat) (s56 : Int) (a58 : Addr) (n64 : Int) (n65 : Int) (n66 : Int) (q67 : Option Addr × Nat × Nat) (n68 : Int) (n69 : Int) (b73 : Bool) (a80 : Addr) (n85 : Int) (n86 : Int) (n87 : Int) (q88 : Option Addr × Nat × Nat) (n89 : Int) (n90 : Int) (x229 : Int) (x230 : Option Nat) (x231 : Int) : Option (Exit × (Int) × World) :=
if (ahd (Region.schedule true (opsOf (cAt [1, 1, 1, 0, 0, 1, 1, 0, 0, 1, 1, 0, 1, 1, 1, 0] (bodyOf Try.f20))) (World.tape w71 (World.drawn w71) (.order 20 17))) 3 12 && (ahd (Region.schedule true (opsOf (cAt [1, 1, 1, 0, 0, 1, 1, 0, 0, 1, 1, 0, 1, 1, 1, 0] (bodyOf Try.f20))) (World.tape w71 (World.drawn w71) (.order 20 17))) 3 14 && true)) = true then
((World.cell? (World.drew w71) (Addr.add a75 1)).bind fun v232 =>
(asM v232).bind fun m233 =>
g20_j204 w71 u0 w0 q60 r61 n70 q53 s56 a58 n64 n65 n66 q67 n68 n69 b73 a75 a80 n85 n86 n87 q88 n89 n90 m233 x229 x230 x231)
else
(if (ahd (Region.schedule true (opsOf (cAt [1, 1, 1, 0, 0, 1, 1, 0, 0, 1, 1, 0, 1, 1, 1, 0] (bodyOf Try.f20))) (World.tape w71 (World.drawn w71) (.order 20 17))) 12 14 && true) = true then
((mLook (.int .u64) (World.drew w71) x230 (.int .u64 x231)).bind fun o234 =>
(asSl (o234.getD (.slice none 0 0))).bind fun q235 =>
g20_j236 w71 a75 u0 w0 q60 r61 n70 q53 s56 a58 n64 n65 n66 q67 n68 n69 b73 a80 n85 n86 n87 q88 n89 n90 x229 (q235.1, q235.2.1, q235.2.2))
else
(g20_j237 w71 n85 n86 n87 q88 n89 n90 u0 w0 q60 r61 n70 q53 s56 a58 n64 n65 n66 q67 n68 n69 b73 a75 a80 x229 x230 x231))

noncomputable def g20_j174 (w71 : World) (n85 : Int) (n86 : Int) (n87 : Int) (q88 : Option Addr × Nat × Nat) (n89 : Int) (n90 : Int) (w0 : World) (u0 : Option Addr) (q60 : Option Addr × Nat × Nat) (r61 : Value × World) (n70 : Int) (q53 : Option Addr × Nat × Nat) (s56 : Int) (a58 : Addr) (n64 : Int) (n65 : Int) (n66 : Int) (q67 : Option Addr × Nat × Nat) (n68 : Int) (n69 : Int) (b73 : Bool) (a75 : Addr) (a80 : Addr) (x238 : Int) (x239 : Option Nat) : Option (Exit × (Int) × World) :=
(World.cell? (World.alloc (World.drew w71) (.cells #[.int .i64 n85, .int .i64 n86, .int .i64 n87, .slice q88.1 q88.2.1 q88.2.2, .int .i64 n89, .int .i64 n90] 27)) (Addr.add (⟨w0.heap.size, 0, none⟩) 2)).bind fun v240 =>
(asI .u64 v240).bind fun n241 =>
g20_j237 w71 n85 n86 n87 q88 n89 n90 u0 w0 q60 r61 n70 q53 s56 a58 n64 n65 n66 q67 n68 n69 b73 a75 a80 x238 x239 n241

noncomputable def g20_j119 (w71 : World) (a75 : Addr) (u0 : Option Addr) (w0 : World) (q60 : Option Addr × Nat × Nat) (r61 : Value × World) (n70 : Int) (q53 : Option Addr × Nat × Nat) (s56 : Int) (a58 : Addr) (n64 : Int) (n65 : Int) (n66 : Int) (q67 : Option Addr × Nat × Nat) (n68 : Int) (n69 : Int) (b73 : Bool) (a80 : Addr) (n85 : Int) (n86 : Int) (n87 : Int) (q88 : Option Addr × Nat × Nat) (n89 : Int) (n90 : Int) (x167 : Int) (x168 : Option Nat) : Option (Exit × (Int) × World) :=
if (ahd (Region.schedule true (opsOf (cAt [1, 1, 1, 0, 0, 1, 1, 0, 0, 1, 1, 0, 1, 1, 1, 0] (bodyOf Try.f20))) (World.tape w71 (World.drawn w71) (.order 20 17))) 3 11 && (ahd (Region.schedule true (opsOf (cAt [1, 1, 1, 0, 0, 1, 1, 0, 0, 1, 1, 0, 1, 1, 1, 0] (bodyOf Try.f20))) (World.tape w71 (World.drawn w71) (.order 20 17))) 3 14 && true)) = true then
((World.cell? (World.drew w71) (Addr.add a75 1)).bind fun v169 =>
(asM v169).bind fun m170 =>
g20_j145 w71 w0 u0 q60 r61 n70 q53 s56 a58 n64 n65 n66 q67 n68 n69 b73 a75 a80 n85 n86 n87 q88 n89 n90 m170 x167 x168)
else
(if (ahd (Region.schedule true (opsOf (cAt [1, 1, 1, 0, 0, 1, 1, 0, 0, 1, 1, 0, 1, 1, 1, 0] (bodyOf Try.f20))) (World.tape w71 (World.drawn w71) (.order 20 17))) 11 14 && true) = true then
((World.cell? (World.drew w71) (Addr.add (⟨w0.heap.size, 0, none⟩) 2)).bind fun v171 =>
(asI .u64 v171).bind fun n172 =>
g20_j173 w71 a75 u0 w0 q60 r61 n70 q53 s56 a58 n64 n65 n66 q67 n68 n69 b73 a80 n85 n86 n87 q88 n89 n90 x167 x168 n172)
else
(g20_j174 w71 n85 n86 n87 q88 n89 n90 w0 u0 q60 r61 n70 q53 s56 a58 n64 n65 n66 q67 n68 n69 b73 a75 a80 x167 x168))

noncomputable def g20_j122 (w71 : World) (a75 : Addr) (u0 : Option Addr) (w0 : World) (q60 : Option Addr × Nat × Nat) (r61 : Value × World) (n70 : Int) (q53 : Option Addr × Nat × Nat) (s56 : Int) (a58 : Addr) (n64 : Int) (n65 : Int) (n66 : Int) (q67 : Option Addr × Nat × Nat) (n68 : Int) (n69 : Int) (b73 : Bool) (a80 : Addr) (n85 : Int) (n86 : Int) (n87 : Int) (q88 : Option Addr × Nat × Nat) (n89 : Int) (n90 : Int) (x175 : Int) (x176 : Int) : Option (Exit × (Int) × World) :=
if (ahd (Region.schedule true (opsOf (cAt [1, 1, 1, 0, 0, 1, 1, 0, 0, 1, 1, 0, 1, 1, 1, 0] (bodyOf Try.f20))) (World.tape w71 (World.drawn w71) (.order 20 17))) 3 9 && (ahd (Region.schedule true (opsOf (cAt [1, 1, 1, 0, 0, 1, 1, 0, 0, 1, 1, 0, 1, 1, 1, 0] (bodyOf Try.f20))) (World.tape w71 (World.drawn w71) (.order 20 17))) 3 14 && true)) = true then
((World.cell? (World.drew w71) (Addr.add a75 1)).bind fun v177 =>
(asM v177).bind fun m178 =>
g20_j148 w71 a80 u0 w0 q60 r61 n70 q53 s56 a58 n64 n65 n66 q67 n68 n69 b73 a75 n85 n86 n87 q88 n89 n90 m178 x175 x176)
else
(if (ahd (Region.schedule true (opsOf (cAt [1, 1, 1, 0, 0, 1, 1, 0, 0, 1, 1, 0, 1, 1, 1, 0] (bodyOf Try.f20))) (World.tape w71 (World.drawn w71) (.order 20 17))) 9 14 && true) = true then
((World.cell? (World.drew w71) (Addr.add a80 1)).bind fun v179 =>
(asM v179).bind fun m180 =>
g20_j173 w71 a75 u0 w0 q60 r61 n70 q53 s56 a58 n64 n65 n66 q67 n68 n69 b73 a80 n85 n86 n87 q88 n89 n90 x175 m180 x176)
else
((World.cell? (World.alloc (World.drew w71) (.cells #[.int .i64 n85, .int .i64 n86, .int .i64 n87, .slice q88.1 q88.2.1 q88.2.2, .int .i64 n89, .int .i64 n90] 27)) (Addr.add a80 1)).bind fun v242 =>
(asM v242).bind fun m243 =>
g20_j237 w71 n85 n86 n87 q88 n89 n90 u0 w0 q60 r61 n70 q53 s56 a58 n64 n65 n66 q67 n68 n69 b73 a75 a80 x175 m243 x176))

noncomputable def g20_j248 (w71 : World) (n85 : Int) (n86 : Int) (n87 : Int) (q88 : Option Addr × Nat × Nat) (n89 : Int) (n90 : Int) (a75 : Addr) (u0 : Option Addr) (w0 : World) (q60 : Option Addr × Nat × Nat) (r61 : Value × World) (n70 : Int) (q53 : Option Addr × Nat × Nat) (s56 : Int) (a58 : Addr) (n64 : Int) (n65 : Int) (n66 : Int) (q67 : Option Addr × Nat × Nat) (n68 : Int) (n69 : Int) (b73 : Bool) (a80 : Addr) (x288 : Option Addr × Nat × Nat) : Option (Exit × (Int) × World) :=
if (ahd (Region.schedule true (opsOf (cAt [1, 1, 1, 0, 0, 1, 1, 0, 0, 1, 1, 0, 1, 1, 1, 0] (bodyOf Try.f20))) (World.tape w71 (World.drawn w71) (.order 20 17))) 3 5 && (ahd (Region.schedule true (opsOf (cAt [1, 1, 1, 0, 0, 1, 1, 0, 0, 1, 1, 0, 1, 1, 1, 0] (bodyOf Try.f20))) (World.tape w71 (World.drawn w71) (.order 20 17))) 3 15 && true)) = true then
((World.cell? (World.alloc (World.drew w71) (.cells #[.int .i64 n85, .int .i64 n86, .int .i64 n87, .slice q88.1 q88.2.1 q88.2.2, .int .i64 n89, .int .i64 n90] 27)) (Addr.add a75 1)).bind fun v289 =>
(asM v289).bind fun m290 =>
g20_j272a w71 n85 n86 n87 q88 n89 n90 w0 u0 q60 r61 n70 q53 s56 a58 n64 n65 n66 q67 n68 n69 b73 a75 a80 m290 (x288.1, x288.2.1, x288.2.2))
else
(if (ahd (Region.schedule true (opsOf (cAt [1, 1, 1, 0, 0, 1, 1, 0, 0, 1, 1, 0, 1, 1, 1, 0] (bodyOf Try.f20))) (World.tape w71 (World.drawn w71) (.order 20 17))) 5 15 && true) = true then
((World.cell? (World.alloc (World.drew w71) (.cells #[.int .i64 n85, .int .i64 n86, .int .i64 n87, .slice q88.1 q88.2.1 q88.2.2, .int .i64 n89, .int .i64 n90] 27)) (Addr.add (⟨w0.heap.size, 0, none⟩) 2)).bind fun v291 =>
(asI .u64 v291).bind fun n292 =>
g20_j282a w71 n85 n86 n87 q88 n89 n90 a75 u0 w0 q60 r61 n70 q53 s56 a58 n64 n65 n66 q67 n68 n69 b73 a80 n292 (x288.1, x288.2.1, x288.2.2))
else
((callB Try.prog .append #[55, 55] 55 #[false, false] #[.slice x288.1 x288.2.1 x288.2.2, .slice (some (⟨(World.drew w71).heap.size, 0, none⟩)) 1 1] (World.alloc (World.drew w71) (.cells #[.int .i64 n85, .int .i64 n86, .int .i64 n87, .slice q88.1 q88.2.1 q88.2.2, .int .i64 n89, .int .i64 n90] 27))).bind fun r293 =>
(asSl r293.1).bind fun q294 =>
(World.cell? r293.2 (Addr.add a75 1)).bind fun v328 =>
(asM v328).bind fun m329 =>
g20_j312a w0 u0 q60 r61 n70 q53 s56 a58 n64 n65 n66 q67 n68 n69 b73 a75 a80 n85 n86 n87 q88 n89 n90 w71 m329 (q294.1, q294.2.1, q294.2.2) r293.2))

noncomputable def g20_j193 (w71 : World) (n85 : Int) (n86 : Int) (n87 : Int) (q88 : Option Addr × Nat × Nat) (n89 : Int) (n90 : Int) (u0 : Option Addr) (w0 : World) (q60 : Option Addr × Nat × Nat) (r61 : Value × World) (n70 : Int) (q53 : Option Addr × Nat × Nat) (s56 : Int) (a58 : Addr) (n64 : Int) (n65 : Int) (n66 : Int) (q67 : Option Addr × Nat × Nat) (n68 : Int) (n69 : Int) (b73 : Bool) (a75 : Addr) (a80 : Addr) (x249 : Option Nat) (x250 : Int) : Option (Exit × (Int) × World) :=
(mLook (.int .u64) (World.alloc (World.drew w71) (.cells #[.int .i64 n85, .int .i64 n86, .int .i64 n87, .slice q88.1 q88.2.1 q88.2.2, .int .i64 n89, .int .i64 n90] 27)) x249 (.int .u64 x250)).bind fun o251 =>
(asSl (o251.getD (.slice none 0 0))).bind fun q252 =>
g20_j248 w71 n85 n86 n87 q88 n89 n90 a75 u0 w0 q60 r61 n70 q53 s56 a58 n64 n65 n66 q67 n68 n69 b73 a80 (q252.1, q252.2.1, q252.2.2)

noncomputable def g20_j130 (w71 : World) (a75 : Addr) (u0 : Option Addr) (w0 : World) (q60 : Option Addr × Nat × Nat) (r61 : Value × World) (n70 : Int) (q53 : Option Addr × Nat × Nat) (s56 : Int) (a58 : Addr) (n64 : Int) (n65 : Int) (n66 : Int) (q67 : Option Addr × Nat × Nat) (n68 : Int) (n69 : Int) (b73 : Bool) (a80 : Addr) (n85 : Int) (n86 : Int) (n87 : Int) (q88 : Option Addr × Nat × Nat) (n89 : Int) (n90 : Int) (x184 : Option Nat) (x185 : Int) : Option (Exit × (Int) × World) :=
if (ahd (Region.schedule true (opsOf (cAt [1, 1, 1, 0, 0, 1, 1, 0, 0, 1, 1, 0, 1, 1, 1, 0] (bodyOf Try.f20))) (World.tape w71 (World.drawn w71) (.order 20 17))) 3 5 && (ahd (Region.schedule true (opsOf (cAt [1, 1, 1, 0, 0, 1, 1, 0, 0, 1, 1, 0, 1, 1, 1, 0] (bodyOf Try.f20))) (World.tape w71 (World.drawn w71) (.order 20 17))) 3 12 && (ahd (Region.schedule true (opsOf (cAt [1, 1, 1, 0, 0, 1, 1, 0, 0, 1, 1, 0, 1, 1, 1, 0] (bodyOf Try.f20))) (World.tape w71 (World.drawn w71) (.order 20 17))) 3 14 && true))) = true then
((World.cell? (World.drew w71) (Addr.add a75 1)).bind fun v186 =>
(asM v186).bind fun m187 =>
g20_j156 w71 w0 u0 q60 r61 n70 q53 s56 a58 n64 n65 n66 q67 n68 n69 b73 a75 a80 n85 n86 n87 q88 n89 n90 m187 x184 x185)
else
(if (ahd (Region.schedule true (opsOf (cAt [1, 1, 1, 0, 0, 1, 1, 0, 0, 1, 1, 0, 1, 1, 1, 0] (bodyOf Try.f20))) (World.tape w71 (World.drawn w71) (.order 20 17))) 5 12 && (ahd (Region.schedule true (opsOf (cAt [1, 1, 1, 0, 0, 1, 1, 0, 0, 1, 1, 0, 1, 1, 1, 0] (bodyOf Try.f20))) (World.tape w71 (World.drawn w71) (.order 20 17))) 5 14 && true)) = true then
((World.cell? (World.drew w71) (Addr.add (⟨w0.heap.size, 0, none⟩) 2)).bind fun v188 =>
(asI .u64 v188).bind fun n189 =>
g20_j173 w71 a75 u0 w0 q60 r61 n70 q53 s56 a58 n64 n65 n66 q67 n68 n69 b73 a80 n85 n86 n87 q88 n89 n90 n189 x184 x185)
else
(if (ahd (Region.schedule true (opsOf (cAt [1, 1, 1, 0, 0, 1, 1, 0, 0, 1, 1, 0, 1, 1, 1, 0] (bodyOf Try.f20))) (World.tape w71 (World.drawn w71) (.order 20 17))) 12 14 && true) = true then
((mLook (.int .u64) (World.drew w71) x184 (.int .u64 x185)).bind fun o190 =>
(asSl (o190.getD (.slice none 0 0))).bind fun q191 =>
if (ahd (Region.schedule true (opsOf (cAt [1, 1, 1, 0, 0, 1, 1, 0, 0, 1, 1, 0, 1, 1, 1, 0] (bodyOf Try.f20))) (World.tape w71 (World.drawn w71) (.order 20 17))) 3 5 && (ahd (Region.schedule true (opsOf (cAt [1, 1, 1, 0, 0, 1, 1, 0, 0, 1, 1, 0, 1, 1, 1, 0] (bodyOf Try.f20))) (World.tape w71 (World.drawn w71) (.order 20 17))) 3 14 && true)) = true then
((World.cell? (World.drew w71) (Addr.add a75 1)).bind fun v244 =>
(asM v244).bind fun m245 =>
g20_j221 w71 w0 u0 q60 r61 n70 q53 s56 a58 n64 n65 n66 q67 n68 n69 b73 a75 a80 n85 n86 n87 q88 n89 n90 m245 (q191.1, q191.2.1, q191.2.2))
else
(if (ahd (Region.schedule true (opsOf (cAt [1, 1, 1, 0, 0, 1, 1, 0, 0, 1, 1, 0, 1, 1, 1, 0] (bodyOf Try.f20))) (World.tape w71 (World.drawn w71) (.order 20 17))) 5 14 && true) = true then
((World.cell? (World.drew w71) (Addr.add (⟨w0.heap.size, 0, none⟩) 2)).bind fun v246 =>
(asI .u64 v246).bind fun n247 =>
g20_j236 w71 a75 u0 w0 q60 r61 n70 q53 s56 a58 n64 n65 n66 q67 n68 n69 b73 a80 n85 n86 n87 q88 n89 n90 n247 (q191.1, q191.2.1, q191.2.2))
else
(g20_j248 w71 n85 n86 n87 q88 n89 n90 a75 u0 w0 q60 r61 n70 q53 s56 a58 n64 n65 n66 q67 n68 n69 b73 a80 (q191.1, q191.2.1, q191.2.2))))
else
(g20_j193 w71 n85 n86 n87 q88 n89 n90 u0 w0 q60 r61 n70 q53 s56 a58 n64 n65 n66 q67 n68 n69 b73 a75 a80 x184 x185)))

noncomputable def g20_j131 (w71 : World) (n85 : Int) (n86 : Int) (n87 : Int) (q88 : Option Addr × Nat × Nat) (n89 : Int) (n90 : Int) (w0 : World) (u0 : Option Addr) (q60 : Option Addr × Nat × Nat) (r61 : Value × World) (n70 : Int) (q53 : Option Addr × Nat × Nat) (s56 : Int) (a58 : Addr) (n64 : Int) (n65 : Int) (n66 : Int) (q67 : Option Addr × Nat × Nat) (n68 : Int) (n69 : Int) (b73 : Bool) (a75 : Addr) (a80 : Addr) (x194 : Option Nat) : Option (Exit × (Int) × World) :=
(World.cell? (World.alloc (World.drew w71) (.cells #[.int .i64 n85, .int .i64 n86, .int .i64 n87, .slice q88.1 q88.2.1 q88.2.2, .int .i64 n89, .int .i64 n90] 27)) (Addr.add (⟨w0.heap.size, 0, none⟩) 2)).bind fun v195 =>
(asI .u64 v195).bind fun n196 =>
g20_j193 w71 n85 n86 n87 q88 n89 n90 u0 w0 q60 r61 n70 q53 s56 a58 n64 n65 n66 q67 n68 n69 b73 a75 a80 x194 n196

/-- the round of a loop ((*penstock/group.State).Apply) -/
noncomputable def g20_l55_b (q53 : Option Addr × Nat × Nat) (w0 : World) (u0 : Option Addr) (s56 : Int) (w57 : World) : Option (Exit × (Int) × World) :=
if (decide ((s56 : Int) < (q53.2.1 : Int))) = true then
((idxA q53.1 q53.2.1 1 s56).bind fun a58 =>
(World.cell? w57 a58).bind fun v59 =>
(asSl v59).bind fun q60 =>
(callF Try.prog 18 #[.slice q60.1 q60.2.1 q60.2.2] w57).bind fun r61 =>
(asTup 2 r61.1).bind fun l62 =>
(Ev.asAgg 6 (l62.getD 0 undef)).bind fun l63 =>
(asI .i64 (l63.getD 0 undef)).bind fun n64 =>
(asI .i64 (l63.getD 1 undef)).bind fun n65 =>
(asI .i64 (l63.getD 2 undef)).bind fun n66 =>
(asSl (l63.getD 3 undef)).bind fun q67 =>
(asI .i64 (l63.getD 4 undef)).bind fun n68 =>
(asI .i64 (l63.getD 5 undef)).bind fun n69 =>
(asI .i64 (l62.getD 1 undef)).bind fun n70 =>
(stL (World.alloc r61.2 (.cells #[.int .i64 0, .int .i64 0, .int .i64 0, .slice none 0 0, .int .i64 0, .int .i64 0] 27)) (⟨r61.2.heap.size, 0, none⟩) [.int .i64 n64, .int .i64 n65, .int .i64 n66, .slice q67.1 q67.2.1 q67.2.2, .int .i64 n68, .int .i64 n69] 0).bind fun w71 =>
if ((n70 : Int) != 0) = true then
(some (.normal, (IntKind.i64.wrap (s56 + 1)), w71))
else
((World.cell? w71 (Addr.add (⟨w0.heap.size, 0, none⟩) 5)).bind fun v72 =>
(asB v72).bind fun b73 =>
if b73 = true then
(u0.bind fun a75 =>
u0.bind fun a80 =>
(ldN (World.drew w71) (⟨r61.2.heap.size, 0, none⟩) 0 6).bind fun l84 =>
(asI .i64 (l84.getD 0 undef)).bind fun n85 =>
(asI .i64 (l84.getD 1 undef)).bind fun n86 =>
(asI .i64 (l84.getD 2 undef)).bind fun n87 =>
(asSl (l84.getD 3 undef)).bind fun q88 =>
(asI .i64 (l84.getD 4 undef)).bind fun n89 =>
(asI .i64 (l84.getD 5 undef)).bind fun n90 =>
if (ahd (Region.schedule true (opsOf (cAt [1, 1, 1, 0, 0, 1, 1, 0, 0, 1, 1, 0, 1, 1, 1, 0] (bodyOf Try.f20))) (World.tape w71 (World.drawn w71) (.order 20 17))) 3 5 && (ahd (Region.schedule true (opsOf (cAt [1, 1, 1, 0, 0, 1, 1, 0, 0, 1, 1, 0, 1, 1, 1, 0] (bodyOf Try.f20))) (World.tape w71 (World.drawn w71) (.order 20 17))) 3 9 && (ahd (Region.schedule true (opsOf (cAt [1, 1, 1, 0, 0, 1, 1, 0, 0, 1, 1, 0, 1, 1, 1, 0] (bodyOf Try.f20))) (World.tape w71 (World.drawn w71) (.order 20 17))) 3 11 && (ahd (Region.schedule true (opsOf (cAt [1, 1, 1, 0, 0, 1, 1, 0, 0, 1, 1, 0, 1, 1, 1, 0] (bodyOf Try.f20))) (World.tape w71 (World.drawn w71) (.order 20 17))) 3 14 && true)))) = true then
((World.cell? (World.drew w71) (Addr.add a75 1)).bind fun v92 =>
(asM v92).bind fun m93 =>
if (ahd (Region.schedule true (opsOf (cAt [1, 1, 1, 0, 0, 1, 1, 0, 0, 1, 1, 0, 1, 1, 1, 0] (bodyOf Try.f20))) (World.tape w71 (World.drawn w71) (.order 20 17))) 5 9 && (ahd (Region.schedule true (opsOf (cAt [1, 1, 1, 0, 0, 1, 1, 0, 0, 1, 1, 0, 1, 1, 1, 0] (bodyOf Try.f20))) (World.tape w71 (World.drawn w71) (.order 20 17))) 5 11 && (ahd (Region.schedule true (opsOf (cAt [1, 1, 1, 0, 0, 1, 1, 0, 0, 1, 1, 0, 1, 1, 1, 0] (bodyOf Try.f20))) (World.tape w71 (World.drawn w71) (.order 20 17))) 5 14 && true))) = true then
((World.cell? (World.drew w71) (Addr.add (⟨w0.heap.size, 0, none⟩) 2)).bind fun v105 =>
(asI .u64 v105).bind fun n106 =>
g20_j107 w71 a80 u0 w0 q60 r61 n70 q53 s56 a58 n64 n65 n66 q67 n68 n69 b73 a75 n85 n86 n87 q88 n89 n90 m93 n106)
else
(if (ahd (Region.schedule true (opsOf (cAt [1, 1, 1, 0, 0, 1, 1, 0, 0, 1, 1, 0, 1, 1, 1, 0] (bodyOf Try.f20))) (World.tape w71 (World.drawn w71) (.order 20 17))) 9 11 && (ahd (Region.schedule true (opsOf (cAt [1, 1, 1, 0, 0, 1, 1, 0, 0, 1, 1, 0, 1, 1, 1, 0] (bodyOf Try.f20))) (World.tape w71 (World.drawn w71) (.order 20 17))) 9 14 && true)) = true then
((World.cell? (World.drew w71) (Addr.add a80 1)).bind fun v108 =>
(asM v108).bind fun m109 =>
g20_j110 w71 w0 u0 q60 r61 n70 q53 s56 a58 n64 n65 n66 q67 n68 n69 b73 a75 a80 n85 n86 n87 q88 n89 n90 m93 m109)
else
(if (ahd (Region.schedule true (opsOf (cAt [1, 1, 1, 0, 0, 1, 1, 0, 0, 1, 1, 0, 1, 1, 1, 0] (bodyOf Try.f20))) (World.tape w71 (World.drawn w71) (.order 20 17))) 11 14 && true) = true then
((World.cell? (World.drew w71) (Addr.add (⟨w0.heap.size, 0, none⟩) 2)).bind fun v111 =>
(asI .u64 v111).bind fun n112 =>
g20_j113 w71 w0 u0 q60 r61 n70 q53 s56 a58 n64 n65 n66 q67 n68 n69 b73 a75 a80 n85 n86 n87 q88 n89 n90 m93 n112)
else
((World.cell? (World.alloc (World.drew w71) (.cells #[.int .i64 n85, .int .i64 n86, .int .i64 n87, .slice q88.1 q88.2.1 q88.2.2, .int .i64 n89, .int .i64 n90] 27)) (Addr.add a80 1)).bind fun v165 =>
(asM v165).bind fun m166 =>
g20_j157 w71 n85 n86 n87 q88 n89 n90 w0 u0 q60 r61 n70 q53 s56 a58 n64 n65 n66 q67 n68 n69 b73 a75 a80 m93 m166))))
else
(if (ahd (Region.schedule true (opsOf (cAt [1, 1, 1, 0, 0, 1, 1, 0, 0, 1, 1, 0, 1, 1, 1, 0] (bodyOf Try.f20))) (World.tape w71 (World.drawn w71) (.order 20 17))) 5 9 && (ahd (Region.schedule true (opsOf (cAt [1, 1, 1, 0, 0, 1, 1, 0, 0, 1, 1, 0, 1, 1, 1, 0] (bodyOf Try.f20))) (World.tape w71 (World.drawn w71) (.order 20 17))) 5 11 && (ahd (Region.schedule true (opsOf (cAt [1, 1, 1, 0, 0, 1, 1, 0, 0, 1, 1, 0, 1, 1, 1, 0] (bodyOf Try.f20))) (World.tape w71 (World.drawn w71) (.order 20 17))) 5 14 && true))) = true then
((World.cell? (World.drew w71) (Addr.add (⟨w0.heap.size, 0, none⟩) 2)).bind fun v95 =>
(asI .u64 v95).bind fun n96 =>
if (ahd (Region.schedule true (opsOf (cAt [1, 1, 1, 0, 0, 1, 1, 0, 0, 1, 1, 0, 1, 1, 1, 0] (bodyOf Try.f20))) (World.tape w71 (World.drawn w71) (.order 20 17))) 3 9 && (ahd (Region.schedule true (opsOf (cAt [1, 1, 1, 0, 0, 1, 1, 0, 0, 1, 1, 0, 1, 1, 1, 0] (bodyOf Try.f20))) (World.tape w71 (World.drawn w71) (.order 20 17))) 3 11 && (ahd (Region.schedule true (opsOf (cAt [1, 1, 1, 0, 0, 1, 1, 0, 0, 1, 1, 0, 1, 1, 1, 0] (bodyOf Try.f20))) (World.tape w71 (World.drawn w71) (.order 20 17))) 3 14 && true))) = true then
((World.cell? (World.drew w71) (Addr.add a75 1)).bind fun v115 =>
(asM v115).bind fun m116 =>
g20_j107 w71 a80 u0 w0 q60 r61 n70 q53 s56 a58 n64 n65 n66 q67 n68 n69 b73 a75 n85 n86 n87 q88 n89 n90 m116 n96)
else
(if (ahd (Region.schedule true (opsOf (cAt [1, 1, 1, 0, 0, 1, 1, 0, 0, 1, 1, 0, 1, 1, 1, 0] (bodyOf Try.f20))) (World.tape w71 (World.drawn w71) (.order 20 17))) 9 11 && (ahd (Region.schedule true (opsOf (cAt [1, 1, 1, 0, 0, 1, 1, 0, 0, 1, 1, 0, 1, 1, 1, 0] (bodyOf Try.f20))) (World.tape w71 (World.drawn w71) (.order 20 17))) 9 14 && true)) = true then
((World.cell? (World.drew w71) (Addr.add a80 1)).bind fun v117 =>
(asM v117).bind fun m118 =>
g20_j119 w71 a75 u0 w0 q60 r61 n70 q53 s56 a58 n64 n65 n66 q67 n68 n69 b73 a80 n85 n86 n87 q88 n89 n90 n96 m118)
else
(if (ahd (Region.schedule true (opsOf (cAt [1, 1, 1, 0, 0, 1, 1, 0, 0, 1, 1, 0, 1, 1, 1, 0] (bodyOf Try.f20))) (World.tape w71 (World.drawn w71) (.order 20 17))) 11 14 && true) = true then
((World.cell? (World.drew w71) (Addr.add (⟨w0.heap.size, 0, none⟩) 2)).bind fun v120 =>
(asI .u64 v120).bind fun n121 =>
g20_j122 w71 a75 u0 w0 q60 r61 n70 q53 s56 a58 n64 n65 n66 q67 n68 n69 b73 a80 n85 n86 n87 q88 n89 n90 n96 n121)
else
((World.cell? (World.alloc (World.drew w71) (.cells #[.int .i64 n85, .int .i64 n86, .int .i64 n87, .slice q88.1 q88.2.1 q88.2.2, .int .i64 n89, .int .i64 n90] 27)) (Addr.add a80 1)).bind fun v182 =>
(asM v182).bind fun m183 =>
g20_j174 w71 n85 n86 n87 q88 n89 n90 w0 u0 q60 r61 n70 q53 s56 a58 n64 n65 n66 q67 n68 n69 b73 a75 a80 n96 m183))))
else
(if (ahd (Region.schedule true (opsOf (cAt [1, 1, 1, 0, 0, 1, 1, 0, 0, 1, 1, 0, 1, 1, 1, 0] (bodyOf Try.f20))) (World.tape w71 (World.drawn w71) (.order 20 17))) 9 11 && (ahd (Region.schedule true (opsOf (cAt [1, 1, 1, 0, 0, 1, 1, 0, 0, 1, 1, 0, 1, 1, 1, 0] (bodyOf Try.f20))) (World.tape w71 (World.drawn w71) (.order 20 17))) 9 14 && true)) = true then
((World.cell? (World.drew w71) (Addr.add a80 1)).bind fun v98 =>
(asM v98).bind fun m99 =>
if (ahd (Region.schedule true (opsOf (cAt [1, 1, 1, 0, 0, 1, 1, 0, 0, 1, 1, 0, 1, 1, 1, 0] (bodyOf Try.f20))) (World.tape w71 (World.drawn w71) (.order 20 17))) 3 5 && (ahd (Region.schedule true (opsOf (cAt [1, 1, 1, 0, 0, 1, 1, 0, 0, 1, 1, 0, 1, 1, 1, 0] (bodyOf Try.f20))) (World.tape w71 (World.drawn w71) (.order 20 17))) 3 11 && (ahd (Region.schedule true (opsOf (cAt [1, 1, 1, 0, 0, 1, 1, 0, 0, 1, 1, 0, 1, 1, 1, 0] (bodyOf Try.f20))) (World.tape w71 (World.drawn w71) (.order 20 17))) 3 14 && true))) = true then
((World.cell? (World.drew w71) (Addr.add a75 1)).bind fun v124 =>
(asM v124).bind fun m125 =>
g20_j110 w71 w0 u0 q60 r61 n70 q53 s56 a58 n64 n65 n66 q67 n68 n69 b73 a75 a80 n85 n86 n87 q88 n89 n90 m125 m99)
else
(if (ahd (Region.schedule true (opsOf (cAt [1, 1, 1, 0, 0, 1, 1, 0, 0, 1, 1, 0, 1, 1, 1, 0] (bodyOf Try.f20))) (World.tape w71 (World.drawn w71) (.order 20 17))) 5 11 && (ahd (Region.schedule true (opsOf (cAt [1, 1, 1, 0, 0, 1, 1, 0, 0, 1, 1, 0, 1, 1, 1, 0] (bodyOf Try.f20))) (World.tape w71 (World.drawn w71) (.order 20 17))) 5 14 && true)) = true then
((World.cell? (World.drew w71) (Addr.add (⟨w0.heap.size, 0, none⟩) 2)).bind fun v126 =>
(asI .u64 v126).bind fun n127 =>
g20_j119 w71 a75 u0 w0 q60 r61 n70 q53 s56 a58 n64 n65 n66 q67 n68 n69 b73 a80 n85 n86 n87 q88 n89 n90 n127 m99)
else
(if (ahd (Region.schedule true (opsOf (cAt [1, 1, 1, 0, 0, 1, 1, 0, 0, 1, 1, 0, 1, 1, 1, 0] (bodyOf Try.f20))) (World.tape w71 (World.drawn w71) (.order 20 17))) 11 14 && true) = true then
((World.cell? (World.drew w71) (Addr.add (⟨w0.heap.size, 0, none⟩) 2)).bind fun v128 =>
(asI .u64 v128).bind fun n129 =>
g20_j130 w71 a75 u0 w0 q60 r61 n70 q53 s56 a58 n64 n65 n66 q67 n68 n69 b73 a80 n85 n86 n87 q88 n89 n90 m99 n129)
else
(g20_j131 w71 n85 n86 n87 q88 n89 n90 w0 u0 q60 r61 n70 q53 s56 a58 n64 n65 n66 q67 n68 n69 b73 a75 a80 m99))))
else
(if (ahd (Region.schedule true (opsOf (cAt [1, 1, 1, 0, 0, 1, 1, 0, 0, 1, 1, 0, 1, 1, 1, 0] (bodyOf Try.f20))) (World.tape w71 (World.drawn w71) (.order 20 17))) 11 14 && true) = true then
((World.cell? (World.drew w71) (Addr.add (⟨w0.heap.size, 0, none⟩) 2)).bind fun v101 =>
(asI .u64 v101).bind fun n102 =>
if (ahd (Region.schedule true (opsOf (cAt [1, 1, 1, 0, 0, 1, 1, 0, 0, 1, 1, 0, 1, 1, 1, 0] (bodyOf Try.f20))) (World.tape w71 (World.drawn w71) (.order 20 17))) 3 5 && (ahd (Region.schedule true (opsOf (cAt [1, 1, 1, 0, 0, 1, 1, 0, 0, 1, 1, 0, 1, 1, 1, 0] (bodyOf Try.f20))) (World.tape w71 (World.drawn w71) (.order 20 17))) 3 9 && (ahd (Region.schedule true (opsOf (cAt [1, 1, 1, 0, 0, 1, 1, 0, 0, 1, 1, 0, 1, 1, 1, 0] (bodyOf Try.f20))) (World.tape w71 (World.drawn w71) (.order 20 17))) 3 14 && true))) = true then
((World.cell? (World.drew w71) (Addr.add a75 1)).bind fun v132 =>
(asM v132).bind fun m133 =>
g20_j113 w71 w0 u0 q60 r61 n70 q53 s56 a58 n64 n65 n66 q67 n68 n69 b73 a75 a80 n85 n86 n87 q88 n89 n90 m133 n102)
else
(if (ahd (Region.schedule true (opsOf (cAt [1, 1, 1, 0, 0, 1, 1, 0, 0, 1, 1, 0, 1, 1, 1, 0] (bodyOf Try.f20))) (World.tape w71 (World.drawn w71) (.order 20 17))) 5 9 && (ahd (Region.schedule true (opsOf (cAt [1, 1, 1, 0, 0, 1, 1, 0, 0, 1, 1, 0, 1, 1, 1, 0] (bodyOf Try.f20))) (World.tape w71 (World.drawn w71) (.order 20 17))) 5 14 && true)) = true then
((World.cell? (World.drew w71) (Addr.add (⟨w0.heap.size, 0, none⟩) 2)).bind fun v134 =>
(asI .u64 v134).bind fun n135 =>
g20_j122 w71 a75 u0 w0 q60 r61 n70 q53 s56 a58 n64 n65 n66 q67 n68 n69 b73 a80 n85 n86 n87 q88 n89 n90 n135 n102)
else
(if (ahd (Region.schedule true (opsOf (cAt [1, 1, 1, 0, 0, 1, 1, 0, 0, 1, 1, 0, 1, 1, 1, 0] (bodyOf Try.f20))) (World.tape w71 (World.drawn w71) (.order 20 17))) 9 14 && true) = true then
((World.cell? (World.drew w71) (Addr.add a80 1)).bind fun v136 =>
(asM v136).bind fun m137 =>
g20_j130 w71 a75 u0 w0 q60 r61 n70 q53 s56 a58 n64 n65 n66 q67 n68 n69 b73 a80 n85 n86 n87 q88 n89 n90 m137 n102)
else
((World.cell? (World.alloc (World.drew w71) (.cells #[.int .i64 n85, .int .i64 n86, .int .i64 n87, .slice q88.1 q88.2.1 q88.2.2, .int .i64 n89, .int .i64 n90] 27)) (Addr.add a80 1)).bind fun v197 =>
(asM v197).bind fun m198 =>
g20_j193 w71 n85 n86 n87 q88 n89 n90 u0 w0 q60 r61 n70 q53 s56 a58 n64 n65 n66 q67 n68 n69 b73 a75 a80 m198 n102))))
else
((World.cell? (World.alloc (World.drew w71) (.cells #[.int .i64 n85, .int .i64 n86, .int .i64 n87, .slice q88.1 q88.2.1 q88.2.2, .int .i64 n89, .int .i64 n90] 27)) (Addr.add a80 1)).bind fun v139 =>
(asM v139).bind fun m140 =>
g20_j131 w71 n85 n86 n87 q88 n89 n90 w0 u0 q60 r61 n70 q53 s56 a58 n64 n65 n66 q67 n68 n69 b73 a75 a80 m140)))))
else
((ldN w71 (⟨r61.2.heap.size, 0, none⟩) 0 6).bind fun l365 =>
(asI .i64 (l365.getD 0 undef)).bind fun n366 =>
(asI .i64 (l365.getD 1 undef)).bind fun n367 =>
(asI .i64 (l365.getD 2 undef)).bind fun n368 =>
(asSl (l365.getD 3 undef)).bind fun q369 =>
(asI .i64 (l365.getD 4 undef)).bind fun n370 =>
(asI .i64 (l365.getD 5 undef)).bind fun n371 =>
(callF Try.prog 43 #[.pointer u0, .agg #[.int .i64 n366, .int .i64 n367, .int .i64 n368, .slice q369.1 q369.2.1 q369.2.2, .int .i64 n370, .int .i64 n371]] w71).bind fun r372 =>
(asTup 0 r372.1).bind fun _ =>
some (.normal, (IntKind.i64.wrap (s56 + 1)), r372.2))))
else
(some ((.exit 3), s56, w57))

noncomputable def g20_K373  : Exit → Env → World → Option (Value × World) :=
  blkK 3 g20_K33

/-- the loop, from a state on -/
noncomputable def g20_l55 (u0 : Option Addr) (w0 : World) (q53 : Option Addr × Nat × Nat) (s : Int) (w : World) : Option (Value × World) :=
  loopM Try.prog 78 20 g20_ann (cAt [1, 1, 1, 0, 0] (bodyOf Try.f20)) [0, 1, 1, 1] g20_K373 ((g20_l55_cs u0 w0 q53) ++ sputs [(43, .i .i64)] s) w

/-- behind the loop, left by x3 -/
noncomputable def g20_l55_x3  (t374 : Int) (w375 : World) : Option (Value × World) :=
some (.tuple #[], w375)

noncomputable def g20 (u0 : Option Addr) (u1c0 : Int) (u1c1 : Int) (u1c2 : Int) (u1c3 : Int) (u1c4 : Int) (u1c5 : Bool) (u1c6 : Bool) (u1c7 : Bool) (u1c8 : Option Addr × Nat × Nat) (w0 : World) : Option (Value × World) :=
if (u0.isNone) = true then
(some (.tuple #[], (World.alloc w0 (.cells #[.int .i64 u1c0, .int .i64 u1c1, .int .u64 u1c2, .int .i64 u1c3, .int .i64 u1c4, .bool u1c5, .bool u1c6, .bool u1c7, .slice u1c8.1 u1c8.2.1 u1c8.2.2] 50))))
else
((World.cell? (World.alloc w0 (.cells #[.int .i64 u1c0, .int .i64 u1c1, .int .u64 u1c2, .int .i64 u1c3, .int .i64 u1c4, .bool u1c5, .bool u1c6, .bool u1c7, .slice u1c8.1 u1c8.2.1 u1c8.2.2] 50)) (Addr.add (⟨w0.heap.size, 0, none⟩) 6)).bind fun v1 =>
(asB v1).bind fun b2 =>
if b2 = true then
((World.cell? (World.alloc w0 (.cells #[.int .i64 u1c0, .int .i64 u1c1, .int .u64 u1c2, .int .i64 u1c3, .int .i64 u1c4, .bool u1c5, .bool u1c6, .bool u1c7, .slice u1c8.1 u1c8.2.1 u1c8.2.2] 50)) (Addr.add (⟨w0.heap.size, 0, none⟩) 7)).bind fun v3 =>
(asB v3).bind fun b4 =>
if b4 = true then
(u0.bind fun a5 =>
(World.cell? (World.drew (World.alloc w0 (.cells #[.int .i64 u1c0, .int .i64 u1c1, .int .u64 u1c2, .int .i64 u1c3, .int .i64 u1c4, .bool u1c5, .bool u1c6, .bool u1c7, .slice u1c8.1 u1c8.2.1 u1c8.2.2] 50))) (Addr.add a5 1)).bind fun v6 =>
(asM v6).bind fun m7 =>
(World.cell? (World.drew (World.alloc w0 (.cells #[.int .i64 u1c0, .int .i64 u1c1, .int .u64 u1c2, .int .i64 u1c3, .int .i64 u1c4, .bool u1c5, .bool u1c6, .bool u1c7, .slice u1c8.1 u1c8.2.1 u1c8.2.2] 50))) (Addr.add (⟨w0.heap.size, 0, none⟩) 2)).bind fun v8 =>
(asI .u64 v8).bind fun n9 =>
(mLook (.int .u64) (World.drew (World.alloc w0 (.cells #[.int .i64 u1c0, .int .i64 u1c1, .int .u64 u1c2, .int .i64 u1c3, .int .i64 u1c4, .bool u1c5, .bool u1c6, .bool u1c7, .slice u1c8.1 u1c8.2.1 u1c8.2.2] 50))) m7 (.int .u64 n9)).bind fun o10 =>
(asSl (o10.getD (.slice none 0 0))).bind fun q11 =>
g20_l13 u0 w0 q11 0 (World.drew (World.alloc w0 (.cells #[.int .i64 u1c0, .int .i64 u1c1, .int .u64 u1c2, .int .i64 u1c3, .int .i64 u1c4, .bool u1c5, .bool u1c6, .bool u1c7, .slice u1c8.1 u1c8.2.1 u1c8.2.2] 50))))
else
(u0.bind fun a46 =>
(World.cell? (World.drew (World.alloc w0 (.cells #[.int .i64 u1c0, .int .i64 u1c1, .int .u64 u1c2, .int .i64 u1c3, .int .i64 u1c4, .bool u1c5, .bool u1c6, .bool u1c7, .slice u1c8.1 u1c8.2.1 u1c8.2.2] 50))) (Addr.add a46 1)).bind fun v47 =>
(asM v47).bind fun m48 =>
(World.cell? (World.drew (World.alloc w0 (.cells #[.int .i64 u1c0, .int .i64 u1c1, .int .u64 u1c2, .int .i64 u1c3, .int .i64 u1c4, .bool u1c5, .bool u1c6, .bool u1c7, .slice u1c8.1 u1c8.2.1 u1c8.2.2] 50))) (Addr.add (⟨w0.heap.size, 0, none⟩) 2)).bind fun v49 =>
(asI .u64 v49).bind fun n50 =>
(callB Try.prog .delete #[85, 47] 0 #[false, false] #[.map m48, .int .u64 n50] (World.drew (World.alloc w0 (.cells #[.int .i64 u1c0, .int .i64 u1c1, .int .u64 u1c2, .int .i64 u1c3, .int .i64 u1c4, .bool u1c5, .bool u1c6, .bool u1c7, .slice u1c8.1 u1c8.2.1 u1c8.2.2] 50)))).bind fun r51 =>
(asTup 0 r51.1).bind fun _ =>
some (.tuple #[], r51.2)))
else
((World.cell? (World.alloc w0 (.cells #[.int .i64 u1c0, .int .i64 u1c1, .int .u64 u1c2, .int .i64 u1c3, .int .i64 u1c4, .bool u1c5, .bool u1c6, .bool u1c7, .slice u1c8.1 u1c8.2.1 u1c8.2.2] 50)) (Addr.add (⟨w0.heap.size, 0, none⟩) 8)).bind fun v52 =>
(asSl v52).bind fun q53 =>
g20_l55 u0 w0 q53 0 (World.alloc w0 (.cells #[.int .i64 u1c0, .int .i64 u1c1, .int .u64 u1c2, .int .i64 u1c3, .int .i64 u1c4, .bool u1c5, .bool u1c6, .bool u1c7, .slice u1c8.1 u1c8.2.1 u1c8.2.2] 50))))

theorem g20_eq (u0 : Option Addr) (u1c0 : Int) (u1c1 : Int) (u1c2 : Int) (u1c3 : Int) (u1c4 : Int) (u1c5 : Bool) (u1c6 : Bool) (u1c7 : Bool) (u1c8 : Option Addr × Nat × Nat) (w0 : World) : evFn Try.prog 20 g20_ann #[.pointer u0, .agg #[.int .i64 u1c0, .int .i64 u1c1, .int .u64 u1c2, .int .i64 u1c3, .int .i64 u1c4, .bool u1c5, .bool u1c6, .bool u1c7, .slice u1c8.1 u1c8.2.1 u1c8.2.2]] w0 = g20 u0 u1c0 u1c1 u1c2 u1c3 u1c4 u1c5 u1c6 u1c7 u1c8 w0 := by kernel_rfl

theorem g20_call {u0 : Option Addr} {u1c0 : Int} {u1c1 : Int} {u1c2 : Int} {u1c3 : Int} {u1c4 : Int} {u1c5 : Bool} {u1c6 : Bool} {u1c7 : Bool} {u1c8 : Option Addr × Nat × Nat} {w0 : World} {r : Value × World} (h : g20 u0 u1c0 u1c1 u1c2 u1c3 u1c4 u1c5 u1c6 u1c7 u1c8 w0 = some r) : callF Try.prog 20 #[.pointer u0, .agg #[.int .i64 u1c0, .int .i64 u1c1, .int .u64 u1c2, .int .i64 u1c3, .int .i64 u1c4, .bool u1c5, .bool u1c6, .bool u1c7, .slice u1c8.1 u1c8.2.1 u1c8.2.2]] w0 = some r :=
  callF_of_evFn (ann := g20_ann) Try.call20 (by kernel_rfl) ((g20_eq u0 u1c0 u1c1 u1c2 u1c3 u1c4 u1c5 u1c6 u1c7 u1c8 w0).trans h)

theorem g20_l13_x1_of {u0 : Option Addr} {w0 : World} {q11 : Option Addr × Nat × Nat} {s t : Int} {w w' : World} (h : loopS (g20_l13_b q11 u0 w0) s w = some (.exit 1, t, w')) : g20_l13 u0 w0 q11 s w = g20_l13_x1 u0 w0 t w' := by
  have h1 : g20_l13 u0 w0 q11 s w = loopM Try.prog 78 20 g20_ann (cAt [1, 0, 0, 1, 1, 1, 0, 0, 1, 0, 1, 0, 0] (bodyOf Try.f20)) [0, 1, 0, 1, 0, 0, 1, 1, 1, 0, 0, 1] g20_K37 ((g20_l13_cs u0 w0 q11) ++ sputs [(26, .i .i64)] s) w := by kernel_rfl
  have h2 : loopM Try.prog 78 20 g20_ann (cAt [1, 0, 0, 1, 1, 1, 0, 0, 1, 0, 1, 0, 0] (bodyOf Try.f20)) [0, 1, 0, 1, 0, 0, 1, 1, 1, 0, 0, 1] g20_K37 ((g20_l13_cs u0 w0 q11) ++ sputs [(26, .i .i64)] s) w = g20_K37 (.exit 1) (puts 78 ((g20_l13_cs u0 w0 q11) ++ sputs [(26, .i .i64)] t)) w' :=
    loop_rule (P := Try.prog) (N := 78) (f := 20) (ann := g20_ann) (body := (cAt [1, 0, 0, 1, 1, 1, 0, 0, 1, 0, 1, 0, 0] (bodyOf Try.f20))) (pt := [0, 1, 0, 1, 0, 0, 1, 1, 1, 0, 0, 1]) (K := g20_K37) (g20_l13_cs u0 w0 q11) [(26, .i .i64)] (b := g20_l13_b q11 u0 w0) (fun s w => by kernel_rfl) (by kernel_rfl) (by kernel_rfl) (by kernel_rfl) h
  have h3 : g20_K37 (.exit 1) (puts 78 ((g20_l13_cs u0 w0 q11) ++ sputs [(26, .i .i64)] t)) w' = g20_l13_x1 u0 w0 t w' := by kernel_rfl
  exact h1.trans (h2.trans h3)

theorem g20_l55_x3_of {u0 : Option Addr} {w0 : World} {q53 : Option Addr × Nat × Nat} {s t : Int} {w w' : World} (h : loopS (g20_l55_b q53 w0 u0) s w = some (.exit 3, t, w')) : g20_l55 u0 w0 q53 s w = g20_l55_x3 t w' := by
  have h1 : g20_l55 u0 w0 q53 s w = loopM Try.prog 78 20 g20_ann (cAt [1, 1, 1, 0, 0] (bodyOf Try.f20)) [0, 1, 1, 1] g20_K373 ((g20_l55_cs u0 w0 q53) ++ sputs [(43, .i .i64)] s) w := by kernel_rfl
  have h2 : loopM Try.prog 78 20 g20_ann (cAt [1, 1, 1, 0, 0] (bodyOf Try.f20)) [0, 1, 1, 1] g20_K373 ((g20_l55_cs u0 w0 q53) ++ sputs [(43, .i .i64)] s) w = g20_K373 (.exit 3) (puts 78 ((g20_l55_cs u0 w0 q53) ++ sputs [(43, .i .i64)] t)) w' :=
    loop_rule (P := Try.prog) (N := 78) (f := 20) (ann := g20_ann) (body := (cAt [1, 1, 1, 0, 0] (bodyOf Try.f20))) (pt := [0, 1, 1, 1]) (K := g20_K373) (g20_l55_cs u0 w0 q53) [(43, .i .i64)] (b := g20_l55_b q53 w0 u0) (fun s w => by kernel_rfl) (by kernel_rfl) (by kernel_rfl) (by kernel_rfl) h
  have h3 : g20_K373 (.exit 3) (puts 78 ((g20_l55_cs u0 w0 q53) ++ sputs [(43, .i .i64)] t)) w' = g20_l55_x3 t w' := by kernel_rfl
  exact h1.trans (h2.trans h3)

/-! 22: (*penstock/group.State).Offset (s: *group.State, n: int, part: int) -/
def g22_ann : List (List Nat × List Nat) := [([0, 1, 0, 1, 1], [0, 1, 2, 18, 6, 7]), ([0, 1, 1, 0, 1, 1, 0, 0, 1, 0, 1, 1], [0, 1, 2, 18, 23, 24, 6, 7, 25])]

def g22_l6_cs (u0 : Option Addr) (u1 : Int) (u2 : Int) (p5 : Option Addr) : List (Nat × Value) := ([(0, .pointer u0), (1, .int .i64 u1), (2, .int .i64 u2), (18, .pointer p5)] : List (Nat × Value))

def g22_l17_cs (u0 : Option Addr) (u1 : Int) (u2 : Int) (p5 : Option Addr) (q15 : Option Addr × Nat × Nat) : List (Nat × Value) := ([(0, .pointer u0), (1, .int .i64 u1), (2, .int .i64 u2), (18, .pointer p5), (23, .slice q15.1 q15.2.1 q15.2.2), (24, .int .i64 (q15.2.1 : Int))] : List (Nat × Value))

/-- the round of a loop ((*penstock/group.State).Offset) -/
noncomputable def g22_l17_b (q15 : Option Addr × Nat × Nat) (u1 : Int) (u2 : Int) (u0 : Option Addr) (p5 : Option Addr) (s18 : Int × Int × Int) (w19 : World) : Option (Exit × (Int × Int × Int) × World) :=
if (decide ((s18.2.2 : Int) < (q15.2.1 : Int))) = true then
((idxA q15.1 q15.2.1 6 s18.2.2).bind fun a20 =>
(ldN w19 a20 0 6).bind fun l21 =>
(asI .i64 (l21.getD 0 undef)).bind fun n22 =>
(asI .i64 (l21.getD 1 undef)).bind fun n23 =>
(asI .i64 (l21.getD 2 undef)).bind fun n24 =>
(asSl (l21.getD 3 undef)).bind fun q25 =>
(asI .i64 (l21.getD 4 undef)).bind fun n26 =>
(asI .i64 (l21.getD 5 undef)).bind fun n27 =>
(stL (World.alloc w19 (.cells #[.int .i64 0, .int .i64 0, .int .i64 0, .slice none 0 0, .int .i64 0, .int .i64 0] 27)) (⟨w19.heap.size, 0, none⟩) [.int .i64 n22, .int .i64 n23, .int .i64 n24, .slice q25.1 q25.2.1 q25.2.2, .int .i64 n26, .int .i64 n27] 0).bind fun w28 =>
(World.cell? w28 (⟨w19.heap.size, 0, none⟩)).bind fun v29 =>
(asI .i64 v29).bind fun n30 =>
if ((n30 : Int) == 2) = true then
((World.cell? w28 (Addr.add (⟨w19.heap.size, 0, none⟩) 1)).bind fun v31 =>
(asI .i64 v31).bind fun n32 =>
if ((n32 : Int) == u1) = true then
((World.cell? w28 (Addr.add (⟨w19.heap.size, 0, none⟩) 4)).bind fun v33 =>
(asI .i64 v33).bind fun n34 =>
if ((n34 : Int) == u2) = true then
(some (.ret, (0, 16, s18.2.2), w28))
else
(some (.normal, (s18.1, s18.2.1, (IntKind.i64.wrap (s18.2.2 + 1))), w28)))
else
(some (.normal, (s18.1, s18.2.1, (IntKind.i64.wrap (s18.2.2 + 1))), w28)))
else
(some (.normal, (s18.1, s18.2.1, (IntKind.i64.wrap (s18.2.2 + 1))), w28)))
else
(some ((.exit 2), (s18.1, s18.2.1, s18.2.2), w19))

noncomputable def g22_K35 (u0 : Option Addr) (u1 : Int) (u2 : Int) (p5 : Option Addr) : Exit → Env → World → Option (Exit × (Int × Int) × World) :=
  fun e ρ w => ((List.map (·.1) (g22_l6_cs u0 u1 u2 p5)).mapM ρ).bind fun _ => loopK [(6, .i .i64), (7, .i .i64)] e ρ w

noncomputable def g22_K36 (u0 : Option Addr) (u1 : Int) (u2 : Int) (p5 : Option Addr) : Exit → Env → World → Option (Exit × (Int × Int) × World) :=
  blkK 1 (g22_K35 u0 u1 u2 p5)

noncomputable def g22_K37 (u0 : Option Addr) (u1 : Int) (u2 : Int) (p5 : Option Addr) : Exit → Env → World → Option (Exit × (Int × Int) × World) :=
  blkK 2 (g22_K36 u0 u1 u2 p5)

/-- the loop, from a state on -/
noncomputable def g22_l17 (u0 : Option Addr) (u1 : Int) (u2 : Int) (p5 : Option Addr) (q15 : Option Addr × Nat × Nat) (s : Int × Int × Int) (w : World) : Option (Exit × (Int × Int) × World) :=
  loopM Try.prog 63 22 g22_ann (cAt [1, 1, 0, 1, 0, 0, 1, 1, 0, 1, 1, 0, 0] (bodyOf Try.f22)) [0, 1, 1, 0, 1, 1, 0, 0, 1, 0, 1, 1] (g22_K37 u0 u1 u2 p5) ((g22_l17_cs u0 u1 u2 p5 q15) ++ sputs [(6, .i .i64), (7, .i .i64), (25, .i .i64)] s) w

/-- behind the loop, left by x2 -/
noncomputable def g22_l17_x2  (t38 : Int × Int × Int) (w39 : World) : Option (Exit × (Int × Int) × World) :=
some (.normal, (t38.1, t38.2.1), w39)

/-- behind the loop, left by ret -/
noncomputable def g22_l17_ret  (t40 : Int × Int × Int) (w41 : World) : Option (Exit × (Int × Int) × World) :=
some (.ret, (t40.1, t40.2.1), w41)

/-- the round of a loop ((*penstock/group.State).Offset) -/
noncomputable def g22_l6_b (p5 : Option Addr) (u0 : Option Addr) (u1 : Int) (u2 : Int) (s7 : Int × Int) (w8 : World) : Option (Exit × (Int × Int) × World) :=
(semR Try.prog (Instr.next (.pointer p5) false 0) w8).bind fun r9 =>
(asNext r9.1).bind fun o10 =>
onNext o10 (some ((.exit 0), (s7.1, s7.2), r9.2)) (fun k11 => fun v12 =>
(semR Try.prog (Instr.entry (.pointer p5)) r9.2).bind fun r13 =>
(asTup 2 r13.1).bind fun l14 =>
(asSl (l14.getD 1 undef)).bind fun q15 =>
g22_l17 u0 u1 u2 p5 q15 (s7.1, s7.2, 0) r13.2)

noncomputable def g22_K42  : Exit → Env → World → Option (Value × World) :=
  retK Try.prog Try.f22.results.toList

noncomputable def g22_K43  : Exit → Env → World → Option (Value × World) :=
  seqK (ev Try.prog 63 22 g22_ann (cAt [1, 1, 1] (bodyOf Try.f22)) [1, 1, 1] g22_K42) g22_K42

noncomputable def g22_K44  : Exit → Env → World → Option (Value × World) :=
  blkK 0 g22_K43

/-- the loop, from a state on -/
noncomputable def g22_l6 (u0 : Option Addr) (u1 : Int) (u2 : Int) (p5 : Option Addr) (s : Int × Int) (w : World) : Option (Value × World) :=
  loopM Try.prog 63 22 g22_ann (cAt [1, 1, 0, 1, 0, 0] (bodyOf Try.f22)) [0, 1, 0, 1, 1] g22_K44 ((g22_l6_cs u0 u1 u2 p5) ++ sputs [(6, .i .i64), (7, .i .i64)] s) w

/-- behind the loop, left by x0 -/
noncomputable def g22_l6_x0 (u0 : Option Addr) (u1 : Int) (u2 : Int) (t45 : Int × Int) (w46 : World) : Option (Value × World) :=
u0.bind fun a47 =>
(World.cell? w46 a47).bind fun v48 =>
(asM v48).bind fun m49 =>
(mLook (.int .i64) w46 m49 (.int .i64 u1)).bind fun o50 =>
(asP (o50.getD (.pointer none))).bind fun p51 =>
if (p51.isNone) = true then
(some (.tuple #[.int .i64 0, .int .i64 0], w46))
else
(u0.bind fun a52 =>
(World.cell? w46 a52).bind fun v53 =>
(asM v53).bind fun m54 =>
(mLook (.int .i64) w46 m54 (.int .i64 u1)).bind fun o55 =>
(asP (o55.getD (.pointer none))).bind fun p56 =>
p56.bind fun a57 =>
(World.cell? w46 (Addr.add a57 2)).bind fun v58 =>
(asM v58).bind fun m59 =>
(mLook (.int .i64) w46 m59 (.int .i64 u2)).bind fun o60 =>
(asI .i64 (o60.getD (.int .i64 0))).bind fun n61 =>
some (.tuple #[.int .i64 n61, .int .i64 0], w46))

/-- behind the loop, left by ret -/
noncomputable def g22_l6_ret  (t62 : Int × Int) (w63 : World) : Option (Value × World) :=
some (.tuple #[.int .i64 t62.1, .int .i64 t62.2], w63)

noncomputable def g22 (u0 : Option Addr) (u1 : Int) (u2 : Int) (w0 : World) : Option (Value × World) :=
if (u0.isNone) = true then
(some (.tuple #[.int .i64 0, .int .i64 5], w0))
else
(u0.bind fun a1 =>
(World.cell? w0 (Addr.add a1 1)).bind fun v2 =>
(asM v2).bind fun m3 =>
(semR Try.prog (Instr.range 85 (.map m3)) w0).bind fun r4 =>
(asP r4.1).bind fun p5 =>
g22_l6 u0 u1 u2 p5 (0, 0) r4.2)

theorem g22_eq (u0 : Option Addr) (u1 : Int) (u2 : Int) (w0 : World) : evFn Try.prog 22 g22_ann #[.pointer u0, .int .i64 u1, .int .i64 u2] w0 = g22 u0 u1 u2 w0 := by kernel_rfl

theorem g22_call {u0 : Option Addr} {u1 : Int} {u2 : Int} {w0 : World} {r : Value × World} (h : g22 u0 u1 u2 w0 = some r) : callF Try.prog 22 #[.pointer u0, .int .i64 u1, .int .i64 u2] w0 = some r :=
  callF_of_evFn (ann := g22_ann) Try.call22 (by kernel_rfl) ((g22_eq u0 u1 u2 w0).trans h)

theorem g22_l17_x2_of {u0 : Option Addr} {u1 : Int} {u2 : Int} {p5 : Option Addr} {q15 : Option Addr × Nat × Nat} {s t : Int × Int × Int} {w w' : World} (h : loopS (g22_l17_b q15 u1 u2 u0 p5) s w = some (.exit 2, t, w')) : g22_l17 u0 u1 u2 p5 q15 s w = g22_l17_x2 t w' := by
  have h1 : g22_l17 u0 u1 u2 p5 q15 s w = loopM Try.prog 63 22 g22_ann (cAt [1, 1, 0, 1, 0, 0, 1, 1, 0, 1, 1, 0, 0] (bodyOf Try.f22)) [0, 1, 1, 0, 1, 1, 0, 0, 1, 0, 1, 1] (g22_K37 u0 u1 u2 p5) ((g22_l17_cs u0 u1 u2 p5 q15) ++ sputs [(6, .i .i64), (7, .i .i64), (25, .i .i64)] s) w := by kernel_rfl
  have h2 : loopM Try.prog 63 22 g22_ann (cAt [1, 1, 0, 1, 0, 0, 1, 1, 0, 1, 1, 0, 0] (bodyOf Try.f22)) [0, 1, 1, 0, 1, 1, 0, 0, 1, 0, 1, 1] (g22_K37 u0 u1 u2 p5) ((g22_l17_cs u0 u1 u2 p5 q15) ++ sputs [(6, .i .i64), (7, .i .i64), (25, .i .i64)] s) w = (g22_K37 u0 u1 u2 p5) (.exit 2) (puts 63 ((g22_l17_cs u0 u1 u2 p5 q15) ++ sputs [(6, .i .i64), (7, .i .i64), (25, .i .i64)] t)) w' :=
    loop_rule (P := Try.prog) (N := 63) (f := 22) (ann := g22_ann) (body := (cAt [1, 1, 0, 1, 0, 0, 1, 1, 0, 1, 1, 0, 0] (bodyOf Try.f22))) (pt := [0, 1, 1, 0, 1, 1, 0, 0, 1, 0, 1, 1]) (K := (g22_K37 u0 u1 u2 p5)) (g22_l17_cs u0 u1 u2 p5 q15) [(6, .i .i64), (7, .i .i64), (25, .i .i64)] (b := g22_l17_b q15 u1 u2 u0 p5) (fun s w => by kernel_rfl) (by kernel_rfl) (by kernel_rfl) (by kernel_rfl) h
  have h3 : (g22_K37 u0 u1 u2 p5) (.exit 2) (puts 63 ((g22_l17_cs u0 u1 u2 p5 q15) ++ sputs [(6, .i .i64), (7, .i .i64), (25, .i .i64)] t)) w' = g22_l17_x2 t w' := by kernel_rfl
  exact h1.trans (h2.trans h3)

theorem g22_l17_ret_of {u0 : Option Addr} {u1 : Int} {u2 : Int} {p5 : Option Addr} {q15 : Option Addr × Nat × Nat} {s t : Int × Int × Int} {w w' : World} (h : loopS (g22_l17_b q15 u1 u2 u0 p5) s w = some (.ret, t, w')) : g22_l17 u0 u1 u2 p5 q15 s w = g22_l17_ret t w' := by
  have h1 : g22_l17 u0 u1 u2 p5 q15 s w = loopM Try.prog 63 22 g22_ann (cAt [1, 1, 0, 1, 0, 0, 1, 1, 0, 1, 1, 0, 0] (bodyOf Try.f22)) [0, 1, 1, 0, 1, 1, 0, 0, 1, 0, 1, 1] (g22_K37 u0 u1 u2 p5) ((g22_l17_cs u0 u1 u2 p5 q15) ++ sputs [(6, .i .i64), (7, .i .i64), (25, .i .i64)] s) w := by kernel_rfl
  have h2 : loopM Try.prog 63 22 g22_ann (cAt [1, 1, 0, 1, 0, 0, 1, 1, 0, 1, 1, 0, 0] (bodyOf Try.f22)) [0, 1, 1, 0, 1, 1, 0, 0, 1, 0, 1, 1] (g22_K37 u0 u1 u2 p5) ((g22_l17_cs u0 u1 u2 p5 q15) ++ sputs [(6, .i .i64), (7, .i .i64), (25, .i .i64)] s) w = (g22_K37 u0 u1 u2 p5) (.ret) (puts 63 ((g22_l17_cs u0 u1 u2 p5 q15) ++ sputs [(6, .i .i64), (7, .i .i64), (25, .i .i64)] t)) w' :=
    loop_rule (P := Try.prog) (N := 63) (f := 22) (ann := g22_ann) (body := (cAt [1, 1, 0, 1, 0, 0, 1, 1, 0, 1, 1, 0, 0] (bodyOf Try.f22))) (pt := [0, 1, 1, 0, 1, 1, 0, 0, 1, 0, 1, 1]) (K := (g22_K37 u0 u1 u2 p5)) (g22_l17_cs u0 u1 u2 p5 q15) [(6, .i .i64), (7, .i .i64), (25, .i .i64)] (b := g22_l17_b q15 u1 u2 u0 p5) (fun s w => by kernel_rfl) (by kernel_rfl) (by kernel_rfl) (by kernel_rfl) h
  have h3 : (g22_K37 u0 u1 u2 p5) (.ret) (puts 63 ((g22_l17_cs u0 u1 u2 p5 q15) ++ sputs [(6, .i .i64), (7, .i .i64), (25, .i .i64)] t)) w' = g22_l17_ret t w' := by kernel_rfl
  exact h1.trans (h2.trans h3)

theorem g22_l6_x0_of {u0 : Option Addr} {u1 : Int} {u2 : Int} {p5 : Option Addr} {s t : Int × Int} {w w' : World} (h : loopS (g22_l6_b p5 u0 u1 u2) s w = some (.exit 0, t, w')) : g22_l6 u0 u1 u2 p5 s w = g22_l6_x0 u0 u1 u2 t w' := by
  have h1 : g22_l6 u0 u1 u2 p5 s w = loopM Try.prog 63 22 g22_ann (cAt [1, 1, 0, 1, 0, 0] (bodyOf Try.f22)) [0, 1, 0, 1, 1] g22_K44 ((g22_l6_cs u0 u1 u2 p5) ++ sputs [(6, .i .i64), (7, .i .i64)] s) w := by kernel_rfl
  have h2 : loopM Try.prog 63 22 g22_ann (cAt [1, 1, 0, 1, 0, 0] (bodyOf Try.f22)) [0, 1, 0, 1, 1] g22_K44 ((g22_l6_cs u0 u1 u2 p5) ++ sputs [(6, .i .i64), (7, .i .i64)] s) w = g22_K44 (.exit 0) (puts 63 ((g22_l6_cs u0 u1 u2 p5) ++ sputs [(6, .i .i64), (7, .i .i64)] t)) w' :=
    loop_rule (P := Try.prog) (N := 63) (f := 22) (ann := g22_ann) (body := (cAt [1, 1, 0, 1, 0, 0] (bodyOf Try.f22))) (pt := [0, 1, 0, 1, 1]) (K := g22_K44) (g22_l6_cs u0 u1 u2 p5) [(6, .i .i64), (7, .i .i64)] (b := g22_l6_b p5 u0 u1 u2) (fun s w => by kernel_rfl) (by kernel_rfl) (by kernel_rfl) (by kernel_rfl) h
  have h3 : g22_K44 (.exit 0) (puts 63 ((g22_l6_cs u0 u1 u2 p5) ++ sputs [(6, .i .i64), (7, .i .i64)] t)) w' = g22_l6_x0 u0 u1 u2 t w' := by kernel_rfl
  exact h1.trans (h2.trans h3)

theorem g22_l6_ret_of {u0 : Option Addr} {u1 : Int} {u2 : Int} {p5 : Option Addr} {s t : Int × Int} {w w' : World} (h : loopS (g22_l6_b p5 u0 u1 u2) s w = some (.ret, t, w')) : g22_l6 u0 u1 u2 p5 s w = g22_l6_ret t w' := by
  have h1 : g22_l6 u0 u1 u2 p5 s w = loopM Try.prog 63 22 g22_ann (cAt [1, 1, 0, 1, 0, 0] (bodyOf Try.f22)) [0, 1, 0, 1, 1] g22_K44 ((g22_l6_cs u0 u1 u2 p5) ++ sputs [(6, .i .i64), (7, .i .i64)] s) w := by kernel_rfl
  have h2 : loopM Try.prog 63 22 g22_ann (cAt [1, 1, 0, 1, 0, 0] (bodyOf Try.f22)) [0, 1, 0, 1, 1] g22_K44 ((g22_l6_cs u0 u1 u2 p5) ++ sputs [(6, .i .i64), (7, .i .i64)] s) w = g22_K44 (.ret) (puts 63 ((g22_l6_cs u0 u1 u2 p5) ++ sputs [(6, .i .i64), (7, .i .i64)] t)) w' :=
    loop_rule (P := Try.prog) (N := 63) (f := 22) (ann := g22_ann) (body := (cAt [1, 1, 0, 1, 0, 0] (bodyOf Try.f22))) (pt := [0, 1, 0, 1, 1]) (K := g22_K44) (g22_l6_cs u0 u1 u2 p5) [(6, .i .i64), (7, .i .i64)] (b := g22_l6_b p5 u0 u1 u2) (fun s w => by kernel_rfl) (by kernel_rfl) (by kernel_rfl) (by kernel_rfl) h
  have h3 : g22_K44 (.ret) (puts 63 ((g22_l6_cs u0 u1 u2 p5) ++ sputs [(6, .i .i64), (7, .i .i64)] t)) w' = g22_l6_ret t w' := by kernel_rfl
  exact h1.trans (h2.trans h3)

/-! 23: (*penstock/group.State).Team (s: *group.State, n: int) -/
def g23_ann : List (List Nat × List Nat) := []

noncomputable def g23_j61 (w0 : World) (x67 : Int) (x68 : Option Addr × Nat × Nat) (w69 : World) : Option (Value × World) :=
some (.tuple #[.int .i64 x67, .slice x68.1 x68.2.1 x68.2.2], w69)

noncomputable def g23_j58 (w0 : World) (a62 : Addr) (x63 : Option Addr × Nat × Nat) (w64 : World) : Option (Value × World) :=
(World.cell? w64 a62).bind fun v65 =>
(asI .i64 v65).bind fun n66 =>
g23_j61 w0 n66 (x63.1, x63.2.1, x63.2.2) w64

noncomputable def g23_j39 (u1 : Int) (w0 : World) (x44 : Option Nat) (x45 : Option Addr × Nat × Nat) (w46 : World) : Option (Value × World) :=
(mLook (.int .i64) w46 x44 (.int .i64 u1)).bind fun o47 =>
(asP (o47.getD (.pointer none))).bind fun p48 =>
p48.bind fun a51 =>
g23_j58 w0 a51 (x45.1, x45.2.1, x45.2.2) w46

noncomputable def g23 (u0 : Option Addr) (u1 : Int) (w0 : World) : Option (Value × World) :=
if (u0.isNone) = true then
(some (.tuple #[.int .i64 0, .slice none 0 0], w0))
else
(u0.bind fun a1 =>
(World.cell? w0 a1).bind fun v2 =>
(asM v2).bind fun m3 =>
(mLook (.int .i64) w0 m3 (.int .i64 u1)).bind fun o4 =>
(asP (o4.getD (.pointer none))).bind fun p5 =>
if (p5.isNone) = true then
(some (.tuple #[.int .i64 0, .slice none 0 0], w0))
else
(u0.bind fun a7 =>
u0.bind fun a12 =>
(World.cell? (World.drew w0) a12).bind fun v15 =>
(asM v15).bind fun m16 =>
(mLook (.int .i64) (World.drew w0) m16 (.int .i64 u1)).bind fun o19 =>
(asP (o19.getD (.pointer none))).bind fun p20 =>
p20.bind fun a22 =>
(World.cell? (World.drew w0) (Addr.add a22 1)).bind fun v25 =>
(asSl v25).bind fun q26 =>
if (ahd (Region.schedule true (opsOf (cAt [1, 1, 0] (bodyOf Try.f23))) (World.tape w0 (World.drawn w0) (.order 23 3))) 3 18 && true) = true then
((World.cell? (World.drew w0) a7).bind fun v28 =>
(asM v28).bind fun m29 =>
if (ahd (Region.schedule true (opsOf (cAt [1, 1, 0] (bodyOf Try.f23))) (World.tape w0 (World.drawn w0) (.order 23 3))) 5 18 && true) = true then
((mLook (.int .i64) (World.drew w0) m29 (.int .i64 u1)).bind fun o34 =>
(asP (o34.getD (.pointer none))).bind fun p35 =>
p35.bind fun a42 =>
if (ahd (Region.schedule true (opsOf (cAt [1, 1, 0] (bodyOf Try.f23))) (World.tape w0 (World.drawn w0) (.order 23 3))) 8 18 && true) = true then
((World.cell? (World.drew w0) a42).bind fun v53 =>
(asI .i64 v53).bind fun n54 =>
(callF Try.prog 44 #[.slice q26.1 q26.2.1 q26.2.2] (World.drew w0)).bind fun r59 =>
(asSl r59.1).bind fun q60 =>
g23_j61 w0 n54 (q60.1, q60.2.1, q60.2.2) r59.2)
else
((callF Try.prog 44 #[.slice q26.1 q26.2.1 q26.2.2] (World.drew w0)).bind fun r56 =>
(asSl r56.1).bind fun q57 =>
g23_j58 w0 a42 (q57.1, q57.2.1, q57.2.2) r56.2))
else
((callF Try.prog 44 #[.slice q26.1 q26.2.1 q26.2.2] (World.drew w0)).bind fun r37 =>
(asSl r37.1).bind fun q38 =>
g23_j39 u1 w0 m29 (q38.1, q38.2.1, q38.2.2) r37.2))
else
((callF Try.prog 44 #[.slice q26.1 q26.2.1 q26.2.2] (World.drew w0)).bind fun r31 =>
(asSl r31.1).bind fun q32 =>
(World.cell? r31.2 a7).bind fun v40 =>
(asM v40).bind fun m41 =>
g23_j39 u1 w0 m41 (q32.1, q32.2.1, q32.2.2) r31.2)))

theorem g23_eq (u0 : Option Addr) (u1 : Int) (w0 : World) : evFn Try.prog 23 g23_ann #[.pointer u0, .int .i64 u1] w0 = g23 u0 u1 w0 := by kernel_rfl

theorem g23_call {u0 : Option Addr} {u1 : Int} {w0 : World} {r : Value × World} (h : g23 u0 u1 w0 = some r) : callF Try.prog 23 #[.pointer u0, .int .i64 u1] w0 = some r :=
  callF_of_evFn (ann := g23_ann) Try.call23 (by kernel_rfl) ((g23_eq u0 u1 w0).trans h)

/-! 25: (*penstock/group.State).Join (s: *group.State, n: int, member: int, stay: bool) -/
def g25_ann : List (List Nat × List Nat) := []

noncomputable def g25_j51 (w0 : World) (u2 : Int) (u1 : Int) (n37 : Int) (x68 : Option Addr × Nat × Nat) (w69 : World) : Option (Value × World) :=
(stL w69 (⟨(World.alloc w0 (.cells #[.int .i64 u2] 3)).heap.size, 0, none⟩) [.int .i64 1, .int .i64 u1, .int .i64 (IntKind.i64.wrap (n37 + 1)), .slice x68.1 x68.2.1 x68.2.2, .int .i64 0, .int .i64 0] 0).bind fun w70 =>
(ldN w70 (⟨(World.alloc w0 (.cells #[.int .i64 u2] 3)).heap.size, 0, none⟩) 0 6).bind fun l71 =>
(asI .i64 (l71.getD 0 undef)).bind fun n72 =>
(asI .i64 (l71.getD 1 undef)).bind fun n73 =>
(asI .i64 (l71.getD 2 undef)).bind fun n74 =>
(asSl (l71.getD 3 undef)).bind fun q75 =>
(asI .i64 (l71.getD 4 undef)).bind fun n76 =>
(asI .i64 (l71.getD 5 undef)).bind fun n77 =>
some (.tuple #[.agg #[.int .i64 n72, .int .i64 n73, .int .i64 n74, .slice q75.1 q75.2.1 q75.2.2, .int .i64 n76, .int .i64 n77], .bool true, .int .i64 0], w70)

noncomputable def g25 (u0 : Option Addr) (u1 : Int) (u2 : Int) (u3 : Bool) (w0 : World) : Option (Value × World) :=
if (u0.isNone) = true then
((stL (World.alloc (World.alloc w0 (.cells #[.int .i64 u2] 3)) (.cells #[.int .i64 0, .int .i64 0, .int .i64 0, .slice none 0 0, .int .i64 0, .int .i64 0] 27)) (⟨(World.alloc w0 (.cells #[.int .i64 u2] 3)).heap.size, 0, none⟩) [.int .i64 0, .int .i64 0, .int .i64 0, .slice none 0 0, .int .i64 0, .int .i64 0] 0).bind fun w1 =>
(ldN w1 (⟨(World.alloc w0 (.cells #[.int .i64 u2] 3)).heap.size, 0, none⟩) 0 6).bind fun l2 =>
(asI .i64 (l2.getD 0 undef)).bind fun n3 =>
(asI .i64 (l2.getD 1 undef)).bind fun n4 =>
(asI .i64 (l2.getD 2 undef)).bind fun n5 =>
(asSl (l2.getD 3 undef)).bind fun q6 =>
(asI .i64 (l2.getD 4 undef)).bind fun n7 =>
(asI .i64 (l2.getD 5 undef)).bind fun n8 =>
some (.tuple #[.agg #[.int .i64 n3, .int .i64 n4, .int .i64 n5, .slice q6.1 q6.2.1 q6.2.2, .int .i64 n7, .int .i64 n8], .bool false, .int .i64 5], w1))
else
(if (decide ((u1 : Int) < 0)) = true then
((stL (World.alloc (World.alloc w0 (.cells #[.int .i64 u2] 3)) (.cells #[.int .i64 0, .int .i64 0, .int .i64 0, .slice none 0 0, .int .i64 0, .int .i64 0] 27)) (⟨(World.alloc w0 (.cells #[.int .i64 u2] 3)).heap.size, 0, none⟩) [.int .i64 0, .int .i64 0, .int .i64 0, .slice none 0 0, .int .i64 0, .int .i64 0] 0).bind fun w9 =>
(ldN w9 (⟨(World.alloc w0 (.cells #[.int .i64 u2] 3)).heap.size, 0, none⟩) 0 6).bind fun l10 =>
(asI .i64 (l10.getD 0 undef)).bind fun n11 =>
(asI .i64 (l10.getD 1 undef)).bind fun n12 =>
(asI .i64 (l10.getD 2 undef)).bind fun n13 =>
(asSl (l10.getD 3 undef)).bind fun q14 =>
(asI .i64 (l10.getD 4 undef)).bind fun n15 =>
(asI .i64 (l10.getD 5 undef)).bind fun n16 =>
some (.tuple #[.agg #[.int .i64 n11, .int .i64 n12, .int .i64 n13, .slice q14.1 q14.2.1 q14.2.2, .int .i64 n15, .int .i64 n16], .bool false, .int .i64 1], w9))
else
(if (decide ((u1 : Int) ≥ 8)) = true then
((stL (World.alloc (World.alloc w0 (.cells #[.int .i64 u2] 3)) (.cells #[.int .i64 0, .int .i64 0, .int .i64 0, .slice none 0 0, .int .i64 0, .int .i64 0] 27)) (⟨(World.alloc w0 (.cells #[.int .i64 u2] 3)).heap.size, 0, none⟩) [.int .i64 0, .int .i64 0, .int .i64 0, .slice none 0 0, .int .i64 0, .int .i64 0] 0).bind fun w17 =>
(ldN w17 (⟨(World.alloc w0 (.cells #[.int .i64 u2] 3)).heap.size, 0, none⟩) 0 6).bind fun l18 =>
(asI .i64 (l18.getD 0 undef)).bind fun n19 =>
(asI .i64 (l18.getD 1 undef)).bind fun n20 =>
(asI .i64 (l18.getD 2 undef)).bind fun n21 =>
(asSl (l18.getD 3 undef)).bind fun q22 =>
(asI .i64 (l18.getD 4 undef)).bind fun n23 =>
(asI .i64 (l18.getD 5 undef)).bind fun n24 =>
some (.tuple #[.agg #[.int .i64 n19, .int .i64 n20, .int .i64 n21, .slice q22.1 q22.2.1 q22.2.2, .int .i64 n23, .int .i64 n24], .bool false, .int .i64 1], w17))
else
((World.cell? (World.alloc (World.alloc w0 (.cells #[.int .i64 u2] 3)) (.cells #[.int .i64 0, .int .i64 0, .int .i64 0, .slice none 0 0, .int .i64 0, .int .i64 0] 27)) (⟨w0.heap.size, 0, none⟩)).bind fun v25 =>
(asI .i64 v25).bind fun n26 =>
if (decide ((n26 : Int) < 0)) = true then
((stL (World.alloc (World.alloc w0 (.cells #[.int .i64 u2] 3)) (.cells #[.int .i64 0, .int .i64 0, .int .i64 0, .slice none 0 0, .int .i64 0, .int .i64 0] 27)) (⟨(World.alloc w0 (.cells #[.int .i64 u2] 3)).heap.size, 0, none⟩) [.int .i64 0, .int .i64 0, .int .i64 0, .slice none 0 0, .int .i64 0, .int .i64 0] 0).bind fun w27 =>
(ldN w27 (⟨(World.alloc w0 (.cells #[.int .i64 u2] 3)).heap.size, 0, none⟩) 0 6).bind fun l28 =>
(asI .i64 (l28.getD 0 undef)).bind fun n29 =>
(asI .i64 (l28.getD 1 undef)).bind fun n30 =>
(asI .i64 (l28.getD 2 undef)).bind fun n31 =>
(asSl (l28.getD 3 undef)).bind fun q32 =>
(asI .i64 (l28.getD 4 undef)).bind fun n33 =>
(asI .i64 (l28.getD 5 undef)).bind fun n34 =>
some (.tuple #[.agg #[.int .i64 n29, .int .i64 n30, .int .i64 n31, .slice q32.1 q32.2.1 q32.2.2, .int .i64 n33, .int .i64 n34], .bool false, .int .i64 1], w27))
else
((callF Try.prog 23 #[.pointer u0, .int .i64 u1] (World.alloc (World.alloc w0 (.cells #[.int .i64 u2] 3)) (.cells #[.int .i64 0, .int .i64 0, .int .i64 0, .slice none 0 0, .int .i64 0, .int .i64 0] 27))).bind fun r35 =>
(asTup 2 r35.1).bind fun l36 =>
(asI .i64 (l36.getD 0 undef)).bind fun n37 =>
(asSl (l36.getD 1 undef)).bind fun q38 =>
(World.cell? r35.2 (⟨w0.heap.size, 0, none⟩)).bind fun v39 =>
(asI .i64 v39).bind fun n40 =>
(callF Try.prog 45 #[.slice q38.1 q38.2.1 q38.2.2, .int .i64 n40] r35.2).bind fun r41 =>
(asB r41.1).bind fun b42 =>
if (b42 == u3) = true then
((stL r41.2 (⟨(World.alloc w0 (.cells #[.int .i64 u2] 3)).heap.size, 0, none⟩) [.int .i64 0, .int .i64 0, .int .i64 0, .slice none 0 0, .int .i64 0, .int .i64 0] 0).bind fun w43 =>
(ldN w43 (⟨(World.alloc w0 (.cells #[.int .i64 u2] 3)).heap.size, 0, none⟩) 0 6).bind fun l44 =>
(asI .i64 (l44.getD 0 undef)).bind fun n45 =>
(asI .i64 (l44.getD 1 undef)).bind fun n46 =>
(asI .i64 (l44.getD 2 undef)).bind fun n47 =>
(asSl (l44.getD 3 undef)).bind fun q48 =>
(asI .i64 (l44.getD 4 undef)).bind fun n49 =>
(asI .i64 (l44.getD 5 undef)).bind fun n50 =>
some (.tuple #[.agg #[.int .i64 n45, .int .i64 n46, .int .i64 n47, .slice q48.1 q48.2.1 q48.2.2, .int .i64 n49, .int .i64 n50], .bool false, .int .i64 0], w43))
else
(if u3 = true then
(if (((q38.2.1 : Int) : Int) == 8) = true then
((stL r41.2 (⟨(World.alloc w0 (.cells #[.int .i64 u2] 3)).heap.size, 0, none⟩) [.int .i64 0, .int .i64 0, .int .i64 0, .slice none 0 0, .int .i64 0, .int .i64 0] 0).bind fun w53 =>
(ldN w53 (⟨(World.alloc w0 (.cells #[.int .i64 u2] 3)).heap.size, 0, none⟩) 0 6).bind fun l54 =>
(asI .i64 (l54.getD 0 undef)).bind fun n55 =>
(asI .i64 (l54.getD 1 undef)).bind fun n56 =>
(asI .i64 (l54.getD 2 undef)).bind fun n57 =>
(asSl (l54.getD 3 undef)).bind fun q58 =>
(asI .i64 (l54.getD 4 undef)).bind fun n59 =>
(asI .i64 (l54.getD 5 undef)).bind fun n60 =>
some (.tuple #[.agg #[.int .i64 n55, .int .i64 n56, .int .i64 n57, .slice q58.1 q58.2.1 q58.2.2, .int .i64 n59, .int .i64 n60], .bool false, .int .i64 3], w53))
else
((World.cell? r41.2 (⟨w0.heap.size, 0, none⟩)).bind fun v61 =>
(asI .i64 v61).bind fun n62 =>
(callB Try.prog .append #[22, 22] 22 #[false, false] #[.slice q38.1 q38.2.1 q38.2.2, .slice (some (⟨r41.2.heap.size, 0, none⟩)) 1 1] (World.alloc r41.2 (.cells #[.int .i64 n62] 3))).bind fun r63 =>
(asSl r63.1).bind fun q64 =>
(callF Try.prog 46 #[.slice q64.1 q64.2.1 q64.2.2] r63.2).bind fun r65 =>
(asTup 0 r65.1).bind fun _ =>
g25_j51 w0 u2 u1 n37 (q64.1, q64.2.1, q64.2.2) r65.2))
else
((callF Try.prog 47 #[.slice q38.1 q38.2.1 q38.2.2, .func (.func 48) #[] #[.pointer (some (⟨w0.heap.size, 0, none⟩))]] r41.2).bind fun r66 =>
(asSl r66.1).bind fun q67 =>
g25_j51 w0 u2 u1 n37 (q67.1, q67.2.1, q67.2.2) r66.2))))))

theorem g25_eq (u0 : Option Addr) (u1 : Int) (u2 : Int) (u3 : Bool) (w0 : World) : evFn Try.prog 25 g25_ann #[.pointer u0, .int .i64 u1, .int .i64 u2, .bool u3] w0 = g25 u0 u1 u2 u3 w0 := by kernel_rfl

theorem g25_call {u0 : Option Addr} {u1 : Int} {u2 : Int} {u3 : Bool} {w0 : World} {r : Value × World} (h : g25 u0 u1 u2 u3 w0 = some r) : callF Try.prog 25 #[.pointer u0, .int .i64 u1, .int .i64 u2, .bool u3] w0 = some r :=
  callF_of_evFn (ann := g25_ann) Try.call25 (by kernel_rfl) ((g25_eq u0 u1 u2 u3 w0).trans h)

/-! 26: (*penstock/group.State).Commit (s: *group.State, n: int, member: int, gen: int, part: int, offset: int) -/
def g26_ann : List (List Nat × List Nat) := []

noncomputable def g26 (u0 : Option Addr) (u1 : Int) (u2 : Int) (u3 : Int) (u4 : Int) (u5 : Int) (w0 : World) : Option (Value × World) :=
(stL (World.alloc (World.alloc w0 (.cells #[.int .i64 0, .int .i64 0, .int .i64 0, .slice none 0 0, .int .i64 0, .int .i64 0] 27)) (.cells #[.int .i64 0, .int .i64 0, .int .i64 0, .slice none 0 0, .int .i64 0, .int .i64 0] 27)) (⟨(World.alloc w0 (.cells #[.int .i64 0, .int .i64 0, .int .i64 0, .slice none 0 0, .int .i64 0, .int .i64 0] 27)).heap.size, 0, none⟩) [.int .i64 2, .int .i64 u1, .int .i64 0, .slice none 0 0, .int .i64 u4, .int .i64 u5] 0).bind fun w1 =>
if (u0.isNone) = true then
((stL w1 (⟨w0.heap.size, 0, none⟩) [.int .i64 0, .int .i64 0, .int .i64 0, .slice none 0 0, .int .i64 0, .int .i64 0] 0).bind fun w2 =>
(ldN w2 (⟨w0.heap.size, 0, none⟩) 0 6).bind fun l3 =>
(asI .i64 (l3.getD 0 undef)).bind fun n4 =>
(asI .i64 (l3.getD 1 undef)).bind fun n5 =>
(asI .i64 (l3.getD 2 undef)).bind fun n6 =>
(asSl (l3.getD 3 undef)).bind fun q7 =>
(asI .i64 (l3.getD 4 undef)).bind fun n8 =>
(asI .i64 (l3.getD 5 undef)).bind fun n9 =>
some (.tuple #[.agg #[.int .i64 n4, .int .i64 n5, .int .i64 n6, .slice q7.1 q7.2.1 q7.2.2, .int .i64 n8, .int .i64 n9], .int .i64 5], w2))
else
((ldN w1 (⟨(World.alloc w0 (.cells #[.int .i64 0, .int .i64 0, .int .i64 0, .slice none 0 0, .int .i64 0, .int .i64 0] 27)).heap.size, 0, none⟩) 0 6).bind fun l10 =>
(asI .i64 (l10.getD 0 undef)).bind fun n11 =>
(asI .i64 (l10.getD 1 undef)).bind fun n12 =>
(asI .i64 (l10.getD 2 undef)).bind fun n13 =>
(asSl (l10.getD 3 undef)).bind fun q14 =>
(asI .i64 (l10.getD 4 undef)).bind fun n15 =>
(asI .i64 (l10.getD 5 undef)).bind fun n16 =>
(callF Try.prog 34 #[.agg #[.int .i64 n11, .int .i64 n12, .int .i64 n13, .slice q14.1 q14.2.1 q14.2.2, .int .i64 n15, .int .i64 n16]] w1).bind fun r17 =>
(asB r17.1).bind fun b18 =>
if b18 = true then
((stL r17.2 (⟨w0.heap.size, 0, none⟩) [.int .i64 0, .int .i64 0, .int .i64 0, .slice none 0 0, .int .i64 0, .int .i64 0] 0).bind fun w19 =>
(ldN w19 (⟨w0.heap.size, 0, none⟩) 0 6).bind fun l20 =>
(asI .i64 (l20.getD 0 undef)).bind fun n21 =>
(asI .i64 (l20.getD 1 undef)).bind fun n22 =>
(asI .i64 (l20.getD 2 undef)).bind fun n23 =>
(asSl (l20.getD 3 undef)).bind fun q24 =>
(asI .i64 (l20.getD 4 undef)).bind fun n25 =>
(asI .i64 (l20.getD 5 undef)).bind fun n26 =>
some (.tuple #[.agg #[.int .i64 n21, .int .i64 n22, .int .i64 n23, .slice q24.1 q24.2.1 q24.2.2, .int .i64 n25, .int .i64 n26], .int .i64 1], w19))
else
((callF Try.prog 23 #[.pointer u0, .int .i64 u1] r17.2).bind fun r27 =>
(asTup 2 r27.1).bind fun l28 =>
(asI .i64 (l28.getD 0 undef)).bind fun n29 =>
(asSl (l28.getD 1 undef)).bind fun q30 =>
if ((u3 : Int) != n29) = true then
((stL r27.2 (⟨w0.heap.size, 0, none⟩) [.int .i64 0, .int .i64 0, .int .i64 0, .slice none 0 0, .int .i64 0, .int .i64 0] 0).bind fun w31 =>
(ldN w31 (⟨w0.heap.size, 0, none⟩) 0 6).bind fun l32 =>
(asI .i64 (l32.getD 0 undef)).bind fun n33 =>
(asI .i64 (l32.getD 1 undef)).bind fun n34 =>
(asI .i64 (l32.getD 2 undef)).bind fun n35 =>
(asSl (l32.getD 3 undef)).bind fun q36 =>
(asI .i64 (l32.getD 4 undef)).bind fun n37 =>
(asI .i64 (l32.getD 5 undef)).bind fun n38 =>
some (.tuple #[.agg #[.int .i64 n33, .int .i64 n34, .int .i64 n35, .slice q36.1 q36.2.1 q36.2.2, .int .i64 n37, .int .i64 n38], .int .i64 15], w31))
else
((callF Try.prog 45 #[.slice q30.1 q30.2.1 q30.2.2, .int .i64 u2] r27.2).bind fun r39 =>
(asB r39.1).bind fun b40 =>
if (!b40) = true then
((stL r39.2 (⟨w0.heap.size, 0, none⟩) [.int .i64 0, .int .i64 0, .int .i64 0, .slice none 0 0, .int .i64 0, .int .i64 0] 0).bind fun w41 =>
(ldN w41 (⟨w0.heap.size, 0, none⟩) 0 6).bind fun l42 =>
(asI .i64 (l42.getD 0 undef)).bind fun n43 =>
(asI .i64 (l42.getD 1 undef)).bind fun n44 =>
(asI .i64 (l42.getD 2 undef)).bind fun n45 =>
(asSl (l42.getD 3 undef)).bind fun q46 =>
(asI .i64 (l42.getD 4 undef)).bind fun n47 =>
(asI .i64 (l42.getD 5 undef)).bind fun n48 =>
some (.tuple #[.agg #[.int .i64 n43, .int .i64 n44, .int .i64 n45, .slice q46.1 q46.2.1 q46.2.2, .int .i64 n47, .int .i64 n48], .int .i64 15], w41))
else
((callF Try.prog 10 #[.slice q30.1 q30.2.1 q30.2.2, .int .i64 u4] r39.2).bind fun r49 =>
(asI .i64 r49.1).bind fun n50 =>
if ((n50 : Int) != u2) = true then
((stL r49.2 (⟨w0.heap.size, 0, none⟩) [.int .i64 0, .int .i64 0, .int .i64 0, .slice none 0 0, .int .i64 0, .int .i64 0] 0).bind fun w51 =>
(ldN w51 (⟨w0.heap.size, 0, none⟩) 0 6).bind fun l52 =>
(asI .i64 (l52.getD 0 undef)).bind fun n53 =>
(asI .i64 (l52.getD 1 undef)).bind fun n54 =>
(asI .i64 (l52.getD 2 undef)).bind fun n55 =>
(asSl (l52.getD 3 undef)).bind fun q56 =>
(asI .i64 (l52.getD 4 undef)).bind fun n57 =>
(asI .i64 (l52.getD 5 undef)).bind fun n58 =>
some (.tuple #[.agg #[.int .i64 n53, .int .i64 n54, .int .i64 n55, .slice q56.1 q56.2.1 q56.2.2, .int .i64 n57, .int .i64 n58], .int .i64 15], w51))
else
((ldN r49.2 (⟨(World.alloc w0 (.cells #[.int .i64 0, .int .i64 0, .int .i64 0, .slice none 0 0, .int .i64 0, .int .i64 0] 27)).heap.size, 0, none⟩) 0 6).bind fun l59 =>
(asI .i64 (l59.getD 0 undef)).bind fun n60 =>
(asI .i64 (l59.getD 1 undef)).bind fun n61 =>
(asI .i64 (l59.getD 2 undef)).bind fun n62 =>
(asSl (l59.getD 3 undef)).bind fun q63 =>
(asI .i64 (l59.getD 4 undef)).bind fun n64 =>
(asI .i64 (l59.getD 5 undef)).bind fun n65 =>
(stL r49.2 (⟨w0.heap.size, 0, none⟩) [.int .i64 n60, .int .i64 n61, .int .i64 n62, .slice q63.1 q63.2.1 q63.2.2, .int .i64 n64, .int .i64 n65] 0).bind fun w66 =>
(ldN w66 (⟨w0.heap.size, 0, none⟩) 0 6).bind fun l67 =>
(asI .i64 (l67.getD 0 undef)).bind fun n68 =>
(asI .i64 (l67.getD 1 undef)).bind fun n69 =>
(asI .i64 (l67.getD 2 undef)).bind fun n70 =>
(asSl (l67.getD 3 undef)).bind fun q71 =>
(asI .i64 (l67.getD 4 undef)).bind fun n72 =>
(asI .i64 (l67.getD 5 undef)).bind fun n73 =>
some (.tuple #[.agg #[.int .i64 n68, .int .i64 n69, .int .i64 n70, .slice q71.1 q71.2.1 q71.2.2, .int .i64 n72, .int .i64 n73], .int .i64 0], w66))))))

theorem g26_eq (u0 : Option Addr) (u1 : Int) (u2 : Int) (u3 : Int) (u4 : Int) (u5 : Int) (w0 : World) : evFn Try.prog 26 g26_ann #[.pointer u0, .int .i64 u1, .int .i64 u2, .int .i64 u3, .int .i64 u4, .int .i64 u5] w0 = g26 u0 u1 u2 u3 u4 u5 w0 := by kernel_rfl

theorem g26_call {u0 : Option Addr} {u1 : Int} {u2 : Int} {u3 : Int} {u4 : Int} {u5 : Int} {w0 : World} {r : Value × World} (h : g26 u0 u1 u2 u3 u4 u5 w0 = some r) : callF Try.prog 26 #[.pointer u0, .int .i64 u1, .int .i64 u2, .int .i64 u3, .int .i64 u4, .int .i64 u5] w0 = some r :=
  callF_of_evFn (ann := g26_ann) Try.call26 (by kernel_rfl) ((g26_eq u0 u1 u2 u3 u4 u5 w0).trans h)

/-! 27: (*penstock/group.State).Groups (s: *group.State) -/
def g27_ann : List (List Nat × List Nat) := []

noncomputable def g27 (u0 : Option Addr) (w0 : World) : Option (Value × World) :=
if (u0.isNone) = true then
(some (.slice none 0 0, w0))
else
(u0.bind fun a1 =>
(World.cell? w0 a1).bind fun v2 =>
(asM v2).bind fun m3 =>
(callF Try.prog 50 #[.map m3] w0).bind fun r4 =>
(callF Try.prog 49 #[r4.1] r4.2).bind fun r5 =>
(asSl r5.1).bind fun q6 =>
some (.slice q6.1 q6.2.1 q6.2.2, r5.2))

theorem g27_eq (u0 : Option Addr) (w0 : World) : evFn Try.prog 27 g27_ann #[.pointer u0] w0 = g27 u0 w0 := by kernel_rfl

theorem g27_call {u0 : Option Addr} {w0 : World} {r : Value × World} (h : g27 u0 w0 = some r) : callF Try.prog 27 #[.pointer u0] w0 = some r :=
  callF_of_evFn (ann := g27_ann) Try.call27 (by kernel_rfl) ((g27_eq u0 w0).trans h)

/-! 34: penstock/group.bad (r: api.GrRec) -/
def g34_ann : List (List Nat × List Nat) := [([0, 1, 0, 1, 1], [1, 50, 51, 2, 52])]

def g34_l23_cs (w0 : World) (q21 : Option Addr × Nat × Nat) : List (Nat × Value) := ([(1, .pointer (some (⟨w0.heap.size, 0, none⟩))), (50, .slice q21.1 q21.2.1 q21.2.2), (51, .int .i64 (q21.2.1 : Int))] : List (Nat × Value))

/-- the round of a loop (penstock/group.bad) -/
noncomputable def g34_l23_b (q21 : Option Addr × Nat × Nat) (w0 : World) (s24 : Bool × Int) (w25 : World) : Option (Exit × (Bool × Int) × World) :=
if (decide ((s24.2 : Int) < (q21.2.1 : Int))) = true then
((idxA q21.1 q21.2.1 1 s24.2).bind fun a26 =>
(World.cell? w25 a26).bind fun v27 =>
(asI .i64 v27).bind fun n28 =>
if (decide ((n28 : Int) < 0)) = true then
(some (.ret, (true, s24.2), w25))
else
(if (decide ((s24.2 : Int) > 0)) = true then
((World.cell? w25 (Addr.add (⟨w0.heap.size, 0, none⟩) 3)).bind fun v29 =>
(asSl v29).bind fun q30 =>
(idxA q30.1 q30.2.1 1 (IntKind.i64.wrap (s24.2 - 1))).bind fun a31 =>
(World.cell? w25 a31).bind fun v32 =>
(asI .i64 v32).bind fun n33 =>
if (decide ((n33 : Int) ≥ n28)) = true then
(some (.ret, (true, s24.2), w25))
else
(some (.normal, (s24.1, (IntKind.i64.wrap (s24.2 + 1))), w25)))
else
(some (.normal, (s24.1, (IntKind.i64.wrap (s24.2 + 1))), w25))))
else
(some ((.exit 0), (s24.1, s24.2), w25))

noncomputable def g34_K34  : Exit → Env → World → Option (Value × World) :=
  retK Try.prog Try.f34.results.toList

noncomputable def g34_K35  : Exit → Env → World → Option (Value × World) :=
  seqK (ev Try.prog 74 34 g34_ann (cAt [1, 1, 1] (bodyOf Try.f34)) [1, 1, 1] g34_K34) g34_K34

noncomputable def g34_K36  : Exit → Env → World → Option (Value × World) :=
  blkK 0 g34_K35

/-- the loop, from a state on -/
noncomputable def g34_l23 (w0 : World) (q21 : Option Addr × Nat × Nat) (s : Bool × Int) (w : World) : Option (Value × World) :=
  loopM Try.prog 74 34 g34_ann (cAt [1, 1, 0, 1, 0, 0] (bodyOf Try.f34)) [0, 1, 0, 1, 1] g34_K36 ((g34_l23_cs w0 q21) ++ sputs [(2, .b), (52, .i .i64)] s) w

/-- behind the loop, left by x0 -/
noncomputable def g34_l23_x0  (t37 : Bool × Int) (w38 : World) : Option (Value × World) :=
some (.bool false, w38)

/-- behind the loop, left by ret -/
noncomputable def g34_l23_ret  (t39 : Bool × Int) (w40 : World) : Option (Value × World) :=
some (.bool t39.1, w40)

noncomputable def g34 (u0c0 : Int) (u0c1 : Int) (u0c2 : Int) (u0c3 : Option Addr × Nat × Nat) (u0c4 : Int) (u0c5 : Int) (w0 : World) : Option (Value × World) :=
(World.cell? (World.alloc w0 (.cells #[.int .i64 u0c0, .int .i64 u0c1, .int .i64 u0c2, .slice u0c3.1 u0c3.2.1 u0c3.2.2, .int .i64 u0c4, .int .i64 u0c5] 27)) (⟨w0.heap.size, 0, none⟩)).bind fun v1 =>
(asI .i64 v1).bind fun n2 =>
if (decide ((n2 : Int) < 1)) = true then
(some (.bool true, (World.alloc w0 (.cells #[.int .i64 u0c0, .int .i64 u0c1, .int .i64 u0c2, .slice u0c3.1 u0c3.2.1 u0c3.2.2, .int .i64 u0c4, .int .i64 u0c5] 27))))
else
((World.cell? (World.alloc w0 (.cells #[.int .i64 u0c0, .int .i64 u0c1, .int .i64 u0c2, .slice u0c3.1 u0c3.2.1 u0c3.2.2, .int .i64 u0c4, .int .i64 u0c5] 27)) (⟨w0.heap.size, 0, none⟩)).bind fun v3 =>
(asI .i64 v3).bind fun n4 =>
if (decide ((n4 : Int) > 2)) = true then
(some (.bool true, (World.alloc w0 (.cells #[.int .i64 u0c0, .int .i64 u0c1, .int .i64 u0c2, .slice u0c3.1 u0c3.2.1 u0c3.2.2, .int .i64 u0c4, .int .i64 u0c5] 27))))
else
((World.cell? (World.alloc w0 (.cells #[.int .i64 u0c0, .int .i64 u0c1, .int .i64 u0c2, .slice u0c3.1 u0c3.2.1 u0c3.2.2, .int .i64 u0c4, .int .i64 u0c5] 27)) (Addr.add (⟨w0.heap.size, 0, none⟩) 1)).bind fun v5 =>
(asI .i64 v5).bind fun n6 =>
if (decide ((n6 : Int) < 0)) = true then
(some (.bool true, (World.alloc w0 (.cells #[.int .i64 u0c0, .int .i64 u0c1, .int .i64 u0c2, .slice u0c3.1 u0c3.2.1 u0c3.2.2, .int .i64 u0c4, .int .i64 u0c5] 27))))
else
((World.cell? (World.alloc w0 (.cells #[.int .i64 u0c0, .int .i64 u0c1, .int .i64 u0c2, .slice u0c3.1 u0c3.2.1 u0c3.2.2, .int .i64 u0c4, .int .i64 u0c5] 27)) (Addr.add (⟨w0.heap.size, 0, none⟩) 1)).bind fun v7 =>
(asI .i64 v7).bind fun n8 =>
if (decide ((n8 : Int) ≥ 8)) = true then
(some (.bool true, (World.alloc w0 (.cells #[.int .i64 u0c0, .int .i64 u0c1, .int .i64 u0c2, .slice u0c3.1 u0c3.2.1 u0c3.2.2, .int .i64 u0c4, .int .i64 u0c5] 27))))
else
((World.cell? (World.alloc w0 (.cells #[.int .i64 u0c0, .int .i64 u0c1, .int .i64 u0c2, .slice u0c3.1 u0c3.2.1 u0c3.2.2, .int .i64 u0c4, .int .i64 u0c5] 27)) (Addr.add (⟨w0.heap.size, 0, none⟩) 2)).bind fun v9 =>
(asI .i64 v9).bind fun n10 =>
if (decide ((n10 : Int) < 0)) = true then
(some (.bool true, (World.alloc w0 (.cells #[.int .i64 u0c0, .int .i64 u0c1, .int .i64 u0c2, .slice u0c3.1 u0c3.2.1 u0c3.2.2, .int .i64 u0c4, .int .i64 u0c5] 27))))
else
((World.cell? (World.alloc w0 (.cells #[.int .i64 u0c0, .int .i64 u0c1, .int .i64 u0c2, .slice u0c3.1 u0c3.2.1 u0c3.2.2, .int .i64 u0c4, .int .i64 u0c5] 27)) (Addr.add (⟨w0.heap.size, 0, none⟩) 3)).bind fun v11 =>
(asSl v11).bind fun q12 =>
if (decide (((q12.2.1 : Int) : Int) > 8)) = true then
(some (.bool true, (World.alloc w0 (.cells #[.int .i64 u0c0, .int .i64 u0c1, .int .i64 u0c2, .slice u0c3.1 u0c3.2.1 u0c3.2.2, .int .i64 u0c4, .int .i64 u0c5] 27))))
else
((World.cell? (World.alloc w0 (.cells #[.int .i64 u0c0, .int .i64 u0c1, .int .i64 u0c2, .slice u0c3.1 u0c3.2.1 u0c3.2.2, .int .i64 u0c4, .int .i64 u0c5] 27)) (Addr.add (⟨w0.heap.size, 0, none⟩) 5)).bind fun v14 =>
(asI .i64 v14).bind fun n15 =>
if (decide ((n15 : Int) < 0)) = true then
(some (.bool true, (World.alloc w0 (.cells #[.int .i64 u0c0, .int .i64 u0c1, .int .i64 u0c2, .slice u0c3.1 u0c3.2.1 u0c3.2.2, .int .i64 u0c4, .int .i64 u0c5] 27))))
else
((World.cell? (World.alloc w0 (.cells #[.int .i64 u0c0, .int .i64 u0c1, .int .i64 u0c2, .slice u0c3.1 u0c3.2.1 u0c3.2.2, .int .i64 u0c4, .int .i64 u0c5] 27)) (Addr.add (⟨w0.heap.size, 0, none⟩) 4)).bind fun v16 =>
(asI .i64 v16).bind fun n17 =>
if (decide ((n17 : Int) < 0)) = true then
(some (.bool true, (World.alloc w0 (.cells #[.int .i64 u0c0, .int .i64 u0c1, .int .i64 u0c2, .slice u0c3.1 u0c3.2.1 u0c3.2.2, .int .i64 u0c4, .int .i64 u0c5] 27))))
else
((World.cell? (World.alloc w0 (.cells #[.int .i64 u0c0, .int .i64 u0c1, .int .i64 u0c2, .slice u0c3.1 u0c3.2.1 u0c3.2.2, .int .i64 u0c4, .int .i64 u0c5] 27)) (Addr.add (⟨w0.heap.size, 0, none⟩) 4)).bind fun v18 =>
(asI .i64 v18).bind fun n19 =>
if (decide ((n19 : Int) ≥ 4)) = true then
(some (.bool true, (World.alloc w0 (.cells #[.int .i64 u0c0, .int .i64 u0c1, .int .i64 u0c2, .slice u0c3.1 u0c3.2.1 u0c3.2.2, .int .i64 u0c4, .int .i64 u0c5] 27))))
else
((World.cell? (World.alloc w0 (.cells #[.int .i64 u0c0, .int .i64 u0c1, .int .i64 u0c2, .slice u0c3.1 u0c3.2.1 u0c3.2.2, .int .i64 u0c4, .int .i64 u0c5] 27)) (Addr.add (⟨w0.heap.size, 0, none⟩) 3)).bind fun v20 =>
(asSl v20).bind fun q21 =>
g34_l23 w0 q21 (false, 0) (World.alloc w0 (.cells #[.int .i64 u0c0, .int .i64 u0c1, .int .i64 u0c2, .slice u0c3.1 u0c3.2.1 u0c3.2.2, .int .i64 u0c4, .int .i64 u0c5] 27)))))))))))

theorem g34_eq (u0c0 : Int) (u0c1 : Int) (u0c2 : Int) (u0c3 : Option Addr × Nat × Nat) (u0c4 : Int) (u0c5 : Int) (w0 : World) : evFn Try.prog 34 g34_ann #[.agg #[.int .i64 u0c0, .int .i64 u0c1, .int .i64 u0c2, .slice u0c3.1 u0c3.2.1 u0c3.2.2, .int .i64 u0c4, .int .i64 u0c5]] w0 = g34 u0c0 u0c1 u0c2 u0c3 u0c4 u0c5 w0 := by kernel_rfl

theorem g34_call {u0c0 : Int} {u0c1 : Int} {u0c2 : Int} {u0c3 : Option Addr × Nat × Nat} {u0c4 : Int} {u0c5 : Int} {w0 : World} {r : Value × World} (h : g34 u0c0 u0c1 u0c2 u0c3 u0c4 u0c5 w0 = some r) : callF Try.prog 34 #[.agg #[.int .i64 u0c0, .int .i64 u0c1, .int .i64 u0c2, .slice u0c3.1 u0c3.2.1 u0c3.2.2, .int .i64 u0c4, .int .i64 u0c5]] w0 = some r :=
  callF_of_evFn (ann := g34_ann) Try.call34 (by kernel_rfl) ((g34_eq u0c0 u0c1 u0c2 u0c3 u0c4 u0c5 w0).trans h)

theorem g34_l23_x0_of {w0 : World} {q21 : Option Addr × Nat × Nat} {s t : Bool × Int} {w w' : World} (h : loopS (g34_l23_b q21 w0) s w = some (.exit 0, t, w')) : g34_l23 w0 q21 s w = g34_l23_x0 t w' := by
  have h1 : g34_l23 w0 q21 s w = loopM Try.prog 74 34 g34_ann (cAt [1, 1, 0, 1, 0, 0] (bodyOf Try.f34)) [0, 1, 0, 1, 1] g34_K36 ((g34_l23_cs w0 q21) ++ sputs [(2, .b), (52, .i .i64)] s) w := by kernel_rfl
  have h2 : loopM Try.prog 74 34 g34_ann (cAt [1, 1, 0, 1, 0, 0] (bodyOf Try.f34)) [0, 1, 0, 1, 1] g34_K36 ((g34_l23_cs w0 q21) ++ sputs [(2, .b), (52, .i .i64)] s) w = g34_K36 (.exit 0) (puts 74 ((g34_l23_cs w0 q21) ++ sputs [(2, .b), (52, .i .i64)] t)) w' :=
    loop_rule (P := Try.prog) (N := 74) (f := 34) (ann := g34_ann) (body := (cAt [1, 1, 0, 1, 0, 0] (bodyOf Try.f34))) (pt := [0, 1, 0, 1, 1]) (K := g34_K36) (g34_l23_cs w0 q21) [(2, .b), (52, .i .i64)] (b := g34_l23_b q21 w0) (fun s w => by kernel_rfl) (by kernel_rfl) (by kernel_rfl) (by kernel_rfl) h
  have h3 : g34_K36 (.exit 0) (puts 74 ((g34_l23_cs w0 q21) ++ sputs [(2, .b), (52, .i .i64)] t)) w' = g34_l23_x0 t w' := by kernel_rfl
  exact h1.trans (h2.trans h3)

theorem g34_l23_ret_of {w0 : World} {q21 : Option Addr × Nat × Nat} {s t : Bool × Int} {w w' : World} (h : loopS (g34_l23_b q21 w0) s w = some (.ret, t, w')) : g34_l23 w0 q21 s w = g34_l23_ret t w' := by
  have h1 : g34_l23 w0 q21 s w = loopM Try.prog 74 34 g34_ann (cAt [1, 1, 0, 1, 0, 0] (bodyOf Try.f34)) [0, 1, 0, 1, 1] g34_K36 ((g34_l23_cs w0 q21) ++ sputs [(2, .b), (52, .i .i64)] s) w := by kernel_rfl
  have h2 : loopM Try.prog 74 34 g34_ann (cAt [1, 1, 0, 1, 0, 0] (bodyOf Try.f34)) [0, 1, 0, 1, 1] g34_K36 ((g34_l23_cs w0 q21) ++ sputs [(2, .b), (52, .i .i64)] s) w = g34_K36 (.ret) (puts 74 ((g34_l23_cs w0 q21) ++ sputs [(2, .b), (52, .i .i64)] t)) w' :=
    loop_rule (P := Try.prog) (N := 74) (f := 34) (ann := g34_ann) (body := (cAt [1, 1, 0, 1, 0, 0] (bodyOf Try.f34))) (pt := [0, 1, 0, 1, 1]) (K := g34_K36) (g34_l23_cs w0 q21) [(2, .b), (52, .i .i64)] (b := g34_l23_b q21 w0) (fun s w => by kernel_rfl) (by kernel_rfl) (by kernel_rfl) (by kernel_rfl) h
  have h3 : g34_K36 (.ret) (puts 74 ((g34_l23_cs w0 q21) ++ sputs [(2, .b), (52, .i .i64)] t)) w' = g34_l23_ret t w' := by kernel_rfl
  exact h1.trans (h2.trans h3)

/-! 43: (*penstock/group.State).do (s: *group.State, r: api.GrRec) -/
def g43_ann : List (List Nat × List Nat) := []

noncomputable def g43_j27 (p4 : Option Addr) (r3 : Value × World) (x30 : Int) (x31 : Option Addr × Nat × Nat) (w32 : World) : Option (Value × World) :=
p4.bind fun a33 =>
(st1 w32 a33 (.int .i64 x30)).bind fun w36 =>
p4.bind fun a38 =>
(st1 w36 (Addr.add a38 1) (.slice x31.1 x31.2.1 x31.2.2)).bind fun w41 =>
some (.tuple #[], w41)

noncomputable def g43 (u0 : Option Addr) (u1c0 : Int) (u1c1 : Int) (u1c2 : Int) (u1c3 : Option Addr × Nat × Nat) (u1c4 : Int) (u1c5 : Int) (w0 : World) : Option (Value × World) :=
(World.cell? (World.alloc w0 (.cells #[.int .i64 u1c0, .int .i64 u1c1, .int .i64 u1c2, .slice u1c3.1 u1c3.2.1 u1c3.2.2, .int .i64 u1c4, .int .i64 u1c5] 27)) (Addr.add (⟨w0.heap.size, 0, none⟩) 1)).bind fun v1 =>
(asI .i64 v1).bind fun n2 =>
(callF Try.prog 59 #[.pointer u0, .int .i64 n2] (World.alloc w0 (.cells #[.int .i64 u1c0, .int .i64 u1c1, .int .i64 u1c2, .slice u1c3.1 u1c3.2.1 u1c3.2.2, .int .i64 u1c4, .int .i64 u1c5] 27))).bind fun r3 =>
(asP r3.1).bind fun p4 =>
(World.cell? r3.2 (⟨w0.heap.size, 0, none⟩)).bind fun v5 =>
(asI .i64 v5).bind fun n6 =>
if ((n6 : Int) == 1) = true then
((World.cell? (World.drew r3.2) (Addr.add (⟨w0.heap.size, 0, none⟩) 2)).bind fun v7 =>
(asI .i64 v7).bind fun n8 =>
p4.bind fun a9 =>
(World.cell? (World.drew r3.2) a9).bind fun v10 =>
(asI .i64 v10).bind fun n11 =>
if (decide ((n8 : Int) > n11)) = true then
((World.cell? (World.drew (World.drew r3.2)) (Addr.add (⟨w0.heap.size, 0, none⟩) 3)).bind fun v16 =>
(asSl v16).bind fun q17 =>
if (ahd (Region.schedule true (opsOf (cAt [1, 1, 0, 1, 0, 0, 1, 0] (bodyOf Try.f43))) (World.tape (World.drew r3.2) (World.drawn (World.drew r3.2)) (.order 43 4))) 3 6 && true) = true then
((World.cell? (World.drew (World.drew r3.2)) (Addr.add (⟨w0.heap.size, 0, none⟩) 2)).bind fun v19 =>
(asI .i64 v19).bind fun n20 =>
(callF Try.prog 44 #[.slice q17.1 q17.2.1 q17.2.2] (World.drew (World.drew r3.2))).bind fun r25 =>
(asSl r25.1).bind fun q26 =>
g43_j27 p4 r3 n20 (q26.1, q26.2.1, q26.2.2) r25.2)
else
((callF Try.prog 44 #[.slice q17.1 q17.2.1 q17.2.2] (World.drew (World.drew r3.2))).bind fun r22 =>
(asSl r22.1).bind fun q23 =>
(World.cell? r22.2 (Addr.add (⟨w0.heap.size, 0, none⟩) 2)).bind fun v28 =>
(asI .i64 v28).bind fun n29 =>
g43_j27 p4 r3 n29 (q23.1, q23.2.1, q23.2.2) r22.2))
else
(some (.tuple #[], (World.drew r3.2))))
else
(p4.bind fun a43 =>
(World.cell? (World.drew r3.2) (Addr.add a43 2)).bind fun v44 =>
(asM v44).bind fun m45 =>
(World.cell? (World.drew r3.2) (Addr.add (⟨w0.heap.size, 0, none⟩) 4)).bind fun v46 =>
(asI .i64 v46).bind fun n47 =>
p4.bind fun a48 =>
(World.cell? (World.drew r3.2) (Addr.add a48 2)).bind fun v49 =>
(asM v49).bind fun m50 =>
(World.cell? (World.drew r3.2) (Addr.add (⟨w0.heap.size, 0, none⟩) 4)).bind fun v51 =>
(asI .i64 v51).bind fun n52 =>
(mLook (.int .i64) (World.drew r3.2) m50 (.int .i64 n52)).bind fun o53 =>
(asI .i64 (o53.getD (.int .i64 0))).bind fun n54 =>
(World.cell? (World.drew r3.2) (Addr.add (⟨w0.heap.size, 0, none⟩) 5)).bind fun v55 =>
(asI .i64 v55).bind fun n56 =>
(mUpd (.int .i64) (World.drew r3.2) m45 (.int .i64 n47) (.int .i64 (if (n56 : Int) > n54 then n56 else n54))).bind fun w58 =>
some (.tuple #[], w58))

theorem g43_eq (u0 : Option Addr) (u1c0 : Int) (u1c1 : Int) (u1c2 : Int) (u1c3 : Option Addr × Nat × Nat) (u1c4 : Int) (u1c5 : Int) (w0 : World) : evFn Try.prog 43 g43_ann #[.pointer u0, .agg #[.int .i64 u1c0, .int .i64 u1c1, .int .i64 u1c2, .slice u1c3.1 u1c3.2.1 u1c3.2.2, .int .i64 u1c4, .int .i64 u1c5]] w0 = g43 u0 u1c0 u1c1 u1c2 u1c3 u1c4 u1c5 w0 := by kernel_rfl

theorem g43_call {u0 : Option Addr} {u1c0 : Int} {u1c1 : Int} {u1c2 : Int} {u1c3 : Option Addr × Nat × Nat} {u1c4 : Int} {u1c5 : Int} {w0 : World} {r : Value × World} (h : g43 u0 u1c0 u1c1 u1c2 u1c3 u1c4 u1c5 w0 = some r) : callF Try.prog 43 #[.pointer u0, .agg #[.int .i64 u1c0, .int .i64 u1c1, .int .i64 u1c2, .slice u1c3.1 u1c3.2.1 u1c3.2.2, .int .i64 u1c4, .int .i64 u1c5]] w0 = some r :=
  callF_of_evFn (ann := g43_ann) Try.call43 (by kernel_rfl) ((g43_eq u0 u1c0 u1c1 u1c2 u1c3 u1c4 u1c5 w0).trans h)

/-! 44: slices.Clone[[]int,int] (s: []int) -/
def g44_ann : List (List Nat × List Nat) := []

noncomputable def g44 (u0 : Option Addr × Nat × Nat) (w0 : World) : Option (Value × World) :=
if (u0.1.isNone) = true then
(some (.slice none 0 0, w0))
else
((callB Try.prog .append #[22, 22] 22 #[false, false] #[.slice (some (⟨w0.heap.size, 0, none⟩)) 0 0, .slice u0.1 u0.2.1 u0.2.2] (World.alloc w0 (.cells #[] 3))).bind fun r1 =>
(asSl r1.1).bind fun q2 =>
some (.slice q2.1 q2.2.1 q2.2.2, r1.2))

theorem g44_eq (u0 : Option Addr × Nat × Nat) (w0 : World) : evFn Try.prog 44 g44_ann #[.slice u0.1 u0.2.1 u0.2.2] w0 = g44 u0 w0 := by kernel_rfl

theorem g44_call {u0 : Option Addr × Nat × Nat} {w0 : World} {r : Value × World} (h : g44 u0 w0 = some r) : callF Try.prog 44 #[.slice u0.1 u0.2.1 u0.2.2] w0 = some r :=
  callF_of_evFn (ann := g44_ann) Try.call44 (by kernel_rfl) ((g44_eq u0 w0).trans h)

/-! 45: slices.Contains[[]int,int] (s: []int, v: int) -/
def g45_ann : List (List Nat × List Nat) := []

noncomputable def g45 (u0 : Option Addr × Nat × Nat) (u1 : Int) (w0 : World) : Option (Value × World) :=
(callF Try.prog 60 #[.slice u0.1 u0.2.1 u0.2.2, .int .i64 u1] w0).bind fun r1 =>
(asI .i64 r1.1).bind fun n2 =>
some (.bool (decide ((n2 : Int) ≥ 0)), r1.2)

theorem g45_eq (u0 : Option Addr × Nat × Nat) (u1 : Int) (w0 : World) : evFn Try.prog 45 g45_ann #[.slice u0.1 u0.2.1 u0.2.2, .int .i64 u1] w0 = g45 u0 u1 w0 := by kernel_rfl

theorem g45_call {u0 : Option Addr × Nat × Nat} {u1 : Int} {w0 : World} {r : Value × World} (h : g45 u0 u1 w0 = some r) : callF Try.prog 45 #[.slice u0.1 u0.2.1 u0.2.2, .int .i64 u1] w0 = some r :=
  callF_of_evFn (ann := g45_ann) Try.call45 (by kernel_rfl) ((g45_eq u0 u1 w0).trans h)

/-! 48: (*penstock/group.State).Join$1 (m: int) -/
def g48_ann : List (List Nat × List Nat) := []

noncomputable def g48 (u0 : Int) (u1 : Addr) (w0 : World) : Option (Value × World) :=
(World.cell? w0 u1).bind fun v1 =>
(asI .i64 v1).bind fun n2 =>
some (.bool ((u0 : Int) == n2), w0)

theorem g48_eq (u0 : Int) (u1 : Addr) (w0 : World) : evFn Try.prog 48 g48_ann #[.int .i64 u0, .pointer (some u1)] w0 = g48 u0 u1 w0 := by kernel_rfl

theorem g48_call {u0 : Int} {u1 : Addr} {w0 : World} {r : Value × World} (h : g48 u0 u1 w0 = some r) : callF Try.prog 48 #[.int .i64 u0, .pointer (some u1)] w0 = some r :=
  callF_of_evFn (ann := g48_ann) Try.call48 (by kernel_rfl) ((g48_eq u0 u1 w0).trans h)

/-! 59: (*penstock/group.State).team (s: *group.State, n: int) -/
def g59_ann : List (List Nat × List Nat) := []

noncomputable def g59 (u0 : Option Addr) (u1 : Int) (w0 : World) : Option (Value × World) :=
u0.bind fun a1 =>
(World.cell? w0 a1).bind fun v2 =>
(asM v2).bind fun m3 =>
(mLook (.int .i64) w0 m3 (.int .i64 u1)).bind fun o4 =>
(asP (o4.getD (.pointer none))).bind fun p5 =>
if (p5.isNone) = true then
(u0.bind fun a6 =>
(World.cell? (World.alloc (World.alloc w0 (.map #[] 0)) (.cells #[.int .i64 0, .slice none 0 0, .map (some w0.heap.size)] 92)) a6).bind fun v7 =>
(asM v7).bind fun m8 =>
(mUpd (.int .i64) (World.alloc (World.alloc w0 (.map #[] 0)) (.cells #[.int .i64 0, .slice none 0 0, .map (some w0.heap.size)] 92)) m8 (.int .i64 u1) (.pointer (some (⟨(World.alloc w0 (.map #[] 0)).heap.size, 0, none⟩)))).bind fun w9 =>
some (.pointer (some (⟨(World.alloc w0 (.map #[] 0)).heap.size, 0, none⟩)), w9))
else
(some (.pointer p5, w0))

theorem g59_eq (u0 : Option Addr) (u1 : Int) (w0 : World) : evFn Try.prog 59 g59_ann #[.pointer u0, .int .i64 u1] w0 = g59 u0 u1 w0 := by kernel_rfl

theorem g59_call {u0 : Option Addr} {u1 : Int} {w0 : World} {r : Value × World} (h : g59 u0 u1 w0 = some r) : callF Try.prog 59 #[.pointer u0, .int .i64 u1] w0 = some r :=
  callF_of_evFn (ann := g59_ann) Try.call59 (by kernel_rfl) ((g59_eq u0 u1 w0).trans h)

/-! 60: slices.Index[[]int,int] (s: []int, v: int) -/
def g60_ann : List (List Nat × List Nat) := [([0, 1, 0, 1], [0, 1, 7, 4, 8])]

def g60_l2_cs (u0 : Option Addr × Nat × Nat) (u1 : Int) : List (Nat × Value) := ([(0, .slice u0.1 u0.2.1 u0.2.2), (1, .int .i64 u1), (7, .int .i64 (u0.2.1 : Int))] : List (Nat × Value))

/-- the round of a loop (slices.Index[[]int,int]) -/
noncomputable def g60_l2_b (u0 : Option Addr × Nat × Nat) (u1 : Int) (s3 : Int × Int) (w4 : World) : Option (Exit × (Int × Int) × World) :=
if (decide ((s3.2 : Int) < (u0.2.1 : Int))) = true then
((idxA u0.1 u0.2.1 1 s3.2).bind fun a5 =>
(World.cell? w4 a5).bind fun v6 =>
(asI .i64 v6).bind fun n7 =>
if ((u1 : Int) == n7) = true then
(some (.ret, (s3.2, s3.2), w4))
else
(some (.normal, (s3.1, (IntKind.i64.wrap (s3.2 + 1))), w4)))
else
(some ((.exit 0), (s3.1, s3.2), w4))

noncomputable def g60_K8  : Exit → Env → World → Option (Value × World) :=
  retK Try.prog Try.f60.results.toList

noncomputable def g60_K9  : Exit → Env → World → Option (Value × World) :=
  seqK (ev Try.prog 19 60 g60_ann (cAt [1, 1] (bodyOf Try.f60)) [1, 1] g60_K8) g60_K8

noncomputable def g60_K10  : Exit → Env → World → Option (Value × World) :=
  blkK 0 g60_K9

/-- the loop, from a state on -/
noncomputable def g60_l2 (u0 : Option Addr × Nat × Nat) (u1 : Int) (s : Int × Int) (w : World) : Option (Value × World) :=
  loopM Try.prog 19 60 g60_ann (cAt [1, 0, 1, 0, 0] (bodyOf Try.f60)) [0, 1, 0, 1] g60_K10 ((g60_l2_cs u0 u1) ++ sputs [(4, .i .i64), (8, .i .i64)] s) w

/-- behind the loop, left by x0 -/
noncomputable def g60_l2_x0  (t11 : Int × Int) (w12 : World) : Option (Value × World) :=
some (.int .i64 (-1), w12)

/-- behind the loop, left by ret -/
noncomputable def g60_l2_ret  (t13 : Int × Int) (w14 : World) : Option (Value × World) :=
some (.int .i64 t13.1, w14)

noncomputable def g60 (u0 : Option Addr × Nat × Nat) (u1 : Int) (w0 : World) : Option (Value × World) :=
g60_l2 u0 u1 (0, 0) w0

theorem g60_eq (u0 : Option Addr × Nat × Nat) (u1 : Int) (w0 : World) : evFn Try.prog 60 g60_ann #[.slice u0.1 u0.2.1 u0.2.2, .int .i64 u1] w0 = g60 u0 u1 w0 := by kernel_rfl

theorem g60_call {u0 : Option Addr × Nat × Nat} {u1 : Int} {w0 : World} {r : Value × World} (h : g60 u0 u1 w0 = some r) : callF Try.prog 60 #[.slice u0.1 u0.2.1 u0.2.2, .int .i64 u1] w0 = some r :=
  callF_of_evFn (ann := g60_ann) Try.call60 (by kernel_rfl) ((g60_eq u0 u1 w0).trans h)

theorem g60_l2_x0_of {u0 : Option Addr × Nat × Nat} {u1 : Int} {s t : Int × Int} {w w' : World} (h : loopS (g60_l2_b u0 u1) s w = some (.exit 0, t, w')) : g60_l2 u0 u1 s w = g60_l2_x0 t w' := by
  have h1 : g60_l2 u0 u1 s w = loopM Try.prog 19 60 g60_ann (cAt [1, 0, 1, 0, 0] (bodyOf Try.f60)) [0, 1, 0, 1] g60_K10 ((g60_l2_cs u0 u1) ++ sputs [(4, .i .i64), (8, .i .i64)] s) w := by kernel_rfl
  have h2 : loopM Try.prog 19 60 g60_ann (cAt [1, 0, 1, 0, 0] (bodyOf Try.f60)) [0, 1, 0, 1] g60_K10 ((g60_l2_cs u0 u1) ++ sputs [(4, .i .i64), (8, .i .i64)] s) w = g60_K10 (.exit 0) (puts 19 ((g60_l2_cs u0 u1) ++ sputs [(4, .i .i64), (8, .i .i64)] t)) w' :=
    loop_rule (P := Try.prog) (N := 19) (f := 60) (ann := g60_ann) (body := (cAt [1, 0, 1, 0, 0] (bodyOf Try.f60))) (pt := [0, 1, 0, 1]) (K := g60_K10) (g60_l2_cs u0 u1) [(4, .i .i64), (8, .i .i64)] (b := g60_l2_b u0 u1) (fun s w => by kernel_rfl) (by kernel_rfl) (by kernel_rfl) (by kernel_rfl) h
  have h3 : g60_K10 (.exit 0) (puts 19 ((g60_l2_cs u0 u1) ++ sputs [(4, .i .i64), (8, .i .i64)] t)) w' = g60_l2_x0 t w' := by kernel_rfl
  exact h1.trans (h2.trans h3)

theorem g60_l2_ret_of {u0 : Option Addr × Nat × Nat} {u1 : Int} {s t : Int × Int} {w w' : World} (h : loopS (g60_l2_b u0 u1) s w = some (.ret, t, w')) : g60_l2 u0 u1 s w = g60_l2_ret t w' := by
  have h1 : g60_l2 u0 u1 s w = loopM Try.prog 19 60 g60_ann (cAt [1, 0, 1, 0, 0] (bodyOf Try.f60)) [0, 1, 0, 1] g60_K10 ((g60_l2_cs u0 u1) ++ sputs [(4, .i .i64), (8, .i .i64)] s) w := by kernel_rfl
  have h2 : loopM Try.prog 19 60 g60_ann (cAt [1, 0, 1, 0, 0] (bodyOf Try.f60)) [0, 1, 0, 1] g60_K10 ((g60_l2_cs u0 u1) ++ sputs [(4, .i .i64), (8, .i .i64)] s) w = g60_K10 (.ret) (puts 19 ((g60_l2_cs u0 u1) ++ sputs [(4, .i .i64), (8, .i .i64)] t)) w' :=
    loop_rule (P := Try.prog) (N := 19) (f := 60) (ann := g60_ann) (body := (cAt [1, 0, 1, 0, 0] (bodyOf Try.f60))) (pt := [0, 1, 0, 1]) (K := g60_K10) (g60_l2_cs u0 u1) [(4, .i .i64), (8, .i .i64)] (b := g60_l2_b u0 u1) (fun s w => by kernel_rfl) (by kernel_rfl) (by kernel_rfl) (by kernel_rfl) h
  have h3 : g60_K10 (.ret) (puts 19 ((g60_l2_cs u0 u1) ++ sputs [(4, .i .i64), (8, .i .i64)] t)) w' = g60_l2_ret t w' := by kernel_rfl
  exact h1.trans (h2.trans h3)

end Go.Proofs.Ytcakijeoeankfaa
