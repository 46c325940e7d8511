/-
  ProdF0: lemmas on what Go functions of this seat come to (for whatever arguments, as each says). No condition but those that stand in each lemma.
-/
import Derived.Test.YtliakpomlkgpnaaLb8
import Derived.Test.YtliakpomlkgpnaaProg
namespace Go.Proofs.Ytliakpomlkgpnaa
open Go Go.Ev
set_option maxRecDepth 100000
set_option linter.unusedVariables false
/-! 8: penstock/penstocklaw09.awake () -/
def g8_ann : List (List Nat × List Nat) := []

noncomputable def g8  (w0 : World) : Option (Value × World) :=
(callF Try.prog 17 #[] w0).bind fun r1 =>
(asP r1.1).bind fun p2 =>
(stL (World.alloc (World.alloc r1.2 (.cells #[.slice none 0 0, .slice none 0 0] 61)) (.cells #[.int .i64 0, .int .i64 0, .int .u64 0, .int .i64 0, .int .i64 0, .bool false, .bool false, .bool false, .slice none 0 0] 30)) (⟨(World.alloc r1.2 (.cells #[.slice none 0 0, .slice none 0 0] 61)).heap.size, 0, none⟩) [.int .i64 4, .int .i64 0, .int .u64 7, .int .i64 0, .int .i64 0, .bool false, .bool false, .bool false, .slice (some (⟨r1.2.heap.size, 0, none⟩)) 2 2] 0).bind fun w3 =>
if (p2.isNone) = true then
(some (.bool false, w3))
else
((ldN w3 (⟨(World.alloc r1.2 (.cells #[.slice none 0 0, .slice none 0 0] 61)).heap.size, 0, none⟩) 0 9).bind fun l4 =>
(asI .i64 (l4.getD 0 undef)).bind fun n5 =>
(asI .i64 (l4.getD 1 undef)).bind fun n6 =>
(asI .u64 (l4.getD 2 undef)).bind fun n7 =>
(asI .i64 (l4.getD 3 undef)).bind fun n8 =>
(asI .i64 (l4.getD 4 undef)).bind fun n9 =>
(asB (l4.getD 5 undef)).bind fun b10 =>
(asB (l4.getD 6 undef)).bind fun b11 =>
(asB (l4.getD 7 undef)).bind fun b12 =>
(asSl (l4.getD 8 undef)).bind fun q13 =>
(callF Try.prog 14 #[.pointer p2, .agg #[.int .i64 n5, .int .i64 n6, .int .u64 n7, .int .i64 n8, .int .i64 n9, .bool b10, .bool b11, .bool b12, .slice q13.1 q13.2.1 q13.2.2]] w3).bind fun r14 =>
(asTup 0 r14.1).bind fun _ =>
(ldN r14.2 (⟨(World.alloc r1.2 (.cells #[.slice none 0 0, .slice none 0 0] 61)).heap.size, 0, none⟩) 0 9).bind fun l15 =>
(asI .i64 (l15.getD 0 undef)).bind fun n16 =>
(asI .i64 (l15.getD 1 undef)).bind fun n17 =>
(asI .u64 (l15.getD 2 undef)).bind fun n18 =>
(asI .i64 (l15.getD 3 undef)).bind fun n19 =>
(asI .i64 (l15.getD 4 undef)).bind fun n20 =>
(asB (l15.getD 5 undef)).bind fun b21 =>
(asB (l15.getD 6 undef)).bind fun b22 =>
(asB (l15.getD 7 undef)).bind fun b23 =>
(asSl (l15.getD 8 undef)).bind fun q24 =>
(callF Try.prog 11 #[.pointer p2, .agg #[.int .i64 n16, .int .i64 n17, .int .u64 n18, .int .i64 n19, .int .i64 n20, .bool b21, .bool b22, .bool b23, .slice q24.1 q24.2.1 q24.2.2]] r14.2).bind fun r25 =>
(asTup 3 r25.1).bind fun l26 =>
(asI .i64 (l26.getD 0 undef)).bind fun n27 =>
(asB (l26.getD 1 undef)).bind fun b28 =>
(asI .i64 (l26.getD 2 undef)).bind fun n29 =>
(st1 r25.2 (Addr.add (⟨(World.alloc r1.2 (.cells #[.slice none 0 0, .slice none 0 0] 61)).heap.size, 0, none⟩) 4) (.int .i64 2)).bind fun w30 =>
(ldN w30 (⟨(World.alloc r1.2 (.cells #[.slice none 0 0, .slice none 0 0] 61)).heap.size, 0, none⟩) 0 9).bind fun l31 =>
(asI .i64 (l31.getD 0 undef)).bind fun n32 =>
(asI .i64 (l31.getD 1 undef)).bind fun n33 =>
(asI .u64 (l31.getD 2 undef)).bind fun n34 =>
(asI .i64 (l31.getD 3 undef)).bind fun n35 =>
(asI .i64 (l31.getD 4 undef)).bind fun n36 =>
(asB (l31.getD 5 undef)).bind fun b37 =>
(asB (l31.getD 6 undef)).bind fun b38 =>
(asB (l31.getD 7 undef)).bind fun b39 =>
(asSl (l31.getD 8 undef)).bind fun q40 =>
(callF Try.prog 11 #[.pointer p2, .agg #[.int .i64 n32, .int .i64 n33, .int .u64 n34, .int .i64 n35, .int .i64 n36, .bool b37, .bool b38, .bool b39, .slice q40.1 q40.2.1 q40.2.2]] w30).bind fun r41 =>
(asTup 3 r41.1).bind fun l42 =>
(asI .i64 (l42.getD 0 undef)).bind fun n43 =>
(asB (l42.getD 1 undef)).bind fun b44 =>
(asI .i64 (l42.getD 2 undef)).bind fun n45 =>
(st1 r41.2 (Addr.add (⟨(World.alloc r1.2 (.cells #[.slice none 0 0, .slice none 0 0] 61)).heap.size, 0, none⟩) 4) (.int .i64 5)).bind fun w46 =>
(ldN w46 (⟨(World.alloc r1.2 (.cells #[.slice none 0 0, .slice none 0 0] 61)).heap.size, 0, none⟩) 0 9).bind fun l47 =>
(asI .i64 (l47.getD 0 undef)).bind fun n48 =>
(asI .i64 (l47.getD 1 undef)).bind fun n49 =>
(asI .u64 (l47.getD 2 undef)).bind fun n50 =>
(asI .i64 (l47.getD 3 undef)).bind fun n51 =>
(asI .i64 (l47.getD 4 undef)).bind fun n52 =>
(asB (l47.getD 5 undef)).bind fun b53 =>
(asB (l47.getD 6 undef)).bind fun b54 =>
(asB (l47.getD 7 undef)).bind fun b55 =>
(asSl (l47.getD 8 undef)).bind fun q56 =>
(callF Try.prog 11 #[.pointer p2, .agg #[.int .i64 n48, .int .i64 n49, .int .u64 n50, .int .i64 n51, .int .i64 n52, .bool b53, .bool b54, .bool b55, .slice q56.1 q56.2.1 q56.2.2]] w46).bind fun r57 =>
(asTup 3 r57.1).bind fun l58 =>
(asI .i64 (l58.getD 0 undef)).bind fun n59 =>
(asB (l58.getD 1 undef)).bind fun b60 =>
(asI .i64 (l58.getD 2 undef)).bind fun n61 =>
if ((n29 : Int) == 0) = true then
(if b28 = true then
(if ((n27 : Int) == 4) = true then
(if ((n45 : Int) == 0) = true then
(if (!b44) = true then
(some (.bool ((n61 : Int) == 11), r57.2))
else
(some (.bool false, r57.2)))
else
(some (.bool false, r57.2)))
else
(some (.bool false, r57.2)))
else
(some (.bool false, r57.2)))
else
(some (.bool false, r57.2)))

theorem g8_eq  (w0 : World) : evFn Try.prog 8 g8_ann #[] w0 = g8 w0 := by kernel_rfl

theorem g8_call  {w0 : World} {r : Value × World} (h : g8 w0 = some r) : callF Try.prog 8 #[] w0 = some r :=
  callF_of_evFn (ann := g8_ann) Try.call8 (by kernel_rfl) ((g8_eq  w0).trans h)

/-! 9: penstock/penstocklaw09.laid (l: []api.Batch) -/
def g9_ann : List (List Nat × List Nat) := [([0, 1, 0, 1, 1, 1, 1], [4, 13, 14, 5, 6, 15])]

def g9_l4_cs (p2 : Option Addr) (u0 : Option Addr × Nat × Nat) : List (Nat × Value) := ([(4, .pointer p2), (13, .slice u0.1 u0.2.1 u0.2.2), (14, .int .i64 (u0.2.1 : Int))] : List (Nat × Value))

/-- the round of a loop (penstock/penstocklaw09.laid) -/
noncomputable def g9_l4_b (u0 : Option Addr × Nat × Nat) (p2 : Option Addr) (s5 : (Option Addr × Nat × Nat) × Int × Int) (w6 : World) : Option (Exit × ((Option Addr × Nat × Nat) × Int × Int) × World) :=
if (decide ((s5.2.2 : Int) < (u0.2.1 : Int))) = true then
((idxA u0.1 u0.2.1 9 s5.2.2).bind fun a7 =>
(ldN w6 a7 0 9).bind fun l8 =>
(asI .i64 (l8.getD 0 undef)).bind fun n9 =>
(asI .i64 (l8.getD 1 undef)).bind fun n10 =>
(asI .u64 (l8.getD 2 undef)).bind fun n11 =>
(asI .i64 (l8.getD 3 undef)).bind fun n12 =>
(asI .i64 (l8.getD 4 undef)).bind fun n13 =>
(asB (l8.getD 5 undef)).bind fun b14 =>
(asB (l8.getD 6 undef)).bind fun b15 =>
(asB (l8.getD 7 undef)).bind fun b16 =>
(asSl (l8.getD 8 undef)).bind fun q17 =>
(stL (World.alloc w6 (.cells #[.int .i64 0, .int .i64 0, .int .u64 0, .int .i64 0, .int .i64 0, .bool false, .bool false, .bool false, .slice none 0 0] 30)) (⟨w6.heap.size, 0, none⟩) [.int .i64 n9, .int .i64 n10, .int .u64 n11, .int .i64 n12, .int .i64 n13, .bool b14, .bool b15, .bool b16, .slice q17.1 q17.2.1 q17.2.2] 0).bind fun w18 =>
(st1 w18 (⟨w6.heap.size, 0, none⟩) (.int .i64 s5.2.1)).bind fun w19 =>
(ldN w19 (⟨w6.heap.size, 0, none⟩) 0 9).bind fun l20 =>
(asI .i64 (l20.getD 0 undef)).bind fun n21 =>
(asI .i64 (l20.getD 1 undef)).bind fun n22 =>
(asI .u64 (l20.getD 2 undef)).bind fun n23 =>
(asI .i64 (l20.getD 3 undef)).bind fun n24 =>
(asI .i64 (l20.getD 4 undef)).bind fun n25 =>
(asB (l20.getD 5 undef)).bind fun b26 =>
(asB (l20.getD 6 undef)).bind fun b27 =>
(asB (l20.getD 7 undef)).bind fun b28 =>
(asSl (l20.getD 8 undef)).bind fun q29 =>
(callF Try.prog 11 #[.pointer p2, .agg #[.int .i64 n21, .int .i64 n22, .int .u64 n23, .int .i64 n24, .int .i64 n25, .bool b26, .bool b27, .bool b28, .slice q29.1 q29.2.1 q29.2.2]] w19).bind fun r30 =>
(asTup 3 r30.1).bind fun l31 =>
(asI .i64 (l31.getD 0 undef)).bind fun n32 =>
(asB (l31.getD 1 undef)).bind fun b33 =>
(asI .i64 (l31.getD 2 undef)).bind fun n34 =>
if ((n34 : Int) == 0) = true then
(if (!b33) = true then
((ldN r30.2 (⟨w6.heap.size, 0, none⟩) 0 9).bind fun l35 =>
(asI .i64 (l35.getD 0 undef)).bind fun n36 =>
(asI .i64 (l35.getD 1 undef)).bind fun n37 =>
(asI .u64 (l35.getD 2 undef)).bind fun n38 =>
(asI .i64 (l35.getD 3 undef)).bind fun n39 =>
(asI .i64 (l35.getD 4 undef)).bind fun n40 =>
(asB (l35.getD 5 undef)).bind fun b41 =>
(asB (l35.getD 6 undef)).bind fun b42 =>
(asB (l35.getD 7 undef)).bind fun b43 =>
(asSl (l35.getD 8 undef)).bind fun q44 =>
(callF Try.prog 14 #[.pointer p2, .agg #[.int .i64 n36, .int .i64 n37, .int .u64 n38, .int .i64 n39, .int .i64 n40, .bool b41, .bool b42, .bool b43, .slice q44.1 q44.2.1 q44.2.2]] r30.2).bind fun r45 =>
(asTup 0 r45.1).bind fun _ =>
(ldN r45.2 (⟨w6.heap.size, 0, none⟩) 0 9).bind fun l46 =>
(asI .i64 (l46.getD 0 undef)).bind fun n47 =>
(asI .i64 (l46.getD 1 undef)).bind fun n48 =>
(asI .u64 (l46.getD 2 undef)).bind fun n49 =>
(asI .i64 (l46.getD 3 undef)).bind fun n50 =>
(asI .i64 (l46.getD 4 undef)).bind fun n51 =>
(asB (l46.getD 5 undef)).bind fun b52 =>
(asB (l46.getD 6 undef)).bind fun b53 =>
(asB (l46.getD 7 undef)).bind fun b54 =>
(asSl (l46.getD 8 undef)).bind fun q55 =>
(callB Try.prog .append #[22, 22] 22 #[false, false] #[.slice s5.1.1 s5.1.2.1 s5.1.2.2, .slice (some (⟨r45.2.heap.size, 0, none⟩)) 1 1] (World.alloc r45.2 (.cells #[.int .i64 n47, .int .i64 n48, .int .u64 n49, .int .i64 n50, .int .i64 n51, .bool b52, .bool b53, .bool b54, .slice q55.1 q55.2.1 q55.2.2] 30))).bind fun r56 =>
(asSl r56.1).bind fun q57 =>
(ldN r56.2 (⟨w6.heap.size, 0, none⟩) 0 9).bind fun l58 =>
(asI .i64 (l58.getD 0 undef)).bind fun n59 =>
(asI .i64 (l58.getD 1 undef)).bind fun n60 =>
(asI .u64 (l58.getD 2 undef)).bind fun n61 =>
(asI .i64 (l58.getD 3 undef)).bind fun n62 =>
(asI .i64 (l58.getD 4 undef)).bind fun n63 =>
(asB (l58.getD 5 undef)).bind fun b64 =>
(asB (l58.getD 6 undef)).bind fun b65 =>
(asB (l58.getD 7 undef)).bind fun b66 =>
(asSl (l58.getD 8 undef)).bind fun q67 =>
(callF Try.prog 18 #[.agg #[.int .i64 n59, .int .i64 n60, .int .u64 n61, .int .i64 n62, .int .i64 n63, .bool b64, .bool b65, .bool b66, .slice q67.1 q67.2.1 q67.2.2]] r56.2).bind fun r68 =>
(asI .i64 r68.1).bind fun n69 =>
some (.normal, ((q57.1, q57.2.1, q57.2.2), (IntKind.i64.wrap (s5.2.1 + n69)), (IntKind.i64.wrap (s5.2.2 + 1))), r68.2))
else
(some (.normal, ((s5.1.1, s5.1.2.1, s5.1.2.2), s5.2.1, (IntKind.i64.wrap (s5.2.2 + 1))), r30.2)))
else
(some (.normal, ((s5.1.1, s5.1.2.1, s5.1.2.2), s5.2.1, (IntKind.i64.wrap (s5.2.2 + 1))), r30.2)))
else
(some ((.exit 0), ((s5.1.1, s5.1.2.1, s5.1.2.2), s5.2.1, s5.2.2), w6))

noncomputable def g9_K70  : Exit → Env → World → Option (Value × World) :=
  retK Try.prog Try.f9.results.toList

noncomputable def g9_K71  : Exit → Env → World → Option (Value × World) :=
  seqK (ev Try.prog 48 9 g9_ann (cAt [1, 1, 1, 1, 1] (bodyOf Try.f9)) [1, 1, 1, 1, 1] g9_K70) g9_K70

noncomputable def g9_K72  : Exit → Env → World → Option (Value × World) :=
  blkK 0 g9_K71

/-- the loop, from a state on -/
noncomputable def g9_l4 (p2 : Option Addr) (u0 : Option Addr × Nat × Nat) (s : (Option Addr × Nat × Nat) × Int × Int) (w : World) : Option (Value × World) :=
  loopM Try.prog 48 9 g9_ann (cAt [1, 1, 1, 1, 0, 1, 0, 0] (bodyOf Try.f9)) [0, 1, 0, 1, 1, 1, 1] g9_K72 ((g9_l4_cs p2 u0) ++ sputs [(5, .sl), (6, .i .i64), (15, .i .i64)] s) w

/-- behind the loop, left by x0 -/
noncomputable def g9_l4_x0 (p2 : Option Addr) (t73 : (Option Addr × Nat × Nat) × Int × Int) (w74 : World) : Option (Value × World) :=
some (.tuple #[.pointer p2, .slice t73.1.1 t73.1.2.1 t73.1.2.2], w74)

noncomputable def g9 (u0 : Option Addr × Nat × Nat) (w0 : World) : Option (Value × World) :=
(callF Try.prog 17 #[] w0).bind fun r1 =>
(asP r1.1).bind fun p2 =>
g9_l4 p2 u0 ((none, 0, 0), 0, 0) r1.2

theorem g9_eq (u0 : Option Addr × Nat × Nat) (w0 : World) : evFn Try.prog 9 g9_ann #[.slice u0.1 u0.2.1 u0.2.2] w0 = g9 u0 w0 := by kernel_rfl

theorem g9_call {u0 : Option Addr × Nat × Nat} {w0 : World} {r : Value × World} (h : g9 u0 w0 = some r) : callF Try.prog 9 #[.slice u0.1 u0.2.1 u0.2.2] w0 = some r :=
  callF_of_evFn (ann := g9_ann) Try.call9 (by kernel_rfl) ((g9_eq u0 w0).trans h)

theorem g9_l4_x0_of {p2 : Option Addr} {u0 : Option Addr × Nat × Nat} {s t : (Option Addr × Nat × Nat) × Int × Int} {w w' : World} (h : loopS (g9_l4_b u0 p2) s w = some (.exit 0, t, w')) : g9_l4 p2 u0 s w = g9_l4_x0 p2 t w' := by
  have h1 : g9_l4 p2 u0 s w = loopM Try.prog 48 9 g9_ann (cAt [1, 1, 1, 1, 0, 1, 0, 0] (bodyOf Try.f9)) [0, 1, 0, 1, 1, 1, 1] g9_K72 ((g9_l4_cs p2 u0) ++ sputs [(5, .sl), (6, .i .i64), (15, .i .i64)] s) w := by kernel_rfl
  have h2 : loopM Try.prog 48 9 g9_ann (cAt [1, 1, 1, 1, 0, 1, 0, 0] (bodyOf Try.f9)) [0, 1, 0, 1, 1, 1, 1] g9_K72 ((g9_l4_cs p2 u0) ++ sputs [(5, .sl), (6, .i .i64), (15, .i .i64)] s) w = g9_K72 (.exit 0) (puts 48 ((g9_l4_cs p2 u0) ++ sputs [(5, .sl), (6, .i .i64), (15, .i .i64)] t)) w' :=
    loop_rule (P := Try.prog) (N := 48) (f := 9) (ann := g9_ann) (body := (cAt [1, 1, 1, 1, 0, 1, 0, 0] (bodyOf Try.f9))) (pt := [0, 1, 0, 1, 1, 1, 1]) (K := g9_K72) (g9_l4_cs p2 u0) [(5, .sl), (6, .i .i64), (15, .i .i64)] (b := g9_l4_b u0 p2) (fun s w => by kernel_rfl) (by kernel_rfl) (by kernel_rfl) (by kernel_rfl) h
  have h3 : g9_K72 (.exit 0) (puts 48 ((g9_l4_cs p2 u0) ++ sputs [(5, .sl), (6, .i .i64), (15, .i .i64)] t)) w' = g9_l4_x0 p2 t w' := by kernel_rfl
  exact h1.trans (h2.trans h3)

/-! 10: (*penstock/prod.Table).Known (t: *prod.Table, pid: uint64) -/
def g10_ann : List (List Nat × List Nat) := []

noncomputable def g10 (u0 : Option Addr) (u1 : Int) (w0 : World) : Option (Value × World) :=
if (u0.isNone) = true then
(some (.tuple #[.int .i64 0, .int .i64 0, .int .i64 0, .bool false], w0))
else
(u0.bind fun a1 =>
(World.cell? w0 a1).bind fun v2 =>
(asM v2).bind fun m3 =>
(mLook (.int .u64) w0 m3 (.int .u64 u1)).bind fun o4 =>
(asP (o4.getD (.pointer none))).bind fun p5 =>
if (p5.isNone) = true then
(some (.tuple #[.int .i64 0, .int .i64 0, .int .i64 0, .bool false], w0))
else
(u0.bind fun a6 =>
(World.cell? w0 a6).bind fun v7 =>
(asM v7).bind fun m8 =>
(mLook (.int .u64) w0 m8 (.int .u64 u1)).bind fun o9 =>
(asP (o9.getD (.pointer none))).bind fun p10 =>
p10.bind fun a11 =>
(World.cell? (World.drew w0) a11).bind fun v12 =>
(asI .i64 v12).bind fun n13 =>
p10.bind fun a14 =>
(World.cell? (World.drew w0) (Addr.add a14 1)).bind fun v15 =>
(asI .i64 v15).bind fun n16 =>
p10.bind fun a17 =>
(World.cell? (World.drew w0) (Addr.add a17 3)).bind fun v18 =>
(asI .i64 v18).bind fun n19 =>
some (.tuple #[.int .i64 n13, .int .i64 n16, .int .i64 n19, .bool true], (World.drew w0))))

theorem g10_eq (u0 : Option Addr) (u1 : Int) (w0 : World) : evFn Try.prog 10 g10_ann #[.pointer u0, .int .u64 u1] w0 = g10 u0 u1 w0 := by kernel_rfl

theorem g10_call {u0 : Option Addr} {u1 : Int} {w0 : World} {r : Value × World} (h : g10 u0 u1 w0 = some r) : callF Try.prog 10 #[.pointer u0, .int .u64 u1] w0 = some r :=
  callF_of_evFn (ann := g10_ann) Try.call10 (by kernel_rfl) ((g10_eq u0 u1 w0).trans h)

/-! 11: (*penstock/prod.Table).Check (t: *prod.Table, b: api.Batch) -/
def g11_ann : List (List Nat × List Nat) := [([0, 1, 0, 1, 1, 1, 1, 1], [3, 8, 62, 63, 4, 5, 6, 64]), ([0, 1, 0, 1, 1, 1, 1, 1], [3, 8, 62, 63, 4, 5, 6, 64])]

def g11_l42_cs (w0 : World) (p19 : Option Addr) (q40 : Option Addr × Nat × Nat) : List (Nat × Value) := ([(3, .pointer (some (⟨w0.heap.size, 0, none⟩))), (8, .pointer p19), (62, .slice q40.1 q40.2.1 q40.2.2), (63, .int .i64 (q40.2.1 : Int))] : List (Nat × Value))

noncomputable def g11_j108 (w0 : World) (s43 : Int × Bool × Int × Int) (p19 : Option Addr) (w44 : World) (q40 : Option Addr × Nat × Nat) (a45 : Addr) (n47 : Int) (n48 : Int) (n49 : Int) (n54 : Int) (n55 : Int) (n56 : Int) (n57 : Int) (n58 : Int) (b59 : Bool) (b60 : Bool) (b61 : Bool) (q62 : Option Addr × Nat × Nat) (x112 : Int) (x113 : Int) (x114 : Int) (x115 : Int) (w116 : World) : Option (Exit × (Int × Bool × Int × Int) × World) :=
(semR Try.prog (do eqGuard .eql 57 (.tmp 69) (.tmp 74) (.agg #[.int .i64 x112, .int .i64 x113]) (.agg #[.int .i64 x114, .int .i64 x115]); binOp .eql 57 (.agg #[.int .i64 x112, .int .i64 x113]) (.agg #[.int .i64 x114, .int .i64 x115])) w116).bind fun r117 =>
(asB r117.1).bind fun b118 =>
if b118 = true then
((World.cell? r117.2 (Addr.add (⟨w44.heap.size, 0, none⟩) 2)).bind fun v120 =>
(asI .i64 v120).bind fun n121 =>
some (.ret, (n121, true, 0, s43.2.2.2), r117.2))
else
(some (.normal, (s43.1, s43.2.1, s43.2.2.1, (IntKind.i64.wrap (s43.2.2.2 + 1))), r117.2))

noncomputable def g11_j93 (w0 : World) (s43 : Int × Bool × Int × Int) (p19 : Option Addr) (w44 : World) (q40 : Option Addr × Nat × Nat) (a45 : Addr) (n47 : Int) (n48 : Int) (n49 : Int) (n54 : Int) (n55 : Int) (n56 : Int) (n57 : Int) (n58 : Int) (b59 : Bool) (b60 : Bool) (b61 : Bool) (q62 : Option Addr × Nat × Nat) (x103 : Int) (x104 : Int) (x105 : Int) (x106 : Int) (w107 : World) : Option (Exit × (Int × Bool × Int × Int) × World) :=
g11_j108 w0 s43 p19 w44 q40 a45 n47 n48 n49 n54 n55 n56 n57 n58 b59 b60 b61 q62 x103 x104 x105 x106 w107

noncomputable def g11_j76 (n54 : Int) (n55 : Int) (n56 : Int) (n57 : Int) (n58 : Int) (b59 : Bool) (b60 : Bool) (b61 : Bool) (q62 : Option Addr × Nat × Nat) (w50 : World) (w0 : World) (s43 : Int × Bool × Int × Int) (p19 : Option Addr) (w44 : World) (q40 : Option Addr × Nat × Nat) (a45 : Addr) (n47 : Int) (n48 : Int) (n49 : Int) (x88 : Int) (x89 : Int) (x90 : Int) : Option (Exit × (Int × Bool × Int × Int) × World) :=
(callF Try.prog 20 #[.agg #[.int .i64 n54, .int .i64 n55, .int .u64 n56, .int .i64 n57, .int .i64 n58, .bool b59, .bool b60, .bool b61, .slice q62.1 q62.2.1 q62.2.2]] (World.drew w50)).bind fun r91 =>
(asI .i64 r91.1).bind fun n92 =>
g11_j93 w0 s43 p19 w44 q40 a45 n47 n48 n49 n54 n55 n56 n57 n58 b59 b60 b61 q62 x88 x89 x90 n92 r91.2

noncomputable def g11_j85 (w50 : World) (w44 : World) (w0 : World) (s43 : Int × Bool × Int × Int) (p19 : Option Addr) (q40 : Option Addr × Nat × Nat) (a45 : Addr) (n47 : Int) (n48 : Int) (n49 : Int) (n54 : Int) (n55 : Int) (n56 : Int) (n57 : Int) (n58 : Int) (b59 : Bool) (b60 : Bool) (b61 : Bool) (q62 : Option Addr × Nat × Nat) (x96 : Int) (x97 : Int) (w98 : World) : Option (Exit × (Int × Bool × Int × Int) × World) :=
if (ahd (Region.schedule true (opsOf (cAt [1, 1, 1, 1, 1, 0, 1, 0, 0, 1, 1, 0, 0, 1, 0] (bodyOf Try.f11))) (World.tape w50 (World.drawn w50) (.order 11 20))) 1 6 && true) = true then
((ldN w98 (⟨w44.heap.size, 0, none⟩) 0 2).bind fun l99 =>
(asI .i64 (l99.getD 0 undef)).bind fun n100 =>
(asI .i64 (l99.getD 1 undef)).bind fun n101 =>
g11_j93 w0 s43 p19 w44 q40 a45 n47 n48 n49 n54 n55 n56 n57 n58 b59 b60 b61 q62 n100 n101 x96 x97 w98)
else
((ldN w98 (⟨w44.heap.size, 0, none⟩) 0 2).bind fun l109 =>
(asI .i64 (l109.getD 0 undef)).bind fun n110 =>
(asI .i64 (l109.getD 1 undef)).bind fun n111 =>
g11_j108 w0 s43 p19 w44 q40 a45 n47 n48 n49 n54 n55 n56 n57 n58 b59 b60 b61 q62 n110 n111 x96 x97 w98)

/-- the round of a loop ((*penstock/prod.Table).Check) -/
noncomputable def g11_l42_b (q40 : Option Addr × Nat × Nat) (w0 : World) (p19 : Option Addr) (s43 : Int × Bool × Int × Int) (w44 : World) : Option (Exit × (Int × Bool × Int × Int) × World) :=
if (decide ((s43.2.2.2 : Int) < (q40.2.1 : Int))) = true then
((idxA q40.1 q40.2.1 3 s43.2.2.2).bind fun a45 =>
(ldN w44 a45 0 3).bind fun l46 =>
(asI .i64 (l46.getD 0 undef)).bind fun n47 =>
(asI .i64 (l46.getD 1 undef)).bind fun n48 =>
(asI .i64 (l46.getD 2 undef)).bind fun n49 =>
(stL (World.alloc w44 (.cells #[.int .i64 0, .int .i64 0, .int .i64 0] 59)) (⟨w44.heap.size, 0, none⟩) [.int .i64 n47, .int .i64 n48, .int .i64 n49] 0).bind fun w50 =>
(ldN (World.drew w50) (⟨w0.heap.size, 0, none⟩) 0 9).bind fun l53 =>
(asI .i64 (l53.getD 0 undef)).bind fun n54 =>
(asI .i64 (l53.getD 1 undef)).bind fun n55 =>
(asI .u64 (l53.getD 2 undef)).bind fun n56 =>
(asI .i64 (l53.getD 3 undef)).bind fun n57 =>
(asI .i64 (l53.getD 4 undef)).bind fun n58 =>
(asB (l53.getD 5 undef)).bind fun b59 =>
(asB (l53.getD 6 undef)).bind fun b60 =>
(asB (l53.getD 7 undef)).bind fun b61 =>
(asSl (l53.getD 8 undef)).bind fun q62 =>
if (ahd (Region.schedule true (opsOf (cAt [1, 1, 1, 1, 1, 0, 1, 0, 0, 1, 1, 0, 0, 1, 0] (bodyOf Try.f11))) (World.tape w50 (World.drawn w50) (.order 11 20))) 1 3 && (ahd (Region.schedule true (opsOf (cAt [1, 1, 1, 1, 1, 0, 1, 0, 0, 1, 1, 0, 0, 1, 0] (bodyOf Try.f11))) (World.tape w50 (World.drawn w50) (.order 11 20))) 1 5 && true)) = true then
((ldN (World.drew w50) (⟨w44.heap.size, 0, none⟩) 0 2).bind fun l64 =>
(asI .i64 (l64.getD 0 undef)).bind fun n65 =>
(asI .i64 (l64.getD 1 undef)).bind fun n66 =>
if (ahd (Region.schedule true (opsOf (cAt [1, 1, 1, 1, 1, 0, 1, 0, 0, 1, 1, 0, 0, 1, 0] (bodyOf Try.f11))) (World.tape w50 (World.drawn w50) (.order 11 20))) 3 5 && true) = true then
((World.cell? (World.drew w50) (Addr.add (⟨w0.heap.size, 0, none⟩) 4)).bind fun v74 =>
(asI .i64 v74).bind fun n75 =>
g11_j76 n54 n55 n56 n57 n58 b59 b60 b61 q62 w50 w0 s43 p19 w44 q40 a45 n47 n48 n49 n65 n66 n75)
else
((callF Try.prog 20 #[.agg #[.int .i64 n54, .int .i64 n55, .int .u64 n56, .int .i64 n57, .int .i64 n58, .bool b59, .bool b60, .bool b61, .slice q62.1 q62.2.1 q62.2.2]] (World.drew w50)).bind fun r77 =>
(asI .i64 r77.1).bind fun n78 =>
(World.cell? r77.2 (Addr.add (⟨w0.heap.size, 0, none⟩) 4)).bind fun v94 =>
(asI .i64 v94).bind fun n95 =>
g11_j93 w0 s43 p19 w44 q40 a45 n47 n48 n49 n54 n55 n56 n57 n58 b59 b60 b61 q62 n65 n66 n95 n78 r77.2))
else
(if (ahd (Region.schedule true (opsOf (cAt [1, 1, 1, 1, 1, 0, 1, 0, 0, 1, 1, 0, 0, 1, 0] (bodyOf Try.f11))) (World.tape w50 (World.drawn w50) (.order 11 20))) 3 5 && true) = true then
((World.cell? (World.drew w50) (Addr.add (⟨w0.heap.size, 0, none⟩) 4)).bind fun v68 =>
(asI .i64 v68).bind fun n69 =>
if (ahd (Region.schedule true (opsOf (cAt [1, 1, 1, 1, 1, 0, 1, 0, 0, 1, 1, 0, 0, 1, 0] (bodyOf Try.f11))) (World.tape w50 (World.drawn w50) (.order 11 20))) 1 5 && true) = true then
((ldN (World.drew w50) (⟨w44.heap.size, 0, none⟩) 0 2).bind fun l80 =>
(asI .i64 (l80.getD 0 undef)).bind fun n81 =>
(asI .i64 (l80.getD 1 undef)).bind fun n82 =>
g11_j76 n54 n55 n56 n57 n58 b59 b60 b61 q62 w50 w0 s43 p19 w44 q40 a45 n47 n48 n49 n81 n82 n69)
else
((callF Try.prog 20 #[.agg #[.int .i64 n54, .int .i64 n55, .int .u64 n56, .int .i64 n57, .int .i64 n58, .bool b59, .bool b60, .bool b61, .slice q62.1 q62.2.1 q62.2.2]] (World.drew w50)).bind fun r83 =>
(asI .i64 r83.1).bind fun n84 =>
g11_j85 w50 w44 w0 s43 p19 q40 a45 n47 n48 n49 n54 n55 n56 n57 n58 b59 b60 b61 q62 n69 n84 r83.2))
else
((callF Try.prog 20 #[.agg #[.int .i64 n54, .int .i64 n55, .int .u64 n56, .int .i64 n57, .int .i64 n58, .bool b59, .bool b60, .bool b61, .slice q62.1 q62.2.1 q62.2.2]] (World.drew w50)).bind fun r71 =>
(asI .i64 r71.1).bind fun n72 =>
(World.cell? r71.2 (Addr.add (⟨w0.heap.size, 0, none⟩) 4)).bind fun v86 =>
(asI .i64 v86).bind fun n87 =>
g11_j85 w50 w44 w0 s43 p19 q40 a45 n47 n48 n49 n54 n55 n56 n57 n58 b59 b60 b61 q62 n87 n72 r71.2)))
else
(some ((.exit 1), (s43.1, s43.2.1, s43.2.2.1, s43.2.2.2), w44))

noncomputable def g11_K122  : Exit → Env → World → Option (Value × World) :=
  retK Try.prog Try.f11.results.toList

noncomputable def g11_K123  : Exit → Env → World → Option (Value × World) :=
  seqK (ev Try.prog 86 11 g11_ann (cAt [1, 1, 1, 1, 1, 1] (bodyOf Try.f11)) [1, 1, 1, 1, 1, 1] g11_K122) g11_K122

noncomputable def g11_K124  : Exit → Env → World → Option (Value × World) :=
  blkK 1 g11_K123

/-- the loop, from a state on -/
noncomputable def g11_l42 (w0 : World) (p19 : Option Addr) (q40 : Option Addr × Nat × Nat) (s : Int × Bool × Int × Int) (w : World) : Option (Value × World) :=
  loopM Try.prog 86 11 g11_ann (cAt [1, 1, 1, 1, 1, 0, 1, 0, 0] (bodyOf Try.f11)) [0, 1, 0, 1, 1, 1, 1, 1] g11_K124 ((g11_l42_cs w0 p19 q40) ++ sputs [(4, .i .i64), (5, .b), (6, .i .i64), (64, .i .i64)] s) w

/-- behind the loop, left by x1 -/
noncomputable def g11_l42_x1 (w0 : World) (p19 : Option Addr) (t125 : Int × Bool × Int × Int) (w126 : World) : Option (Value × World) :=
(World.cell? (World.drew w126) (Addr.add (⟨w0.heap.size, 0, none⟩) 4)).bind fun v127 =>
(asI .i64 v127).bind fun n128 =>
p19.bind fun a129 =>
(World.cell? (World.drew w126) (Addr.add a129 1)).bind fun v130 =>
(asI .i64 v130).bind fun n131 =>
if ((n128 : Int) != n131) = true then
(some (.tuple #[.int .i64 0, .bool false, .int .i64 11], (World.drew w126)))
else
(some (.tuple #[.int .i64 0, .bool false, .int .i64 0], (World.drew w126)))

/-- behind the loop, left by ret -/
noncomputable def g11_l42_ret  (t132 : Int × Bool × Int × Int) (w133 : World) : Option (Value × World) :=
some (.tuple #[.int .i64 t132.1, .bool t132.2.1, .int .i64 t132.2.2.1], w133)

def g11_l149_cs (w0 : World) (p19 : Option Addr) (q147 : Option Addr × Nat × Nat) : List (Nat × Value) := ([(3, .pointer (some (⟨w0.heap.size, 0, none⟩))), (8, .pointer p19), (62, .slice q147.1 q147.2.1 q147.2.2), (63, .int .i64 (q147.2.1 : Int))] : List (Nat × Value))

noncomputable def g11_j215 (w0 : World) (s150 : Int × Bool × Int × Int) (p19 : Option Addr) (w151 : World) (q147 : Option Addr × Nat × Nat) (a152 : Addr) (n154 : Int) (n155 : Int) (n156 : Int) (n161 : Int) (n162 : Int) (n163 : Int) (n164 : Int) (n165 : Int) (b166 : Bool) (b167 : Bool) (b168 : Bool) (q169 : Option Addr × Nat × Nat) (x219 : Int) (x220 : Int) (x221 : Int) (x222 : Int) (w223 : World) : Option (Exit × (Int × Bool × Int × Int) × World) :=
(semR Try.prog (do eqGuard .eql 57 (.tmp 69) (.tmp 74) (.agg #[.int .i64 x219, .int .i64 x220]) (.agg #[.int .i64 x221, .int .i64 x222]); binOp .eql 57 (.agg #[.int .i64 x219, .int .i64 x220]) (.agg #[.int .i64 x221, .int .i64 x222])) w223).bind fun r224 =>
(asB r224.1).bind fun b225 =>
if b225 = true then
((World.cell? r224.2 (Addr.add (⟨w151.heap.size, 0, none⟩) 2)).bind fun v227 =>
(asI .i64 v227).bind fun n228 =>
some (.ret, (n228, true, 0, s150.2.2.2), r224.2))
else
(some (.normal, (s150.1, s150.2.1, s150.2.2.1, (IntKind.i64.wrap (s150.2.2.2 + 1))), r224.2))

noncomputable def g11_j200 (w0 : World) (s150 : Int × Bool × Int × Int) (p19 : Option Addr) (w151 : World) (q147 : Option Addr × Nat × Nat) (a152 : Addr) (n154 : Int) (n155 : Int) (n156 : Int) (n161 : Int) (n162 : Int) (n163 : Int) (n164 : Int) (n165 : Int) (b166 : Bool) (b167 : Bool) (b168 : Bool) (q169 : Option Addr × Nat × Nat) (x210 : Int) (x211 : Int) (x212 : Int) (x213 : Int) (w214 : World) : Option (Exit × (Int × Bool × Int × Int) × World) :=
g11_j215 w0 s150 p19 w151 q147 a152 n154 n155 n156 n161 n162 n163 n164 n165 b166 b167 b168 q169 x210 x211 x212 x213 w214

noncomputable def g11_j183 (n161 : Int) (n162 : Int) (n163 : Int) (n164 : Int) (n165 : Int) (b166 : Bool) (b167 : Bool) (b168 : Bool) (q169 : Option Addr × Nat × Nat) (w157 : World) (w0 : World) (s150 : Int × Bool × Int × Int) (p19 : Option Addr) (w151 : World) (q147 : Option Addr × Nat × Nat) (a152 : Addr) (n154 : Int) (n155 : Int) (n156 : Int) (x195 : Int) (x196 : Int) (x197 : Int) : Option (Exit × (Int × Bool × Int × Int) × World) :=
(callF Try.prog 20 #[.agg #[.int .i64 n161, .int .i64 n162, .int .u64 n163, .int .i64 n164, .int .i64 n165, .bool b166, .bool b167, .bool b168, .slice q169.1 q169.2.1 q169.2.2]] (World.drew w157)).bind fun r198 =>
(asI .i64 r198.1).bind fun n199 =>
g11_j200 w0 s150 p19 w151 q147 a152 n154 n155 n156 n161 n162 n163 n164 n165 b166 b167 b168 q169 x195 x196 x197 n199 r198.2

noncomputable def g11_j192 (w157 : World) (w151 : World) (w0 : World) (s150 : Int × Bool × Int × Int) (p19 : Option Addr) (q147 : Option Addr × Nat × Nat) (a152 : Addr) (n154 : Int) (n155 : Int) (n156 : Int) (n161 : Int) (n162 : Int) (n163 : Int) (n164 : Int) (n165 : Int) (b166 : Bool) (b167 : Bool) (b168 : Bool) (q169 : Option Addr × Nat × Nat) (x203 : Int) (x204 : Int) (w205 : World) : Option (Exit × (Int × Bool × Int × Int) × World) :=
if (ahd (Region.schedule true (opsOf (cAt [1, 1, 1, 1, 1, 0, 1, 0, 0, 1, 1, 0, 0, 1, 0] (bodyOf Try.f11))) (World.tape w157 (World.drawn w157) (.order 11 20))) 1 6 && true) = true then
((ldN w205 (⟨w151.heap.size, 0, none⟩) 0 2).bind fun l206 =>
(asI .i64 (l206.getD 0 undef)).bind fun n207 =>
(asI .i64 (l206.getD 1 undef)).bind fun n208 =>
g11_j200 w0 s150 p19 w151 q147 a152 n154 n155 n156 n161 n162 n163 n164 n165 b166 b167 b168 q169 n207 n208 x203 x204 w205)
else
((ldN w205 (⟨w151.heap.size, 0, none⟩) 0 2).bind fun l216 =>
(asI .i64 (l216.getD 0 undef)).bind fun n217 =>
(asI .i64 (l216.getD 1 undef)).bind fun n218 =>
g11_j215 w0 s150 p19 w151 q147 a152 n154 n155 n156 n161 n162 n163 n164 n165 b166 b167 b168 q169 n217 n218 x203 x204 w205)

/-- the round of a loop ((*penstock/prod.Table).Check) -/
noncomputable def g11_l149_b (q147 : Option Addr × Nat × Nat) (w0 : World) (p19 : Option Addr) (s150 : Int × Bool × Int × Int) (w151 : World) : Option (Exit × (Int × Bool × Int × Int) × World) :=
if (decide ((s150.2.2.2 : Int) < (q147.2.1 : Int))) = true then
((idxA q147.1 q147.2.1 3 s150.2.2.2).bind fun a152 =>
(ldN w151 a152 0 3).bind fun l153 =>
(asI .i64 (l153.getD 0 undef)).bind fun n154 =>
(asI .i64 (l153.getD 1 undef)).bind fun n155 =>
(asI .i64 (l153.getD 2 undef)).bind fun n156 =>
(stL (World.alloc w151 (.cells #[.int .i64 0, .int .i64 0, .int .i64 0] 59)) (⟨w151.heap.size, 0, none⟩) [.int .i64 n154, .int .i64 n155, .int .i64 n156] 0).bind fun w157 =>
(ldN (World.drew w157) (⟨w0.heap.size, 0, none⟩) 0 9).bind fun l160 =>
(asI .i64 (l160.getD 0 undef)).bind fun n161 =>
(asI .i64 (l160.getD 1 undef)).bind fun n162 =>
(asI .u64 (l160.getD 2 undef)).bind fun n163 =>
(asI .i64 (l160.getD 3 undef)).bind fun n164 =>
(asI .i64 (l160.getD 4 undef)).bind fun n165 =>
(asB (l160.getD 5 undef)).bind fun b166 =>
(asB (l160.getD 6 undef)).bind fun b167 =>
(asB (l160.getD 7 undef)).bind fun b168 =>
(asSl (l160.getD 8 undef)).bind fun q169 =>
if (ahd (Region.schedule true (opsOf (cAt [1, 1, 1, 1, 1, 0, 1, 0, 0, 1, 1, 0, 0, 1, 0] (bodyOf Try.f11))) (World.tape w157 (World.drawn w157) (.order 11 20))) 1 3 && (ahd (Region.schedule true (opsOf (cAt [1, 1, 1, 1, 1, 0, 1, 0, 0, 1, 1, 0, 0, 1, 0] (bodyOf Try.f11))) (World.tape w157 (World.drawn w157) (.order 11 20))) 1 5 && true)) = true then
((ldN (World.drew w157) (⟨w151.heap.size, 0, none⟩) 0 2).bind fun l171 =>
(asI .i64 (l171.getD 0 undef)).bind fun n172 =>
(asI .i64 (l171.getD 1 undef)).bind fun n173 =>
if (ahd (Region.schedule true (opsOf (cAt [1, 1, 1, 1, 1, 0, 1, 0, 0, 1, 1, 0, 0, 1, 0] (bodyOf Try.f11))) (World.tape w157 (World.drawn w157) (.order 11 20))) 3 5 && true) = true then
((World.cell? (World.drew w157) (Addr.add (⟨w0.heap.size, 0, none⟩) 4)).bind fun v181 =>
(asI .i64 v181).bind fun n182 =>
g11_j183 n161 n162 n163 n164 n165 b166 b167 b168 q169 w157 w0 s150 p19 w151 q147 a152 n154 n155 n156 n172 n173 n182)
else
((callF Try.prog 20 #[.agg #[.int .i64 n161, .int .i64 n162, .int .u64 n163, .int .i64 n164, .int .i64 n165, .bool b166, .bool b167, .bool b168, .slice q169.1 q169.2.1 q169.2.2]] (World.drew w157)).bind fun r184 =>
(asI .i64 r184.1).bind fun n185 =>
(World.cell? r184.2 (Addr.add (⟨w0.heap.size, 0, none⟩) 4)).bind fun v201 =>
(asI .i64 v201).bind fun n202 =>
g11_j200 w0 s150 p19 w151 q147 a152 n154 n155 n156 n161 n162 n163 n164 n165 b166 b167 b168 q169 n172 n173 n202 n185 r184.2))
else
(if (ahd (Region.schedule true (opsOf (cAt [1, 1, 1, 1, 1, 0, 1, 0, 0, 1, 1, 0, 0, 1, 0] (bodyOf Try.f11))) (World.tape w157 (World.drawn w157) (.order 11 20))) 3 5 && true) = true then
((World.cell? (World.drew w157) (Addr.add (⟨w0.heap.size, 0, none⟩) 4)).bind fun v175 =>
(asI .i64 v175).bind fun n176 =>
if (ahd (Region.schedule true (opsOf (cAt [1, 1, 1, 1, 1, 0, 1, 0, 0, 1, 1, 0, 0, 1, 0] (bodyOf Try.f11))) (World.tape w157 (World.drawn w157) (.order 11 20))) 1 5 && true) = true then
((ldN (World.drew w157) (⟨w151.heap.size, 0, none⟩) 0 2).bind fun l187 =>
(asI .i64 (l187.getD 0 undef)).bind fun n188 =>
(asI .i64 (l187.getD 1 undef)).bind fun n189 =>
g11_j183 n161 n162 n163 n164 n165 b166 b167 b168 q169 w157 w0 s150 p19 w151 q147 a152 n154 n155 n156 n188 n189 n176)
else
((callF Try.prog 20 #[.agg #[.int .i64 n161, .int .i64 n162, .int .u64 n163, .int .i64 n164, .int .i64 n165, .bool b166, .bool b167, .bool b168, .slice q169.1 q169.2.1 q169.2.2]] (World.drew w157)).bind fun r190 =>
(asI .i64 r190.1).bind fun n191 =>
g11_j192 w157 w151 w0 s150 p19 q147 a152 n154 n155 n156 n161 n162 n163 n164 n165 b166 b167 b168 q169 n176 n191 r190.2))
else
((callF Try.prog 20 #[.agg #[.int .i64 n161, .int .i64 n162, .int .u64 n163, .int .i64 n164, .int .i64 n165, .bool b166, .bool b167, .bool b168, .slice q169.1 q169.2.1 q169.2.2]] (World.drew w157)).bind fun r178 =>
(asI .i64 r178.1).bind fun n179 =>
(World.cell? r178.2 (Addr.add (⟨w0.heap.size, 0, none⟩) 4)).bind fun v193 =>
(asI .i64 v193).bind fun n194 =>
g11_j192 w157 w151 w0 s150 p19 q147 a152 n154 n155 n156 n161 n162 n163 n164 n165 b166 b167 b168 q169 n194 n179 r178.2)))
else
(some ((.exit 1), (s150.1, s150.2.1, s150.2.2.1, s150.2.2.2), w151))

noncomputable def g11_K229  : Exit → Env → World → Option (Value × World) :=
  seqK (ev Try.prog 86 11 g11_ann (cAt [1, 1, 1, 1, 1, 1] (bodyOf Try.f11)) [1, 1, 1, 1, 1, 1] g11_K122) g11_K122

noncomputable def g11_K230  : Exit → Env → World → Option (Value × World) :=
  blkK 1 g11_K229

/-- the loop, from a state on -/
noncomputable def g11_l149 (w0 : World) (p19 : Option Addr) (q147 : Option Addr × Nat × Nat) (s : Int × Bool × Int × Int) (w : World) : Option (Value × World) :=
  loopM Try.prog 86 11 g11_ann (cAt [1, 1, 1, 1, 1, 0, 1, 0, 0] (bodyOf Try.f11)) [0, 1, 0, 1, 1, 1, 1, 1] g11_K230 ((g11_l149_cs w0 p19 q147) ++ sputs [(4, .i .i64), (5, .b), (6, .i .i64), (64, .i .i64)] s) w

/-- behind the loop, left by x1 -/
noncomputable def g11_l149_x1 (w0 : World) (p19 : Option Addr) (t231 : Int × Bool × Int × Int) (w232 : World) : Option (Value × World) :=
(World.cell? (World.drew w232) (Addr.add (⟨w0.heap.size, 0, none⟩) 4)).bind fun v233 =>
(asI .i64 v233).bind fun n234 =>
p19.bind fun a235 =>
(World.cell? (World.drew w232) (Addr.add a235 1)).bind fun v236 =>
(asI .i64 v236).bind fun n237 =>
if ((n234 : Int) != n237) = true then
(some (.tuple #[.int .i64 0, .bool false, .int .i64 11], (World.drew w232)))
else
(some (.tuple #[.int .i64 0, .bool false, .int .i64 0], (World.drew w232)))

/-- behind the loop, left by ret -/
noncomputable def g11_l149_ret  (t238 : Int × Bool × Int × Int) (w239 : World) : Option (Value × World) :=
some (.tuple #[.int .i64 t238.1, .bool t238.2.1, .int .i64 t238.2.2.1], w239)

noncomputable def g11 (u0 : Option Addr) (u1c0 : Int) (u1c1 : Int) (u1c2 : Int) (u1c3 : Int) (u1c4 : Int) (u1c5 : Bool) (u1c6 : Bool) (u1c7 : Bool) (u1c8 : Option Addr × Nat × Nat) (w0 : World) : Option (Value × World) :=
if (u0.isNone) = true then
(some (.tuple #[.int .i64 0, .bool false, .int .i64 5], (World.alloc w0 (.cells #[.int .i64 u1c0, .int .i64 u1c1, .int .u64 u1c2, .int .i64 u1c3, .int .i64 u1c4, .bool u1c5, .bool u1c6, .bool u1c7, .slice u1c8.1 u1c8.2.1 u1c8.2.2] 30))))
else
((ldN (World.alloc w0 (.cells #[.int .i64 u1c0, .int .i64 u1c1, .int .u64 u1c2, .int .i64 u1c3, .int .i64 u1c4, .bool u1c5, .bool u1c6, .bool u1c7, .slice u1c8.1 u1c8.2.1 u1c8.2.2] 30)) (⟨w0.heap.size, 0, none⟩) 0 9).bind fun l1 =>
(asI .i64 (l1.getD 0 undef)).bind fun n2 =>
(asI .i64 (l1.getD 1 undef)).bind fun n3 =>
(asI .u64 (l1.getD 2 undef)).bind fun n4 =>
(asI .i64 (l1.getD 3 undef)).bind fun n5 =>
(asI .i64 (l1.getD 4 undef)).bind fun n6 =>
(asB (l1.getD 5 undef)).bind fun b7 =>
(asB (l1.getD 6 undef)).bind fun b8 =>
(asB (l1.getD 7 undef)).bind fun b9 =>
(asSl (l1.getD 8 undef)).bind fun q10 =>
(callF Try.prog 19 #[.agg #[.int .i64 n2, .int .i64 n3, .int .u64 n4, .int .i64 n5, .int .i64 n6, .bool b7, .bool b8, .bool b9, .slice q10.1 q10.2.1 q10.2.2]] (World.alloc w0 (.cells #[.int .i64 u1c0, .int .i64 u1c1, .int .u64 u1c2, .int .i64 u1c3, .int .i64 u1c4, .bool u1c5, .bool u1c6, .bool u1c7, .slice u1c8.1 u1c8.2.1 u1c8.2.2] 30))).bind fun r11 =>
(asI .i64 r11.1).bind fun n12 =>
if ((n12 : Int) != 0) = true then
(some (.tuple #[.int .i64 0, .bool false, .int .i64 n12], r11.2))
else
(u0.bind fun a13 =>
(World.cell? (World.drew r11.2) a13).bind fun v14 =>
(asM v14).bind fun m15 =>
(World.cell? (World.drew r11.2) (Addr.add (⟨w0.heap.size, 0, none⟩) 2)).bind fun v16 =>
(asI .u64 v16).bind fun n17 =>
(mLook (.int .u64) (World.drew r11.2) m15 (.int .u64 n17)).bind fun o18 =>
(asP (o18.getD (.pointer none))).bind fun p19 =>
(World.cell? (World.drew r11.2) (Addr.add (⟨w0.heap.size, 0, none⟩) 2)).bind fun v20 =>
(asI .u64 v20).bind fun n21 =>
if ((n21 : Int) == 0) = true then
(some (.tuple #[.int .i64 0, .bool false, .int .i64 0], (World.drew r11.2)))
else
(if (!(p19.isNone)) = true then
((World.cell? (World.drew (World.drew r11.2)) (Addr.add (⟨w0.heap.size, 0, none⟩) 3)).bind fun v22 =>
(asI .i64 v22).bind fun n23 =>
p19.bind fun a24 =>
(World.cell? (World.drew (World.drew r11.2)) a24).bind fun v25 =>
(asI .i64 v25).bind fun n26 =>
if (decide ((n23 : Int) < n26)) = true then
(some (.tuple #[.int .i64 0, .bool false, .int .i64 10], (World.drew (World.drew r11.2))))
else
((World.cell? (World.drew (World.drew r11.2)) (Addr.add (⟨w0.heap.size, 0, none⟩) 6)).bind fun v27 =>
(asB v27).bind fun b28 =>
if b28 = true then
(some (.tuple #[.int .i64 0, .bool false, .int .i64 0], (World.drew (World.drew r11.2))))
else
(if (p19.isNone) = true then
((World.cell? (World.drew (World.drew (World.drew r11.2))) (Addr.add (⟨w0.heap.size, 0, none⟩) 4)).bind fun v29 =>
(asI .i64 v29).bind fun n30 =>
if ((n30 : Int) != 0) = true then
(some (.tuple #[.int .i64 0, .bool false, .int .i64 11], (World.drew (World.drew (World.drew r11.2)))))
else
(some (.tuple #[.int .i64 0, .bool false, .int .i64 0], (World.drew (World.drew (World.drew r11.2))))))
else
((World.cell? (World.drew (World.drew (World.drew r11.2))) (Addr.add (⟨w0.heap.size, 0, none⟩) 3)).bind fun v31 =>
(asI .i64 v31).bind fun n32 =>
p19.bind fun a33 =>
(World.cell? (World.drew (World.drew (World.drew r11.2))) a33).bind fun v34 =>
(asI .i64 v34).bind fun n35 =>
if (decide ((n32 : Int) > n35)) = true then
((World.cell? (World.drew (World.drew (World.drew r11.2))) (Addr.add (⟨w0.heap.size, 0, none⟩) 4)).bind fun v36 =>
(asI .i64 v36).bind fun n37 =>
if ((n37 : Int) != 0) = true then
(some (.tuple #[.int .i64 0, .bool false, .int .i64 11], (World.drew (World.drew (World.drew r11.2)))))
else
(some (.tuple #[.int .i64 0, .bool false, .int .i64 0], (World.drew (World.drew (World.drew r11.2))))))
else
(p19.bind fun a38 =>
(World.cell? (World.drew (World.drew (World.drew r11.2))) (Addr.add a38 2)).bind fun v39 =>
(asSl v39).bind fun q40 =>
g11_l42 w0 p19 q40 (0, false, 0, 0) (World.drew (World.drew (World.drew r11.2))))))))
else
((World.cell? (World.drew (World.drew r11.2)) (Addr.add (⟨w0.heap.size, 0, none⟩) 6)).bind fun v134 =>
(asB v134).bind fun b135 =>
if b135 = true then
(some (.tuple #[.int .i64 0, .bool false, .int .i64 0], (World.drew (World.drew r11.2))))
else
(if (p19.isNone) = true then
((World.cell? (World.drew (World.drew (World.drew r11.2))) (Addr.add (⟨w0.heap.size, 0, none⟩) 4)).bind fun v136 =>
(asI .i64 v136).bind fun n137 =>
if ((n137 : Int) != 0) = true then
(some (.tuple #[.int .i64 0, .bool false, .int .i64 11], (World.drew (World.drew (World.drew r11.2)))))
else
(some (.tuple #[.int .i64 0, .bool false, .int .i64 0], (World.drew (World.drew (World.drew r11.2))))))
else
((World.cell? (World.drew (World.drew (World.drew r11.2))) (Addr.add (⟨w0.heap.size, 0, none⟩) 3)).bind fun v138 =>
(asI .i64 v138).bind fun n139 =>
p19.bind fun a140 =>
(World.cell? (World.drew (World.drew (World.drew r11.2))) a140).bind fun v141 =>
(asI .i64 v141).bind fun n142 =>
if (decide ((n139 : Int) > n142)) = true then
((World.cell? (World.drew (World.drew (World.drew r11.2))) (Addr.add (⟨w0.heap.size, 0, none⟩) 4)).bind fun v143 =>
(asI .i64 v143).bind fun n144 =>
if ((n144 : Int) != 0) = true then
(some (.tuple #[.int .i64 0, .bool false, .int .i64 11], (World.drew (World.drew (World.drew r11.2)))))
else
(some (.tuple #[.int .i64 0, .bool false, .int .i64 0], (World.drew (World.drew (World.drew r11.2))))))
else
(p19.bind fun a145 =>
(World.cell? (World.drew (World.drew (World.drew r11.2))) (Addr.add a145 2)).bind fun v146 =>
(asSl v146).bind fun q147 =>
g11_l149 w0 p19 q147 (0, false, 0, 0) (World.drew (World.drew (World.drew r11.2))))))))))

theorem g11_eq (u0 : Option Addr) (u1c0 : Int) (u1c1 : Int) (u1c2 : Int) (u1c3 : Int) (u1c4 : Int) (u1c5 : Bool) (u1c6 : Bool) (u1c7 : Bool) (u1c8 : Option Addr × Nat × Nat) (w0 : World) : evFn Try.prog 11 g11_ann #[.pointer u0, .agg #[.int .i64 u1c0, .int .i64 u1c1, .int .u64 u1c2, .int .i64 u1c3, .int .i64 u1c4, .bool u1c5, .bool u1c6, .bool u1c7, .slice u1c8.1 u1c8.2.1 u1c8.2.2]] w0 = g11 u0 u1c0 u1c1 u1c2 u1c3 u1c4 u1c5 u1c6 u1c7 u1c8 w0 := by kernel_rfl

theorem g11_call {u0 : Option Addr} {u1c0 : Int} {u1c1 : Int} {u1c2 : Int} {u1c3 : Int} {u1c4 : Int} {u1c5 : Bool} {u1c6 : Bool} {u1c7 : Bool} {u1c8 : Option Addr × Nat × Nat} {w0 : World} {r : Value × World} (h : g11 u0 u1c0 u1c1 u1c2 u1c3 u1c4 u1c5 u1c6 u1c7 u1c8 w0 = some r) : callF Try.prog 11 #[.pointer u0, .agg #[.int .i64 u1c0, .int .i64 u1c1, .int .u64 u1c2, .int .i64 u1c3, .int .i64 u1c4, .bool u1c5, .bool u1c6, .bool u1c7, .slice u1c8.1 u1c8.2.1 u1c8.2.2]] w0 = some r :=
  callF_of_evFn (ann := g11_ann) Try.call11 (by kernel_rfl) ((g11_eq u0 u1c0 u1c1 u1c2 u1c3 u1c4 u1c5 u1c6 u1c7 u1c8 w0).trans h)

theorem g11_l42_x1_of {w0 : World} {p19 : Option Addr} {q40 : Option Addr × Nat × Nat} {s t : Int × Bool × Int × Int} {w w' : World} (h : loopS (g11_l42_b q40 w0 p19) s w = some (.exit 1, t, w')) : g11_l42 w0 p19 q40 s w = g11_l42_x1 w0 p19 t w' := by
  have h1 : g11_l42 w0 p19 q40 s w = loopM Try.prog 86 11 g11_ann (cAt [1, 1, 1, 1, 1, 0, 1, 0, 0] (bodyOf Try.f11)) [0, 1, 0, 1, 1, 1, 1, 1] g11_K124 ((g11_l42_cs w0 p19 q40) ++ sputs [(4, .i .i64), (5, .b), (6, .i .i64), (64, .i .i64)] s) w := by kernel_rfl
  have h2 : loopM Try.prog 86 11 g11_ann (cAt [1, 1, 1, 1, 1, 0, 1, 0, 0] (bodyOf Try.f11)) [0, 1, 0, 1, 1, 1, 1, 1] g11_K124 ((g11_l42_cs w0 p19 q40) ++ sputs [(4, .i .i64), (5, .b), (6, .i .i64), (64, .i .i64)] s) w = g11_K124 (.exit 1) (puts 86 ((g11_l42_cs w0 p19 q40) ++ sputs [(4, .i .i64), (5, .b), (6, .i .i64), (64, .i .i64)] t)) w' :=
    loop_rule (P := Try.prog) (N := 86) (f := 11) (ann := g11_ann) (body := (cAt [1, 1, 1, 1, 1, 0, 1, 0, 0] (bodyOf Try.f11))) (pt := [0, 1, 0, 1, 1, 1, 1, 1]) (K := g11_K124) (g11_l42_cs w0 p19 q40) [(4, .i .i64), (5, .b), (6, .i .i64), (64, .i .i64)] (b := g11_l42_b q40 w0 p19) (fun s w => by kernel_rfl) (by kernel_rfl) (by kernel_rfl) (by kernel_rfl) h
  have h3 : g11_K124 (.exit 1) (puts 86 ((g11_l42_cs w0 p19 q40) ++ sputs [(4, .i .i64), (5, .b), (6, .i .i64), (64, .i .i64)] t)) w' = g11_l42_x1 w0 p19 t w' := by kernel_rfl
  exact h1.trans (h2.trans h3)

theorem g11_l42_ret_of {w0 : World} {p19 : Option Addr} {q40 : Option Addr × Nat × Nat} {s t : Int × Bool × Int × Int} {w w' : World} (h : loopS (g11_l42_b q40 w0 p19) s w = some (.ret, t, w')) : g11_l42 w0 p19 q40 s w = g11_l42_ret t w' := by
  have h1 : g11_l42 w0 p19 q40 s w = loopM Try.prog 86 11 g11_ann (cAt [1, 1, 1, 1, 1, 0, 1, 0, 0] (bodyOf Try.f11)) [0, 1, 0, 1, 1, 1, 1, 1] g11_K124 ((g11_l42_cs w0 p19 q40) ++ sputs [(4, .i .i64), (5, .b), (6, .i .i64), (64, .i .i64)] s) w := by kernel_rfl
  have h2 : loopM Try.prog 86 11 g11_ann (cAt [1, 1, 1, 1, 1, 0, 1, 0, 0] (bodyOf Try.f11)) [0, 1, 0, 1, 1, 1, 1, 1] g11_K124 ((g11_l42_cs w0 p19 q40) ++ sputs [(4, .i .i64), (5, .b), (6, .i .i64), (64, .i .i64)] s) w = g11_K124 (.ret) (puts 86 ((g11_l42_cs w0 p19 q40) ++ sputs [(4, .i .i64), (5, .b), (6, .i .i64), (64, .i .i64)] t)) w' :=
    loop_rule (P := Try.prog) (N := 86) (f := 11) (ann := g11_ann) (body := (cAt [1, 1, 1, 1, 1, 0, 1, 0, 0] (bodyOf Try.f11))) (pt := [0, 1, 0, 1, 1, 1, 1, 1]) (K := g11_K124) (g11_l42_cs w0 p19 q40) [(4, .i .i64), (5, .b), (6, .i .i64), (64, .i .i64)] (b := g11_l42_b q40 w0 p19) (fun s w => by kernel_rfl) (by kernel_rfl) (by kernel_rfl) (by kernel_rfl) h
  have h3 : g11_K124 (.ret) (puts 86 ((g11_l42_cs w0 p19 q40) ++ sputs [(4, .i .i64), (5, .b), (6, .i .i64), (64, .i .i64)] t)) w' = g11_l42_ret t w' := by kernel_rfl
  exact h1.trans (h2.trans h3)

theorem g11_l149_x1_of {w0 : World} {p19 : Option Addr} {q147 : Option Addr × Nat × Nat} {s t : Int × Bool × Int × Int} {w w' : World} (h : loopS (g11_l149_b q147 w0 p19) s w = some (.exit 1, t, w')) : g11_l149 w0 p19 q147 s w = g11_l149_x1 w0 p19 t w' := by
  have h1 : g11_l149 w0 p19 q147 s w = loopM Try.prog 86 11 g11_ann (cAt [1, 1, 1, 1, 1, 0, 1, 0, 0] (bodyOf Try.f11)) [0, 1, 0, 1, 1, 1, 1, 1] g11_K230 ((g11_l149_cs w0 p19 q147) ++ sputs [(4, .i .i64), (5, .b), (6, .i .i64), (64, .i .i64)] s) w := by kernel_rfl
  have h2 : loopM Try.prog 86 11 g11_ann (cAt [1, 1, 1, 1, 1, 0, 1, 0, 0] (bodyOf Try.f11)) [0, 1, 0, 1, 1, 1, 1, 1] g11_K230 ((g11_l149_cs w0 p19 q147) ++ sputs [(4, .i .i64), (5, .b), (6, .i .i64), (64, .i .i64)] s) w = g11_K230 (.exit 1) (puts 86 ((g11_l149_cs w0 p19 q147) ++ sputs [(4, .i .i64), (5, .b), (6, .i .i64), (64, .i .i64)] t)) w' :=
    loop_rule (P := Try.prog) (N := 86) (f := 11) (ann := g11_ann) (body := (cAt [1, 1, 1, 1, 1, 0, 1, 0, 0] (bodyOf Try.f11))) (pt := [0, 1, 0, 1, 1, 1, 1, 1]) (K := g11_K230) (g11_l149_cs w0 p19 q147) [(4, .i .i64), (5, .b), (6, .i .i64), (64, .i .i64)] (b := g11_l149_b q147 w0 p19) (fun s w => by kernel_rfl) (by kernel_rfl) (by kernel_rfl) (by kernel_rfl) h
  have h3 : g11_K230 (.exit 1) (puts 86 ((g11_l149_cs w0 p19 q147) ++ sputs [(4, .i .i64), (5, .b), (6, .i .i64), (64, .i .i64)] t)) w' = g11_l149_x1 w0 p19 t w' := by kernel_rfl
  exact h1.trans (h2.trans h3)

theorem g11_l149_ret_of {w0 : World} {p19 : Option Addr} {q147 : Option Addr × Nat × Nat} {s t : Int × Bool × Int × Int} {w w' : World} (h : loopS (g11_l149_b q147 w0 p19) s w = some (.ret, t, w')) : g11_l149 w0 p19 q147 s w = g11_l149_ret t w' := by
  have h1 : g11_l149 w0 p19 q147 s w = loopM Try.prog 86 11 g11_ann (cAt [1, 1, 1, 1, 1, 0, 1, 0, 0] (bodyOf Try.f11)) [0, 1, 0, 1, 1, 1, 1, 1] g11_K230 ((g11_l149_cs w0 p19 q147) ++ sputs [(4, .i .i64), (5, .b), (6, .i .i64), (64, .i .i64)] s) w := by kernel_rfl
  have h2 : loopM Try.prog 86 11 g11_ann (cAt [1, 1, 1, 1, 1, 0, 1, 0, 0] (bodyOf Try.f11)) [0, 1, 0, 1, 1, 1, 1, 1] g11_K230 ((g11_l149_cs w0 p19 q147) ++ sputs [(4, .i .i64), (5, .b), (6, .i .i64), (64, .i .i64)] s) w = g11_K230 (.ret) (puts 86 ((g11_l149_cs w0 p19 q147) ++ sputs [(4, .i .i64), (5, .b), (6, .i .i64), (64, .i .i64)] t)) w' :=
    loop_rule (P := Try.prog) (N := 86) (f := 11) (ann := g11_ann) (body := (cAt [1, 1, 1, 1, 1, 0, 1, 0, 0] (bodyOf Try.f11))) (pt := [0, 1, 0, 1, 1, 1, 1, 1]) (K := g11_K230) (g11_l149_cs w0 p19 q147) [(4, .i .i64), (5, .b), (6, .i .i64), (64, .i .i64)] (b := g11_l149_b q147 w0 p19) (fun s w => by kernel_rfl) (by kernel_rfl) (by kernel_rfl) (by kernel_rfl) h
  have h3 : g11_K230 (.ret) (puts 86 ((g11_l149_cs w0 p19 q147) ++ sputs [(4, .i .i64), (5, .b), (6, .i .i64), (64, .i .i64)] t)) w' = g11_l149_ret t w' := by kernel_rfl
  exact h1.trans (h2.trans h3)

/-! 12: penstock/penstockref07.DocCheck (b: api.Batch) -/
def g12_ann : List (List Nat × List Nat) := [([0, 1, 0, 1], [1, 14, 15, 2, 16]), ([0, 1, 0, 1, 1, 1, 1, 1, 1], [1, 2, 5]), ([0, 1, 0, 1, 1, 1, 1, 1, 1], [1, 2, 5])]

def g12_l10_cs (w0 : World) (u0c0 : Int) (u0c1 : Int) (u0c2 : Int) (u0c3 : Int) (u0c4 : Int) (u0c5 : Bool) (u0c6 : Bool) (u0c7 : Bool) (u0c8 : Option Addr × Nat × Nat) : List (Nat × Value) := ([(1, .pointer (some (⟨w0.heap.size, 0, none⟩))), (14, .slice (some (⟨(World.alloc w0 (.cells #[.int .i64 u0c0, .int .i64 u0c1, .int .u64 u0c2, .int .i64 u0c3, .int .i64 u0c4, .bool u0c5, .bool u0c6, .bool u0c7, .slice u0c8.1 u0c8.2.1 u0c8.2.2] 30)).heap.size, 0, none⟩)) 4 4), (15, .int .i64 4)] : List (Nat × Value))

/-- the round of a loop (penstock/penstockref07.DocCheck) -/
noncomputable def g12_l10_b (w0 : World) (u0c0 : Int) (u0c1 : Int) (u0c2 : Int) (u0c3 : Int) (u0c4 : Int) (u0c5 : Bool) (u0c6 : Bool) (u0c7 : Bool) (u0c8 : Option Addr × Nat × Nat) (s11 : Int × Int) (w12 : World) : Option (Exit × (Int × Int) × World) :=
if (decide ((s11.2 : Int) < 4)) = true then
((idxA (some (⟨(World.alloc w0 (.cells #[.int .i64 u0c0, .int .i64 u0c1, .int .u64 u0c2, .int .i64 u0c3, .int .i64 u0c4, .bool u0c5, .bool u0c6, .bool u0c7, .slice u0c8.1 u0c8.2.1 u0c8.2.2] 30)).heap.size, 0, none⟩)) 4 1 s11.2).bind fun a13 =>
(World.cell? w12 a13).bind fun v14 =>
(asI .i64 v14).bind fun n15 =>
if (decide ((n15 : Int) < 0)) = true then
(some (.ret, (1, s11.2), w12))
else
(some (.normal, (s11.1, (IntKind.i64.wrap (s11.2 + 1))), w12)))
else
(some ((.exit 0), (s11.1, s11.2), w12))

noncomputable def g12_K16  : Exit → Env → World → Option (Value × World) :=
  retK Try.prog Try.f12.results.toList

noncomputable def g12_K17  : Exit → Env → World → Option (Value × World) :=
  seqK (ev Try.prog 95 12 g12_ann (cAt [1, 1] (bodyOf Try.f12)) [1, 1] g12_K16) g12_K16

noncomputable def g12_K18  : Exit → Env → World → Option (Value × World) :=
  blkK 0 g12_K17

/-- the loop, from a state on -/
noncomputable def g12_l10 (w0 : World) (u0c0 : Int) (u0c1 : Int) (u0c2 : Int) (u0c3 : Int) (u0c4 : Int) (u0c5 : Bool) (u0c6 : Bool) (u0c7 : Bool) (u0c8 : Option Addr × Nat × Nat) (s : Int × Int) (w : World) : Option (Value × World) :=
  loopM Try.prog 95 12 g12_ann (cAt [1, 0, 1, 0, 0] (bodyOf Try.f12)) [0, 1, 0, 1] g12_K18 ((g12_l10_cs w0 u0c0 u0c1 u0c2 u0c3 u0c4 u0c5 u0c6 u0c7 u0c8) ++ sputs [(2, .i .i64), (16, .i .i64)] s) w

def g12_l53_cs (w0 : World) : List (Nat × Value) := ([(1, .pointer (some (⟨w0.heap.size, 0, none⟩)))] : List (Nat × Value))

/-- the round of a loop (penstock/penstockref07.DocCheck) -/
noncomputable def g12_l53_b (w0 : World) (s54 : Int × Int) (w55 : World) : Option (Exit × (Int × Int) × World) :=
(World.cell? w55 (Addr.add (⟨w0.heap.size, 0, none⟩) 8)).bind fun v56 =>
(asSl v56).bind fun q57 =>
if (decide ((s54.2 : Int) < (q57.2.1 : Int))) = true then
((World.cell? w55 (Addr.add (⟨w0.heap.size, 0, none⟩) 8)).bind fun v59 =>
(asSl v59).bind fun q60 =>
(idxA q60.1 q60.2.1 1 s54.2).bind fun a61 =>
(World.cell? w55 a61).bind fun v62 =>
(asSl v62).bind fun q63 =>
if (decide (((q63.2.1 : Int) : Int) > 64)) = true then
(some (.ret, (2, s54.2), w55))
else
(some (.normal, (s54.1, (IntKind.i64.wrap (s54.2 + 1))), w55)))
else
(some ((.exit 2), (s54.1, s54.2), w55))

noncomputable def g12_K65  : Exit → Env → World → Option (Value × World) :=
  seqK (ev Try.prog 95 12 g12_ann (cAt [1, 1, 1, 1, 1, 1, 1] (bodyOf Try.f12)) [1, 1, 1, 1, 1, 1, 1] g12_K16) g12_K16

noncomputable def g12_K66  : Exit → Env → World → Option (Value × World) :=
  blkK 2 g12_K65

/-- the loop, from a state on -/
noncomputable def g12_l53 (w0 : World) (s : Int × Int) (w : World) : Option (Value × World) :=
  loopM Try.prog 95 12 g12_ann (cAt [1, 1, 1, 1, 1, 1, 0, 1, 0, 0] (bodyOf Try.f12)) [0, 1, 0, 1, 1, 1, 1, 1, 1] g12_K66 ((g12_l53_cs w0) ++ sputs [(2, .i .i64), (5, .i .i64)] s) w

/-- behind the loop, left by x2 -/
noncomputable def g12_l53_x2  (t67 : Int × Int) (w68 : World) : Option (Value × World) :=
some (.int .i64 0, w68)

/-- behind the loop, left by ret -/
noncomputable def g12_l53_ret  (t69 : Int × Int) (w70 : World) : Option (Value × World) :=
some (.int .i64 t69.1, w70)

def g12_l74_cs (w0 : World) : List (Nat × Value) := ([(1, .pointer (some (⟨w0.heap.size, 0, none⟩)))] : List (Nat × Value))

/-- the round of a loop (penstock/penstockref07.DocCheck) -/
noncomputable def g12_l74_b (w0 : World) (s75 : Int × Int) (w76 : World) : Option (Exit × (Int × Int) × World) :=
(World.cell? w76 (Addr.add (⟨w0.heap.size, 0, none⟩) 8)).bind fun v77 =>
(asSl v77).bind fun q78 =>
if (decide ((s75.2 : Int) < (q78.2.1 : Int))) = true then
((World.cell? w76 (Addr.add (⟨w0.heap.size, 0, none⟩) 8)).bind fun v80 =>
(asSl v80).bind fun q81 =>
(idxA q81.1 q81.2.1 1 s75.2).bind fun a82 =>
(World.cell? w76 a82).bind fun v83 =>
(asSl v83).bind fun q84 =>
if (decide (((q84.2.1 : Int) : Int) > 64)) = true then
(some (.ret, (2, s75.2), w76))
else
(some (.normal, (s75.1, (IntKind.i64.wrap (s75.2 + 1))), w76)))
else
(some ((.exit 2), (s75.1, s75.2), w76))

noncomputable def g12_K86  : Exit → Env → World → Option (Value × World) :=
  seqK (ev Try.prog 95 12 g12_ann (cAt [1, 1, 1, 1, 1, 1, 1] (bodyOf Try.f12)) [1, 1, 1, 1, 1, 1, 1] g12_K16) g12_K16

noncomputable def g12_K87  : Exit → Env → World → Option (Value × World) :=
  blkK 2 g12_K86

/-- the loop, from a state on -/
noncomputable def g12_l74 (w0 : World) (s : Int × Int) (w : World) : Option (Value × World) :=
  loopM Try.prog 95 12 g12_ann (cAt [1, 1, 1, 1, 1, 1, 0, 1, 0, 0] (bodyOf Try.f12)) [0, 1, 0, 1, 1, 1, 1, 1, 1] g12_K87 ((g12_l74_cs w0) ++ sputs [(2, .i .i64), (5, .i .i64)] s) w

/-- behind the loop, left by x2 -/
noncomputable def g12_l74_x2  (t88 : Int × Int) (w89 : World) : Option (Value × World) :=
some (.int .i64 0, w89)

/-- behind the loop, left by ret -/
noncomputable def g12_l74_ret  (t90 : Int × Int) (w91 : World) : Option (Value × World) :=
some (.int .i64 t90.1, w91)

noncomputable def g12_j25 (w20 : World) (w0 : World) (t19 : Int × Int) : Option (Value × World) :=
(World.cell? w20 (Addr.add (⟨w0.heap.size, 0, none⟩) 2)).bind fun v42 =>
(asI .u64 v42).bind fun n43 =>
if ((n43 : Int) == 0) = true then
((World.cell? w20 (Addr.add (⟨w0.heap.size, 0, none⟩) 5)).bind fun v44 =>
(asB v44).bind fun b45 =>
if b45 = true then
(some (.int .i64 7, w20))
else
((World.cell? w20 (Addr.add (⟨w0.heap.size, 0, none⟩) 3)).bind fun v46 =>
(asI .i64 v46).bind fun n47 =>
if (decide ((n47 : Int) > 0)) = true then
(some (.int .i64 7, w20))
else
((World.cell? w20 (Addr.add (⟨w0.heap.size, 0, none⟩) 4)).bind fun v48 =>
(asI .i64 v48).bind fun n49 =>
if (decide ((n49 : Int) > 0)) = true then
(some (.int .i64 7, w20))
else
((World.cell? w20 (Addr.add (⟨w0.heap.size, 0, none⟩) 8)).bind fun v50 =>
(asSl v50).bind fun q51 =>
if (decide (((q51.2.1 : Int) : Int) > 16)) = true then
(some (.int .i64 2, w20))
else
(g12_l53 w0 (t19.1, 0) w20)))))
else
((World.cell? w20 (Addr.add (⟨w0.heap.size, 0, none⟩) 8)).bind fun v71 =>
(asSl v71).bind fun q72 =>
if (decide (((q72.2.1 : Int) : Int) > 16)) = true then
(some (.int .i64 2, w20))
else
(g12_l74 w0 (t19.1, 0) w20))

/-- behind the loop, left by x0 -/
noncomputable def g12_l10_x0 (w0 : World) (t19 : Int × Int) (w20 : World) : Option (Value × World) :=
(World.cell? w20 (Addr.add (⟨w0.heap.size, 0, none⟩) 3)).bind fun v21 =>
(asI .i64 v21).bind fun n22 =>
if (decide ((n22 : Int) > 1000)) = true then
(some (.int .i64 1, w20))
else
((World.cell? w20 (Addr.add (⟨w0.heap.size, 0, none⟩) 2)).bind fun v23 =>
(asI .u64 v23).bind fun n24 =>
if (decide ((n24 : Int) > 1000)) = true then
(some (.int .i64 1, w20))
else
((World.cell? w20 (Addr.add (⟨w0.heap.size, 0, none⟩) 6)).bind fun v26 =>
(asB v26).bind fun b27 =>
if b27 = true then
((World.cell? w20 (Addr.add (⟨w0.heap.size, 0, none⟩) 8)).bind fun v28 =>
(asSl v28).bind fun q29 =>
if (decide (((q29.2.1 : Int) : Int) > 0)) = true then
(some (.int .i64 7, w20))
else
((World.cell? w20 (Addr.add (⟨w0.heap.size, 0, none⟩) 5)).bind fun v31 =>
(asB v31).bind fun b32 =>
if (!b32) = true then
(some (.int .i64 7, w20))
else
((World.cell? w20 (Addr.add (⟨w0.heap.size, 0, none⟩) 2)).bind fun v33 =>
(asI .u64 v33).bind fun n34 =>
if ((n34 : Int) == 0) = true then
(some (.int .i64 7, w20))
else
((World.cell? w20 (Addr.add (⟨w0.heap.size, 0, none⟩) 4)).bind fun v35 =>
(asI .i64 v35).bind fun n36 =>
if ((n36 : Int) != 0) = true then
(some (.int .i64 7, w20))
else
(g12_j25 w20 w0 t19)))))
else
((World.cell? w20 (Addr.add (⟨w0.heap.size, 0, none⟩) 8)).bind fun v37 =>
(asSl v37).bind fun q38 =>
if (((q38.2.1 : Int) : Int) == 0) = true then
(some (.int .i64 7, w20))
else
((World.cell? w20 (Addr.add (⟨w0.heap.size, 0, none⟩) 7)).bind fun v40 =>
(asB v40).bind fun b41 =>
if b41 = true then
(some (.int .i64 7, w20))
else
(g12_j25 w20 w0 t19)))))

/-- behind the loop, left by ret -/
noncomputable def g12_l10_ret  (t92 : Int × Int) (w93 : World) : Option (Value × World) :=
some (.int .i64 t92.1, w93)

noncomputable def g12 (u0c0 : Int) (u0c1 : Int) (u0c2 : Int) (u0c3 : Int) (u0c4 : Int) (u0c5 : Bool) (u0c6 : Bool) (u0c7 : Bool) (u0c8 : Option Addr × Nat × Nat) (w0 : World) : Option (Value × World) :=
(World.cell? (World.alloc w0 (.cells #[.int .i64 u0c0, .int .i64 u0c1, .int .u64 u0c2, .int .i64 u0c3, .int .i64 u0c4, .bool u0c5, .bool u0c6, .bool u0c7, .slice u0c8.1 u0c8.2.1 u0c8.2.2] 30)) (⟨w0.heap.size, 0, none⟩)).bind fun v1 =>
(asI .i64 v1).bind fun n2 =>
(World.cell? (World.alloc w0 (.cells #[.int .i64 u0c0, .int .i64 u0c1, .int .u64 u0c2, .int .i64 u0c3, .int .i64 u0c4, .bool u0c5, .bool u0c6, .bool u0c7, .slice u0c8.1 u0c8.2.1 u0c8.2.2] 30)) (Addr.add (⟨w0.heap.size, 0, none⟩) 1)).bind fun v3 =>
(asI .i64 v3).bind fun n4 =>
(World.cell? (World.alloc w0 (.cells #[.int .i64 u0c0, .int .i64 u0c1, .int .u64 u0c2, .int .i64 u0c3, .int .i64 u0c4, .bool u0c5, .bool u0c6, .bool u0c7, .slice u0c8.1 u0c8.2.1 u0c8.2.2] 30)) (Addr.add (⟨w0.heap.size, 0, none⟩) 3)).bind fun v5 =>
(asI .i64 v5).bind fun n6 =>
(World.cell? (World.alloc w0 (.cells #[.int .i64 u0c0, .int .i64 u0c1, .int .u64 u0c2, .int .i64 u0c3, .int .i64 u0c4, .bool u0c5, .bool u0c6, .bool u0c7, .slice u0c8.1 u0c8.2.1 u0c8.2.2] 30)) (Addr.add (⟨w0.heap.size, 0, none⟩) 4)).bind fun v7 =>
(asI .i64 v7).bind fun n8 =>
g12_l10 w0 u0c0 u0c1 u0c2 u0c3 u0c4 u0c5 u0c6 u0c7 u0c8 (0, 0) (World.alloc (World.alloc w0 (.cells #[.int .i64 u0c0, .int .i64 u0c1, .int .u64 u0c2, .int .i64 u0c3, .int .i64 u0c4, .bool u0c5, .bool u0c6, .bool u0c7, .slice u0c8.1 u0c8.2.1 u0c8.2.2] 30)) (.cells #[.int .i64 n2, .int .i64 n4, .int .i64 n6, .int .i64 n8] 3))

theorem g12_eq (u0c0 : Int) (u0c1 : Int) (u0c2 : Int) (u0c3 : Int) (u0c4 : Int) (u0c5 : Bool) (u0c6 : Bool) (u0c7 : Bool) (u0c8 : Option Addr × Nat × Nat) (w0 : World) : evFn Try.prog 12 g12_ann #[.agg #[.int .i64 u0c0, .int .i64 u0c1, .int .u64 u0c2, .int .i64 u0c3, .int .i64 u0c4, .bool u0c5, .bool u0c6, .bool u0c7, .slice u0c8.1 u0c8.2.1 u0c8.2.2]] w0 = g12 u0c0 u0c1 u0c2 u0c3 u0c4 u0c5 u0c6 u0c7 u0c8 w0 := by kernel_rfl

theorem g12_call {u0c0 : Int} {u0c1 : Int} {u0c2 : Int} {u0c3 : Int} {u0c4 : Int} {u0c5 : Bool} {u0c6 : Bool} {u0c7 : Bool} {u0c8 : Option Addr × Nat × Nat} {w0 : World} {r : Value × World} (h : g12 u0c0 u0c1 u0c2 u0c3 u0c4 u0c5 u0c6 u0c7 u0c8 w0 = some r) : callF Try.prog 12 #[.agg #[.int .i64 u0c0, .int .i64 u0c1, .int .u64 u0c2, .int .i64 u0c3, .int .i64 u0c4, .bool u0c5, .bool u0c6, .bool u0c7, .slice u0c8.1 u0c8.2.1 u0c8.2.2]] w0 = some r :=
  callF_of_evFn (ann := g12_ann) Try.call12 (by kernel_rfl) ((g12_eq u0c0 u0c1 u0c2 u0c3 u0c4 u0c5 u0c6 u0c7 u0c8 w0).trans h)

theorem g12_l53_x2_of {w0 : World} {s t : Int × Int} {w w' : World} (h : loopS (g12_l53_b w0) s w = some (.exit 2, t, w')) : g12_l53 w0 s w = g12_l53_x2 t w' := by
  have h1 : g12_l53 w0 s w = loopM Try.prog 95 12 g12_ann (cAt [1, 1, 1, 1, 1, 1, 0, 1, 0, 0] (bodyOf Try.f12)) [0, 1, 0, 1, 1, 1, 1, 1, 1] g12_K66 ((g12_l53_cs w0) ++ sputs [(2, .i .i64), (5, .i .i64)] s) w := by kernel_rfl
  have h2 : loopM Try.prog 95 12 g12_ann (cAt [1, 1, 1, 1, 1, 1, 0, 1, 0, 0] (bodyOf Try.f12)) [0, 1, 0, 1, 1, 1, 1, 1, 1] g12_K66 ((g12_l53_cs w0) ++ sputs [(2, .i .i64), (5, .i .i64)] s) w = g12_K66 (.exit 2) (puts 95 ((g12_l53_cs w0) ++ sputs [(2, .i .i64), (5, .i .i64)] t)) w' :=
    loop_rule (P := Try.prog) (N := 95) (f := 12) (ann := g12_ann) (body := (cAt [1, 1, 1, 1, 1, 1, 0, 1, 0, 0] (bodyOf Try.f12))) (pt := [0, 1, 0, 1, 1, 1, 1, 1, 1]) (K := g12_K66) (g12_l53_cs w0) [(2, .i .i64), (5, .i .i64)] (b := g12_l53_b w0) (fun s w => by kernel_rfl) (by kernel_rfl) (by kernel_rfl) (by kernel_rfl) h
  have h3 : g12_K66 (.exit 2) (puts 95 ((g12_l53_cs w0) ++ sputs [(2, .i .i64), (5, .i .i64)] t)) w' = g12_l53_x2 t w' := by kernel_rfl
  exact h1.trans (h2.trans h3)

theorem g12_l53_ret_of {w0 : World} {s t : Int × Int} {w w' : World} (h : loopS (g12_l53_b w0) s w = some (.ret, t, w')) : g12_l53 w0 s w = g12_l53_ret t w' := by
  have h1 : g12_l53 w0 s w = loopM Try.prog 95 12 g12_ann (cAt [1, 1, 1, 1, 1, 1, 0, 1, 0, 0] (bodyOf Try.f12)) [0, 1, 0, 1, 1, 1, 1, 1, 1] g12_K66 ((g12_l53_cs w0) ++ sputs [(2, .i .i64), (5, .i .i64)] s) w := by kernel_rfl
  have h2 : loopM Try.prog 95 12 g12_ann (cAt [1, 1, 1, 1, 1, 1, 0, 1, 0, 0] (bodyOf Try.f12)) [0, 1, 0, 1, 1, 1, 1, 1, 1] g12_K66 ((g12_l53_cs w0) ++ sputs [(2, .i .i64), (5, .i .i64)] s) w = g12_K66 (.ret) (puts 95 ((g12_l53_cs w0) ++ sputs [(2, .i .i64), (5, .i .i64)] t)) w' :=
    loop_rule (P := Try.prog) (N := 95) (f := 12) (ann := g12_ann) (body := (cAt [1, 1, 1, 1, 1, 1, 0, 1, 0, 0] (bodyOf Try.f12))) (pt := [0, 1, 0, 1, 1, 1, 1, 1, 1]) (K := g12_K66) (g12_l53_cs w0) [(2, .i .i64), (5, .i .i64)] (b := g12_l53_b w0) (fun s w => by kernel_rfl) (by kernel_rfl) (by kernel_rfl) (by kernel_rfl) h
  have h3 : g12_K66 (.ret) (puts 95 ((g12_l53_cs w0) ++ sputs [(2, .i .i64), (5, .i .i64)] t)) w' = g12_l53_ret t w' := by kernel_rfl
  exact h1.trans (h2.trans h3)

theorem g12_l74_x2_of {w0 : World} {s t : Int × Int} {w w' : World} (h : loopS (g12_l74_b w0) s w = some (.exit 2, t, w')) : g12_l74 w0 s w = g12_l74_x2 t w' := by
  have h1 : g12_l74 w0 s w = loopM Try.prog 95 12 g12_ann (cAt [1, 1, 1, 1, 1, 1, 0, 1, 0, 0] (bodyOf Try.f12)) [0, 1, 0, 1, 1, 1, 1, 1, 1] g12_K87 ((g12_l74_cs w0) ++ sputs [(2, .i .i64), (5, .i .i64)] s) w := by kernel_rfl
  have h2 : loopM Try.prog 95 12 g12_ann (cAt [1, 1, 1, 1, 1, 1, 0, 1, 0, 0] (bodyOf Try.f12)) [0, 1, 0, 1, 1, 1, 1, 1, 1] g12_K87 ((g12_l74_cs w0) ++ sputs [(2, .i .i64), (5, .i .i64)] s) w = g12_K87 (.exit 2) (puts 95 ((g12_l74_cs w0) ++ sputs [(2, .i .i64), (5, .i .i64)] t)) w' :=
    loop_rule (P := Try.prog) (N := 95) (f := 12) (ann := g12_ann) (body := (cAt [1, 1, 1, 1, 1, 1, 0, 1, 0, 0] (bodyOf Try.f12))) (pt := [0, 1, 0, 1, 1, 1, 1, 1, 1]) (K := g12_K87) (g12_l74_cs w0) [(2, .i .i64), (5, .i .i64)] (b := g12_l74_b w0) (fun s w => by kernel_rfl) (by kernel_rfl) (by kernel_rfl) (by kernel_rfl) h
  have h3 : g12_K87 (.exit 2) (puts 95 ((g12_l74_cs w0) ++ sputs [(2, .i .i64), (5, .i .i64)] t)) w' = g12_l74_x2 t w' := by kernel_rfl
  exact h1.trans (h2.trans h3)

theorem g12_l74_ret_of {w0 : World} {s t : Int × Int} {w w' : World} (h : loopS (g12_l74_b w0) s w = some (.ret, t, w')) : g12_l74 w0 s w = g12_l74_ret t w' := by
  have h1 : g12_l74 w0 s w = loopM Try.prog 95 12 g12_ann (cAt [1, 1, 1, 1, 1, 1, 0, 1, 0, 0] (bodyOf Try.f12)) [0, 1, 0, 1, 1, 1, 1, 1, 1] g12_K87 ((g12_l74_cs w0) ++ sputs [(2, .i .i64), (5, .i .i64)] s) w := by kernel_rfl
  have h2 : loopM Try.prog 95 12 g12_ann (cAt [1, 1, 1, 1, 1, 1, 0, 1, 0, 0] (bodyOf Try.f12)) [0, 1, 0, 1, 1, 1, 1, 1, 1] g12_K87 ((g12_l74_cs w0) ++ sputs [(2, .i .i64), (5, .i .i64)] s) w = g12_K87 (.ret) (puts 95 ((g12_l74_cs w0) ++ sputs [(2, .i .i64), (5, .i .i64)] t)) w' :=
    loop_rule (P := Try.prog) (N := 95) (f := 12) (ann := g12_ann) (body := (cAt [1, 1, 1, 1, 1, 1, 0, 1, 0, 0] (bodyOf Try.f12))) (pt := [0, 1, 0, 1, 1, 1, 1, 1, 1]) (K := g12_K87) (g12_l74_cs w0) [(2, .i .i64), (5, .i .i64)] (b := g12_l74_b w0) (fun s w => by kernel_rfl) (by kernel_rfl) (by kernel_rfl) (by kernel_rfl) h
  have h3 : g12_K87 (.ret) (puts 95 ((g12_l74_cs w0) ++ sputs [(2, .i .i64), (5, .i .i64)] t)) w' = g12_l74_ret t w' := by kernel_rfl
  exact h1.trans (h2.trans h3)

theorem g12_l10_x0_of {w0 : World} {u0c0 : Int} {u0c1 : Int} {u0c2 : Int} {u0c3 : Int} {u0c4 : Int} {u0c5 : Bool} {u0c6 : Bool} {u0c7 : Bool} {u0c8 : Option Addr × Nat × Nat} {s t : Int × Int} {w w' : World} (h : loopS (g12_l10_b w0 u0c0 u0c1 u0c2 u0c3 u0c4 u0c5 u0c6 u0c7 u0c8) s w = some (.exit 0, t, w')) : g12_l10 w0 u0c0 u0c1 u0c2 u0c3 u0c4 u0c5 u0c6 u0c7 u0c8 s w = g12_l10_x0 w0 t w' := by
  have h1 : g12_l10 w0 u0c0 u0c1 u0c2 u0c3 u0c4 u0c5 u0c6 u0c7 u0c8 s w = loopM Try.prog 95 12 g12_ann (cAt [1, 0, 1, 0, 0] (bodyOf Try.f12)) [0, 1, 0, 1] g12_K18 ((g12_l10_cs w0 u0c0 u0c1 u0c2 u0c3 u0c4 u0c5 u0c6 u0c7 u0c8) ++ sputs [(2, .i .i64), (16, .i .i64)] s) w := by kernel_rfl
  have h2 : loopM Try.prog 95 12 g12_ann (cAt [1, 0, 1, 0, 0] (bodyOf Try.f12)) [0, 1, 0, 1] g12_K18 ((g12_l10_cs w0 u0c0 u0c1 u0c2 u0c3 u0c4 u0c5 u0c6 u0c7 u0c8) ++ sputs [(2, .i .i64), (16, .i .i64)] s) w = g12_K18 (.exit 0) (puts 95 ((g12_l10_cs w0 u0c0 u0c1 u0c2 u0c3 u0c4 u0c5 u0c6 u0c7 u0c8) ++ sputs [(2, .i .i64), (16, .i .i64)] t)) w' :=
    loop_rule (P := Try.prog) (N := 95) (f := 12) (ann := g12_ann) (body := (cAt [1, 0, 1, 0, 0] (bodyOf Try.f12))) (pt := [0, 1, 0, 1]) (K := g12_K18) (g12_l10_cs w0 u0c0 u0c1 u0c2 u0c3 u0c4 u0c5 u0c6 u0c7 u0c8) [(2, .i .i64), (16, .i .i64)] (b := g12_l10_b w0 u0c0 u0c1 u0c2 u0c3 u0c4 u0c5 u0c6 u0c7 u0c8) (fun s w => by kernel_rfl) (by kernel_rfl) (by kernel_rfl) (by kernel_rfl) h
  have h3 : g12_K18 (.exit 0) (puts 95 ((g12_l10_cs w0 u0c0 u0c1 u0c2 u0c3 u0c4 u0c5 u0c6 u0c7 u0c8) ++ sputs [(2, .i .i64), (16, .i .i64)] t)) w' = g12_l10_x0 w0 t w' := by kernel_rfl
  exact h1.trans (h2.trans h3)

theorem g12_l10_ret_of {w0 : World} {u0c0 : Int} {u0c1 : Int} {u0c2 : Int} {u0c3 : Int} {u0c4 : Int} {u0c5 : Bool} {u0c6 : Bool} {u0c7 : Bool} {u0c8 : Option Addr × Nat × Nat} {s t : Int × Int} {w w' : World} (h : loopS (g12_l10_b w0 u0c0 u0c1 u0c2 u0c3 u0c4 u0c5 u0c6 u0c7 u0c8) s w = some (.ret, t, w')) : g12_l10 w0 u0c0 u0c1 u0c2 u0c3 u0c4 u0c5 u0c6 u0c7 u0c8 s w = g12_l10_ret t w' := by
  have h1 : g12_l10 w0 u0c0 u0c1 u0c2 u0c3 u0c4 u0c5 u0c6 u0c7 u0c8 s w = loopM Try.prog 95 12 g12_ann (cAt [1, 0, 1, 0, 0] (bodyOf Try.f12)) [0, 1, 0, 1] g12_K18 ((g12_l10_cs w0 u0c0 u0c1 u0c2 u0c3 u0c4 u0c5 u0c6 u0c7 u0c8) ++ sputs [(2, .i .i64), (16, .i .i64)] s) w := by kernel_rfl
  have h2 : loopM Try.prog 95 12 g12_ann (cAt [1, 0, 1, 0, 0] (bodyOf Try.f12)) [0, 1, 0, 1] g12_K18 ((g12_l10_cs w0 u0c0 u0c1 u0c2 u0c3 u0c4 u0c5 u0c6 u0c7 u0c8) ++ sputs [(2, .i .i64), (16, .i .i64)] s) w = g12_K18 (.ret) (puts 95 ((g12_l10_cs w0 u0c0 u0c1 u0c2 u0c3 u0c4 u0c5 u0c6 u0c7 u0c8) ++ sputs [(2, .i .i64), (16, .i .i64)] t)) w' :=
    loop_rule (P := Try.prog) (N := 95) (f := 12) (ann := g12_ann) (body := (cAt [1, 0, 1, 0, 0] (bodyOf Try.f12))) (pt := [0, 1, 0, 1]) (K := g12_K18) (g12_l10_cs w0 u0c0 u0c1 u0c2 u0c3 u0c4 u0c5 u0c6 u0c7 u0c8) [(2, .i .i64), (16, .i .i64)] (b := g12_l10_b w0 u0c0 u0c1 u0c2 u0c3 u0c4 u0c5 u0c6 u0c7 u0c8) (fun s w => by kernel_rfl) (by kernel_rfl) (by kernel_rfl) (by kernel_rfl) h
  have h3 : g12_K18 (.ret) (puts 95 ((g12_l10_cs w0 u0c0 u0c1 u0c2 u0c3 u0c4 u0c5 u0c6 u0c7 u0c8) ++ sputs [(2, .i .i64), (16, .i .i64)] t)) w' = g12_l10_ret t w' := by kernel_rfl
  exact h1.trans (h2.trans h3)

/-! 13: (*penstock/prod.Table).Unstable (t: *prod.Table) -/
def g13_ann : List (List Nat × List Nat) := [([0, 1, 0, 1, 1, 1], [14, 4, 5])]

def g13_l6_cs (p5 : Option Addr) : List (Nat × Value) := ([(14, .pointer p5)] : List (Nat × Value))

/-- the round of a loop ((*penstock/prod.Table).Unstable) -/
noncomputable def g13_l6_b (p5 : Option Addr) (s7 : Int × Bool) (w8 : World) : Option (Exit × (Int × Bool) × World) :=
(semR Try.prog (Instr.next (.pointer p5) false 0) w8).bind fun r9 =>
(asNext r9.1).bind fun o10 =>
onNext o10 (some ((.exit 0), (s7.1, s7.2), r9.2)) (fun k11 => fun v12 =>
(semR Try.prog (Instr.entry (.pointer p5)) r9.2).bind fun r13 =>
(asTup 2 r13.1).bind fun l14 =>
(asP (l14.getD 1 undef)).bind fun p15 =>
p15.bind fun a16 =>
(World.cell? r13.2 (Addr.add a16 3)).bind fun v17 =>
(asI .i64 v17).bind fun n18 =>
if (decide ((n18 : Int) ≥ 0)) = true then
(if (!s7.2) = true then
(p15.bind fun a19 =>
(World.cell? r13.2 (Addr.add a19 3)).bind fun v20 =>
(asI .i64 v20).bind fun n21 =>
some (.normal, (n21, true), r13.2))
else
(p15.bind fun a22 =>
(World.cell? r13.2 (Addr.add a22 3)).bind fun v23 =>
(asI .i64 v23).bind fun n24 =>
if (decide ((n24 : Int) < s7.1)) = true then
(p15.bind fun a25 =>
(World.cell? r13.2 (Addr.add a25 3)).bind fun v26 =>
(asI .i64 v26).bind fun n27 =>
some (.normal, (n27, true), r13.2))
else
(some (.normal, (s7.1, s7.2), r13.2))))
else
(some (.normal, (s7.1, s7.2), r13.2)))

noncomputable def g13_K28  : Exit → Env → World → Option (Value × World) :=
  retK Try.prog Try.f13.results.toList

noncomputable def g13_K29  : Exit → Env → World → Option (Value × World) :=
  seqK (ev Try.prog 42 13 g13_ann (cAt [1, 1, 1, 1] (bodyOf Try.f13)) [1, 1, 1, 1] g13_K28) g13_K28

noncomputable def g13_K30  : Exit → Env → World → Option (Value × World) :=
  blkK 0 g13_K29

/-- the loop, from a state on -/
noncomputable def g13_l6 (p5 : Option Addr) (s : Int × Bool) (w : World) : Option (Value × World) :=
  loopM Try.prog 42 13 g13_ann (cAt [1, 1, 1, 0, 1, 0, 0] (bodyOf Try.f13)) [0, 1, 0, 1, 1, 1] g13_K30 ((g13_l6_cs p5) ++ sputs [(4, .i .i64), (5, .b)] s) w

/-- behind the loop, left by x0 -/
noncomputable def g13_l6_x0  (t31 : Int × Bool) (w32 : World) : Option (Value × World) :=
some (.tuple #[.int .i64 t31.1, .bool t31.2], w32)

noncomputable def g13 (u0 : Option Addr) (w0 : World) : Option (Value × World) :=
if (u0.isNone) = true then
(some (.tuple #[.int .i64 0, .bool false], w0))
else
(u0.bind fun a1 =>
(World.cell? w0 a1).bind fun v2 =>
(asM v2).bind fun m3 =>
(semR Try.prog (Instr.range 49 (.map m3)) w0).bind fun r4 =>
(asP r4.1).bind fun p5 =>
g13_l6 p5 (0, false) r4.2)

theorem g13_eq (u0 : Option Addr) (w0 : World) : evFn Try.prog 13 g13_ann #[.pointer u0] w0 = g13 u0 w0 := by kernel_rfl

theorem g13_call {u0 : Option Addr} {w0 : World} {r : Value × World} (h : g13 u0 w0 = some r) : callF Try.prog 13 #[.pointer u0] w0 = some r :=
  callF_of_evFn (ann := g13_ann) Try.call13 (by kernel_rfl) ((g13_eq u0 w0).trans h)

theorem g13_l6_x0_of {p5 : Option Addr} {s t : Int × Bool} {w w' : World} (h : loopS (g13_l6_b p5) s w = some (.exit 0, t, w')) : g13_l6 p5 s w = g13_l6_x0 t w' := by
  have h1 : g13_l6 p5 s w = loopM Try.prog 42 13 g13_ann (cAt [1, 1, 1, 0, 1, 0, 0] (bodyOf Try.f13)) [0, 1, 0, 1, 1, 1] g13_K30 ((g13_l6_cs p5) ++ sputs [(4, .i .i64), (5, .b)] s) w := by kernel_rfl
  have h2 : loopM Try.prog 42 13 g13_ann (cAt [1, 1, 1, 0, 1, 0, 0] (bodyOf Try.f13)) [0, 1, 0, 1, 1, 1] g13_K30 ((g13_l6_cs p5) ++ sputs [(4, .i .i64), (5, .b)] s) w = g13_K30 (.exit 0) (puts 42 ((g13_l6_cs p5) ++ sputs [(4, .i .i64), (5, .b)] t)) w' :=
    loop_rule (P := Try.prog) (N := 42) (f := 13) (ann := g13_ann) (body := (cAt [1, 1, 1, 0, 1, 0, 0] (bodyOf Try.f13))) (pt := [0, 1, 0, 1, 1, 1]) (K := g13_K30) (g13_l6_cs p5) [(4, .i .i64), (5, .b)] (b := g13_l6_b p5) (fun s w => by kernel_rfl) (by kernel_rfl) (by kernel_rfl) (by kernel_rfl) h
  have h3 : g13_K30 (.exit 0) (puts 42 ((g13_l6_cs p5) ++ sputs [(4, .i .i64), (5, .b)] t)) w' = g13_l6_x0 t w' := by kernel_rfl
  exact h1.trans (h2.trans h3)

/-! 14: (*penstock/prod.Table).Apply (t: *prod.Table, b: api.Batch) -/
def g14_ann : List (List Nat × List Nat) := []

noncomputable def g14_j38 (x19 : Option Addr) (w85 : World) : Option (Value × World) :=
x19.bind fun a86 =>
(st1 w85 (Addr.add a86 3) (.int .i64 (-1))).bind fun w87 =>
some (.tuple #[], w87)

noncomputable def g14_j73 (w35 : World) (n51 : Int) (n58 : Int) (n62 : Int) (x19 : Option Addr) (u0 : Option Addr) (x76 : Option Addr × Nat × Nat) : Option (Value × World) :=
(callB Try.prog .append #[42, 42] 42 #[false, false] #[.slice x76.1 x76.2.1 x76.2.2, .slice (some (⟨(World.drew w35).heap.size, 0, none⟩)) 1 1] (World.alloc (World.drew w35) (.cells #[.int .u64 n51, .int .i64 n58, .int .i64 n62] 63))).bind fun r77 =>
(asSl r77.1).bind fun q78 =>
u0.bind fun a80 =>
(st1 r77.2 (Addr.add a80 1) (.slice q78.1 q78.2.1 q78.2.2)).bind fun w83 =>
g14_j38 x19 w83

noncomputable def g14_j68 (x19 : Option Addr) (u0 : Option Addr) (w35 : World) (n51 : Int) (n58 : Int) (n62 : Int) (x72 : Option Addr × Nat × Nat) : Option (Value × World) :=
g14_j73 w35 n51 n58 n62 x19 u0 (x72.1, x72.2.1, x72.2.2)

noncomputable def g14_j278 (w0 : World) (x19 : Option Addr) (w289 : World) : Option (Value × World) :=
(World.cell? w289 (Addr.add (⟨w0.heap.size, 0, none⟩) 5)).bind fun v290 =>
(asB v290).bind fun b291 =>
if b291 = true then
(x19.bind fun a292 =>
(World.cell? w289 (Addr.add a292 3)).bind fun v293 =>
(asI .i64 v293).bind fun n294 =>
if (decide ((n294 : Int) < 0)) = true then
((World.cell? w289 (⟨w0.heap.size, 0, none⟩)).bind fun v295 =>
(asI .i64 v295).bind fun n296 =>
x19.bind fun a297 =>
(st1 w289 (Addr.add a297 3) (.int .i64 n296)).bind fun w298 =>
some (.tuple #[], w298))
else
(some (.tuple #[], w289)))
else
(some (.tuple #[], w289))

noncomputable def g14_j264 (w0 : World) (x19 : Option Addr) (x267 : Option Addr × Nat × Nat) (x268 : Option Addr × Nat × Nat) (w269 : World) : Option (Value × World) :=
(callB Try.prog .append #[52, 52] 52 #[false, false] #[.slice x267.1 x267.2.1 x267.2.2, .slice x268.1 x268.2.1 x268.2.2] w269).bind fun r270 =>
(asSl r270.1).bind fun q271 =>
x19.bind fun a273 =>
(st1 r270.2 (Addr.add a273 2) (.slice q271.1 q271.2.1 q271.2.2)).bind fun w276 =>
x19.bind fun a279 =>
(World.cell? w276 (Addr.add a279 2)).bind fun v280 =>
(asSl v280).bind fun q281 =>
if (decide (((q281.2.1 : Int) : Int) > 5)) = true then
(x19.bind fun a283 =>
(World.cell? w276 (Addr.add a283 2)).bind fun v284 =>
(asSl v284).bind fun q285 =>
(slc q285.1 q285.2.1 q285.2.2 3 (some 1) none none).bind fun q286 =>
x19.bind fun a287 =>
(st1 w276 (Addr.add a287 2) (.slice q286.1 q286.2.1 q286.2.2)).bind fun w288 =>
g14_j278 w0 x19 w288)
else
(g14_j278 w0 x19 w276)

noncomputable def g14_j255 (w0 : World) (x19 : Option Addr) (x259 : Option Addr × Nat × Nat) (x260 : Int) (x261 : Int) (x262 : Int) (w263 : World) : Option (Value × World) :=
g14_j264 w0 x19 (x259.1, x259.2.1, x259.2.2) ((some (⟨w263.heap.size, 0, none⟩)), 1, 1) (World.alloc w263 (.cells #[.int .i64 x260, .int .i64 x261, .int .i64 x262] 59))

noncomputable def g14_j237 (w0 : World) (x19 : Option Addr) (x250 : Option Addr × Nat × Nat) (x251 : Int) (x252 : Int) (x253 : Int) (w254 : World) : Option (Value × World) :=
g14_j255 w0 x19 (x250.1, x250.2.1, x250.2.2) x251 x252 x253 w254

noncomputable def g14_j218 (w0 : World) (x19 : Option Addr) (x238 : Option Addr × Nat × Nat) (x239 : Int) (x240 : Int) (x241 : Int) (w242 : World) : Option (Value × World) :=
g14_j237 w0 x19 (x238.1, x238.2.1, x238.2.2) x239 x240 x241 w242

noncomputable def g14_j181 (w119 : World) (w0 : World) (x19 : Option Addr) (x211 : Option Addr × Nat × Nat) (x212 : Int) (x213 : Int) (w214 : World) : Option (Value × World) :=
if (ahd (Region.schedule true (opsOf (cAt [1, 1, 1, 1, 1, 1, 1, 0] (bodyOf Try.f14))) (World.tape w119 (World.drawn w119) (.order 14 13))) 9 11 && true) = true then
((World.cell? w214 (⟨w0.heap.size, 0, none⟩)).bind fun v235 =>
(asI .i64 v235).bind fun n236 =>
g14_j237 w0 x19 (x211.1, x211.2.1, x211.2.2) x212 x213 n236 w214)
else
((World.cell? w214 (⟨w0.heap.size, 0, none⟩)).bind fun v216 =>
(asI .i64 v216).bind fun n217 =>
g14_j218 w0 x19 (x211.1, x211.2.1, x211.2.2) x212 x213 n217 w214)

noncomputable def g14_j184 (n128 : Int) (n129 : Int) (n130 : Int) (n131 : Int) (n132 : Int) (b133 : Bool) (b134 : Bool) (b135 : Bool) (q136 : Option Addr × Nat × Nat) (w119 : World) (w0 : World) (x19 : Option Addr) (x219 : Option Addr × Nat × Nat) (x220 : Int) (x221 : Int) : Option (Value × World) :=
(callF Try.prog 20 #[.agg #[.int .i64 n128, .int .i64 n129, .int .u64 n130, .int .i64 n131, .int .i64 n132, .bool b133, .bool b134, .bool b135, .slice q136.1 q136.2.1 q136.2.2]] (World.drew w119)).bind fun r222 =>
(asI .i64 r222.1).bind fun n223 =>
g14_j218 w0 x19 (x219.1, x219.2.1, x219.2.2) x220 n223 x221 r222.2

noncomputable def g14_j153 (w119 : World) (n128 : Int) (n129 : Int) (n130 : Int) (n131 : Int) (n132 : Int) (b133 : Bool) (b134 : Bool) (b135 : Bool) (q136 : Option Addr × Nat × Nat) (w0 : World) (x19 : Option Addr) (x177 : Option Addr × Nat × Nat) (x178 : Int) : Option (Value × World) :=
if (ahd (Region.schedule true (opsOf (cAt [1, 1, 1, 1, 1, 1, 1, 0] (bodyOf Try.f14))) (World.tape w119 (World.drawn w119) (.order 14 13))) 8 11 && true) = true then
((callF Try.prog 20 #[.agg #[.int .i64 n128, .int .i64 n129, .int .u64 n130, .int .i64 n131, .int .i64 n132, .bool b133, .bool b134, .bool b135, .slice q136.1 q136.2.1 q136.2.2]] (World.drew w119)).bind fun r179 =>
(asI .i64 r179.1).bind fun n180 =>
g14_j181 w119 w0 x19 (x177.1, x177.2.1, x177.2.2) x178 n180 r179.2)
else
((World.cell? (World.drew w119) (⟨w0.heap.size, 0, none⟩)).bind fun v182 =>
(asI .i64 v182).bind fun n183 =>
g14_j184 n128 n129 n130 n131 n132 b133 b134 b135 q136 w119 w0 x19 (x177.1, x177.2.1, x177.2.2) x178 n183)

noncomputable def g14_j159 (w119 : World) (w0 : World) (x19 : Option Addr) (n128 : Int) (n129 : Int) (n130 : Int) (n131 : Int) (n132 : Int) (b133 : Bool) (b134 : Bool) (b135 : Bool) (q136 : Option Addr × Nat × Nat) (x187 : Option Addr × Nat × Nat) (x188 : Int) : Option (Value × World) :=
if (ahd (Region.schedule true (opsOf (cAt [1, 1, 1, 1, 1, 1, 1, 0] (bodyOf Try.f14))) (World.tape w119 (World.drawn w119) (.order 14 13))) 6 8 && true) = true then
((World.cell? (World.drew w119) (Addr.add (⟨w0.heap.size, 0, none⟩) 4)).bind fun v189 =>
(asI .i64 v189).bind fun n190 =>
g14_j184 n128 n129 n130 n131 n132 b133 b134 b135 q136 w119 w0 x19 (x187.1, x187.2.1, x187.2.2) n190 x188)
else
((callF Try.prog 20 #[.agg #[.int .i64 n128, .int .i64 n129, .int .u64 n130, .int .i64 n131, .int .i64 n132, .bool b133, .bool b134, .bool b135, .slice q136.1 q136.2.1 q136.2.2]] (World.drew w119)).bind fun r191 =>
(asI .i64 r191.1).bind fun n192 =>
(World.cell? r191.2 (Addr.add (⟨w0.heap.size, 0, none⟩) 4)).bind fun v224 =>
(asI .i64 v224).bind fun n225 =>
g14_j218 w0 x19 (x187.1, x187.2.1, x187.2.2) n225 n192 x188 r191.2)

noncomputable def g14_j228 (w119 : World) (a123 : Addr) (w0 : World) (x19 : Option Addr) (x243 : Int) (x244 : Int) (x245 : Int) (w246 : World) : Option (Value × World) :=
if (ahd (Region.schedule true (opsOf (cAt [1, 1, 1, 1, 1, 1, 1, 0] (bodyOf Try.f14))) (World.tape w119 (World.drawn w119) (.order 14 13))) 4 12 && true) = true then
((World.cell? w246 (Addr.add a123 2)).bind fun v247 =>
(asSl v247).bind fun q248 =>
g14_j237 w0 x19 (q248.1, q248.2.1, q248.2.2) x243 x244 x245 w246)
else
(if (ahd (Region.schedule true (opsOf (cAt [1, 1, 1, 1, 1, 1, 1, 0] (bodyOf Try.f14))) (World.tape w119 (World.drawn w119) (.order 14 13))) 4 13 && true) = true then
((World.cell? w246 (Addr.add a123 2)).bind fun v256 =>
(asSl v256).bind fun q257 =>
g14_j255 w0 x19 (q257.1, q257.2.1, q257.2.2) x243 x244 x245 w246)
else
((World.cell? (World.alloc w246 (.cells #[.int .i64 x243, .int .i64 x244, .int .i64 x245] 59)) (Addr.add a123 2)).bind fun v265 =>
(asSl v265).bind fun q266 =>
g14_j264 w0 x19 (q266.1, q266.2.1, q266.2.2) ((some (⟨w246.heap.size, 0, none⟩)), 1, 1) (World.alloc w246 (.cells #[.int .i64 x243, .int .i64 x244, .int .i64 x245] 59))))

noncomputable def g14_j202 (w119 : World) (a123 : Addr) (w0 : World) (x19 : Option Addr) (x229 : Int) (x230 : Int) (x231 : Int) (w232 : World) : Option (Value × World) :=
if (ahd (Region.schedule true (opsOf (cAt [1, 1, 1, 1, 1, 1, 1, 0] (bodyOf Try.f14))) (World.tape w119 (World.drawn w119) (.order 14 13))) 4 9 && true) = true then
((World.cell? w232 (Addr.add a123 2)).bind fun v233 =>
(asSl v233).bind fun q234 =>
g14_j218 w0 x19 (q234.1, q234.2.1, q234.2.2) x229 x230 x231 w232)
else
(g14_j228 w119 a123 w0 x19 x229 x230 x231 w232)

noncomputable def g14_j164 (w119 : World) (a123 : Addr) (w0 : World) (x19 : Option Addr) (x194 : Int) (x195 : Int) (w196 : World) : Option (Value × World) :=
if (ahd (Region.schedule true (opsOf (cAt [1, 1, 1, 1, 1, 1, 1, 0] (bodyOf Try.f14))) (World.tape w119 (World.drawn w119) (.order 14 13))) 4 9 && (ahd (Region.schedule true (opsOf (cAt [1, 1, 1, 1, 1, 1, 1, 0] (bodyOf Try.f14))) (World.tape w119 (World.drawn w119) (.order 14 13))) 4 11 && true)) = true then
((World.cell? w196 (Addr.add a123 2)).bind fun v197 =>
(asSl v197).bind fun q198 =>
g14_j181 w119 w0 x19 (q198.1, q198.2.1, q198.2.2) x194 x195 w196)
else
(if (ahd (Region.schedule true (opsOf (cAt [1, 1, 1, 1, 1, 1, 1, 0] (bodyOf Try.f14))) (World.tape w119 (World.drawn w119) (.order 14 13))) 9 11 && true) = true then
((World.cell? w196 (⟨w0.heap.size, 0, none⟩)).bind fun v226 =>
(asI .i64 v226).bind fun n227 =>
g14_j228 w119 a123 w0 x19 x194 x195 n227 w196)
else
((World.cell? w196 (⟨w0.heap.size, 0, none⟩)).bind fun v200 =>
(asI .i64 v200).bind fun n201 =>
g14_j202 w119 a123 w0 x19 x194 x195 n201 w196))

noncomputable def g14_j167 (w119 : World) (a123 : Addr) (w0 : World) (x19 : Option Addr) (n128 : Int) (n129 : Int) (n130 : Int) (n131 : Int) (n132 : Int) (b133 : Bool) (b134 : Bool) (b135 : Bool) (q136 : Option Addr × Nat × Nat) (x203 : Int) (x204 : Int) : Option (Value × World) :=
if (ahd (Region.schedule true (opsOf (cAt [1, 1, 1, 1, 1, 1, 1, 0] (bodyOf Try.f14))) (World.tape w119 (World.drawn w119) (.order 14 13))) 4 8 && true) = true then
((World.cell? (World.drew w119) (Addr.add a123 2)).bind fun v205 =>
(asSl v205).bind fun q206 =>
g14_j184 n128 n129 n130 n131 n132 b133 b134 b135 q136 w119 w0 x19 (q206.1, q206.2.1, q206.2.2) x203 x204)
else
((callF Try.prog 20 #[.agg #[.int .i64 n128, .int .i64 n129, .int .u64 n130, .int .i64 n131, .int .i64 n132, .bool b133, .bool b134, .bool b135, .slice q136.1 q136.2.1 q136.2.2]] (World.drew w119)).bind fun r207 =>
(asI .i64 r207.1).bind fun n208 =>
g14_j202 w119 a123 w0 x19 x203 n208 x204 r207.2)

noncomputable def g14_j109 (w0 : World) (x19 : Option Addr) (x112 : Int) (x113 : Int) (w114 : World) : Option (Value × World) :=
x19.bind fun a116 =>
(st1 w114 (Addr.add a116 1) (.int .i64 (IntKind.i64.wrap (x112 + x113)))).bind fun w119 =>
x19.bind fun a123 =>
(ldN (World.drew w119) (⟨w0.heap.size, 0, none⟩) 0 9).bind fun l127 =>
(asI .i64 (l127.getD 0 undef)).bind fun n128 =>
(asI .i64 (l127.getD 1 undef)).bind fun n129 =>
(asI .u64 (l127.getD 2 undef)).bind fun n130 =>
(asI .i64 (l127.getD 3 undef)).bind fun n131 =>
(asI .i64 (l127.getD 4 undef)).bind fun n132 =>
(asB (l127.getD 5 undef)).bind fun b133 =>
(asB (l127.getD 6 undef)).bind fun b134 =>
(asB (l127.getD 7 undef)).bind fun b135 =>
(asSl (l127.getD 8 undef)).bind fun q136 =>
if (ahd (Region.schedule true (opsOf (cAt [1, 1, 1, 1, 1, 1, 1, 0] (bodyOf Try.f14))) (World.tape w119 (World.drawn w119) (.order 14 13))) 4 6 && (ahd (Region.schedule true (opsOf (cAt [1, 1, 1, 1, 1, 1, 1, 0] (bodyOf Try.f14))) (World.tape w119 (World.drawn w119) (.order 14 13))) 4 8 && (ahd (Region.schedule true (opsOf (cAt [1, 1, 1, 1, 1, 1, 1, 0] (bodyOf Try.f14))) (World.tape w119 (World.drawn w119) (.order 14 13))) 4 11 && true))) = true then
((World.cell? (World.drew w119) (Addr.add a123 2)).bind fun v139 =>
(asSl v139).bind fun q140 =>
if (ahd (Region.schedule true (opsOf (cAt [1, 1, 1, 1, 1, 1, 1, 0] (bodyOf Try.f14))) (World.tape w119 (World.drawn w119) (.order 14 13))) 6 8 && (ahd (Region.schedule true (opsOf (cAt [1, 1, 1, 1, 1, 1, 1, 0] (bodyOf Try.f14))) (World.tape w119 (World.drawn w119) (.order 14 13))) 6 11 && true)) = true then
((World.cell? (World.drew w119) (Addr.add (⟨w0.heap.size, 0, none⟩) 4)).bind fun v151 =>
(asI .i64 v151).bind fun n152 =>
g14_j153 w119 n128 n129 n130 n131 n132 b133 b134 b135 q136 w0 x19 (q140.1, q140.2.1, q140.2.2) n152)
else
(if (ahd (Region.schedule true (opsOf (cAt [1, 1, 1, 1, 1, 1, 1, 0] (bodyOf Try.f14))) (World.tape w119 (World.drawn w119) (.order 14 13))) 8 11 && true) = true then
((callF Try.prog 20 #[.agg #[.int .i64 n128, .int .i64 n129, .int .u64 n130, .int .i64 n131, .int .i64 n132, .bool b133, .bool b134, .bool b135, .slice q136.1 q136.2.1 q136.2.2]] (World.drew w119)).bind fun r154 =>
(asI .i64 r154.1).bind fun n155 =>
(World.cell? r154.2 (Addr.add (⟨w0.heap.size, 0, none⟩) 4)).bind fun v185 =>
(asI .i64 v185).bind fun n186 =>
g14_j181 w119 w0 x19 (q140.1, q140.2.1, q140.2.2) n186 n155 r154.2)
else
((World.cell? (World.drew w119) (⟨w0.heap.size, 0, none⟩)).bind fun v157 =>
(asI .i64 v157).bind fun n158 =>
g14_j159 w119 w0 x19 n128 n129 n130 n131 n132 b133 b134 b135 q136 (q140.1, q140.2.1, q140.2.2) n158)))
else
(if (ahd (Region.schedule true (opsOf (cAt [1, 1, 1, 1, 1, 1, 1, 0] (bodyOf Try.f14))) (World.tape w119 (World.drawn w119) (.order 14 13))) 6 8 && (ahd (Region.schedule true (opsOf (cAt [1, 1, 1, 1, 1, 1, 1, 0] (bodyOf Try.f14))) (World.tape w119 (World.drawn w119) (.order 14 13))) 6 11 && true)) = true then
((World.cell? (World.drew w119) (Addr.add (⟨w0.heap.size, 0, none⟩) 4)).bind fun v142 =>
(asI .i64 v142).bind fun n143 =>
if (ahd (Region.schedule true (opsOf (cAt [1, 1, 1, 1, 1, 1, 1, 0] (bodyOf Try.f14))) (World.tape w119 (World.drawn w119) (.order 14 13))) 4 8 && (ahd (Region.schedule true (opsOf (cAt [1, 1, 1, 1, 1, 1, 1, 0] (bodyOf Try.f14))) (World.tape w119 (World.drawn w119) (.order 14 13))) 4 11 && true)) = true then
((World.cell? (World.drew w119) (Addr.add a123 2)).bind fun v160 =>
(asSl v160).bind fun q161 =>
g14_j153 w119 n128 n129 n130 n131 n132 b133 b134 b135 q136 w0 x19 (q161.1, q161.2.1, q161.2.2) n143)
else
(if (ahd (Region.schedule true (opsOf (cAt [1, 1, 1, 1, 1, 1, 1, 0] (bodyOf Try.f14))) (World.tape w119 (World.drawn w119) (.order 14 13))) 8 11 && true) = true then
((callF Try.prog 20 #[.agg #[.int .i64 n128, .int .i64 n129, .int .u64 n130, .int .i64 n131, .int .i64 n132, .bool b133, .bool b134, .bool b135, .slice q136.1 q136.2.1 q136.2.2]] (World.drew w119)).bind fun r162 =>
(asI .i64 r162.1).bind fun n163 =>
g14_j164 w119 a123 w0 x19 n143 n163 r162.2)
else
((World.cell? (World.drew w119) (⟨w0.heap.size, 0, none⟩)).bind fun v165 =>
(asI .i64 v165).bind fun n166 =>
g14_j167 w119 a123 w0 x19 n128 n129 n130 n131 n132 b133 b134 b135 q136 n143 n166)))
else
(if (ahd (Region.schedule true (opsOf (cAt [1, 1, 1, 1, 1, 1, 1, 0] (bodyOf Try.f14))) (World.tape w119 (World.drawn w119) (.order 14 13))) 8 11 && true) = true then
((callF Try.prog 20 #[.agg #[.int .i64 n128, .int .i64 n129, .int .u64 n130, .int .i64 n131, .int .i64 n132, .bool b133, .bool b134, .bool b135, .slice q136.1 q136.2.1 q136.2.2]] (World.drew w119)).bind fun r145 =>
(asI .i64 r145.1).bind fun n146 =>
(World.cell? r145.2 (Addr.add (⟨w0.heap.size, 0, none⟩) 4)).bind fun v168 =>
(asI .i64 v168).bind fun n169 =>
g14_j164 w119 a123 w0 x19 n169 n146 r145.2)
else
((World.cell? (World.drew w119) (⟨w0.heap.size, 0, none⟩)).bind fun v148 =>
(asI .i64 v148).bind fun n149 =>
if (ahd (Region.schedule true (opsOf (cAt [1, 1, 1, 1, 1, 1, 1, 0] (bodyOf Try.f14))) (World.tape w119 (World.drawn w119) (.order 14 13))) 4 6 && (ahd (Region.schedule true (opsOf (cAt [1, 1, 1, 1, 1, 1, 1, 0] (bodyOf Try.f14))) (World.tape w119 (World.drawn w119) (.order 14 13))) 4 8 && true)) = true then
((World.cell? (World.drew w119) (Addr.add a123 2)).bind fun v170 =>
(asSl v170).bind fun q171 =>
g14_j159 w119 w0 x19 n128 n129 n130 n131 n132 b133 b134 b135 q136 (q171.1, q171.2.1, q171.2.2) n149)
else
(if (ahd (Region.schedule true (opsOf (cAt [1, 1, 1, 1, 1, 1, 1, 0] (bodyOf Try.f14))) (World.tape w119 (World.drawn w119) (.order 14 13))) 6 8 && true) = true then
((World.cell? (World.drew w119) (Addr.add (⟨w0.heap.size, 0, none⟩) 4)).bind fun v172 =>
(asI .i64 v172).bind fun n173 =>
g14_j167 w119 a123 w0 x19 n128 n129 n130 n131 n132 b133 b134 b135 q136 n173 n149)
else
((callF Try.prog 20 #[.agg #[.int .i64 n128, .int .i64 n129, .int .u64 n130, .int .i64 n131, .int .i64 n132, .bool b133, .bool b134, .bool b135, .slice q136.1 q136.2.1 q136.2.2]] (World.drew w119)).bind fun r174 =>
(asI .i64 r174.1).bind fun n175 =>
(World.cell? r174.2 (Addr.add (⟨w0.heap.size, 0, none⟩) 4)).bind fun v209 =>
(asI .i64 v209).bind fun n210 =>
g14_j202 w119 a123 w0 x19 n210 n175 n149 r174.2)))))

noncomputable def g14_j21 (w0 : World) (x19 : Option Addr) (u0 : Option Addr) (w35 : World) : Option (Value × World) :=
(World.cell? w35 (Addr.add (⟨w0.heap.size, 0, none⟩) 6)).bind fun v36 =>
(asB v36).bind fun b37 =>
if b37 = true then
(x19.bind fun a39 =>
(World.cell? w35 (Addr.add a39 3)).bind fun v40 =>
(asI .i64 v40).bind fun n41 =>
if (decide ((n41 : Int) ≥ 0)) = true then
((World.cell? w35 (Addr.add (⟨w0.heap.size, 0, none⟩) 7)).bind fun v42 =>
(asB v42).bind fun b43 =>
if (!b43) = true then
(u0.bind fun a46 =>
(World.cell? (World.drew w35) (Addr.add (⟨w0.heap.size, 0, none⟩) 2)).bind fun v50 =>
(asI .u64 v50).bind fun n51 =>
x19.bind fun a54 =>
(World.cell? (World.drew w35) (Addr.add a54 3)).bind fun v57 =>
(asI .i64 v57).bind fun n58 =>
(World.cell? (World.drew w35) (⟨w0.heap.size, 0, none⟩)).bind fun v61 =>
(asI .i64 v61).bind fun n62 =>
if (ahd (Region.schedule true (opsOf (cAt [1, 1, 1, 1, 1, 0, 1, 0, 0, 1, 0] (bodyOf Try.f14))) (World.tape w35 (World.drawn w35) (.order 14 10))) 4 13 && true) = true then
((World.cell? (World.drew w35) (Addr.add a46 1)).bind fun v64 =>
(asSl v64).bind fun q65 =>
g14_j68 x19 u0 w35 n51 n58 n62 (q65.1, q65.2.1, q65.2.2))
else
(if (ahd (Region.schedule true (opsOf (cAt [1, 1, 1, 1, 1, 0, 1, 0, 0, 1, 0] (bodyOf Try.f14))) (World.tape w35 (World.drawn w35) (.order 14 10))) 4 14 && true) = true then
((World.cell? (World.drew w35) (Addr.add a46 1)).bind fun v69 =>
(asSl v69).bind fun q70 =>
g14_j68 x19 u0 w35 n51 n58 n62 (q70.1, q70.2.1, q70.2.2))
else
((World.cell? (World.alloc (World.drew w35) (.cells #[.int .u64 n51, .int .i64 n58, .int .i64 n62] 63)) (Addr.add a46 1)).bind fun v74 =>
(asSl v74).bind fun q75 =>
g14_j73 w35 n51 n58 n62 x19 u0 (q75.1, q75.2.1, q75.2.2))))
else
(g14_j38 x19 w35))
else
(g14_j38 x19 w35))
else
((ldN (World.drew w35) (⟨w0.heap.size, 0, none⟩) 0 9).bind fun l90 =>
(asI .i64 (l90.getD 0 undef)).bind fun n91 =>
(asI .i64 (l90.getD 1 undef)).bind fun n92 =>
(asI .u64 (l90.getD 2 undef)).bind fun n93 =>
(asI .i64 (l90.getD 3 undef)).bind fun n94 =>
(asI .i64 (l90.getD 4 undef)).bind fun n95 =>
(asB (l90.getD 5 undef)).bind fun b96 =>
(asB (l90.getD 6 undef)).bind fun b97 =>
(asB (l90.getD 7 undef)).bind fun b98 =>
(asSl (l90.getD 8 undef)).bind fun q99 =>
if (ahd (Region.schedule true (opsOf (cAt [1, 1, 1, 1, 1, 1, 0] (bodyOf Try.f14))) (World.tape w35 (World.drawn w35) (.order 14 12))) 2 4 && true) = true then
((World.cell? (World.drew w35) (Addr.add (⟨w0.heap.size, 0, none⟩) 4)).bind fun v101 =>
(asI .i64 v101).bind fun n102 =>
(callF Try.prog 20 #[.agg #[.int .i64 n91, .int .i64 n92, .int .u64 n93, .int .i64 n94, .int .i64 n95, .bool b96, .bool b97, .bool b98, .slice q99.1 q99.2.1 q99.2.2]] (World.drew w35)).bind fun r107 =>
(asI .i64 r107.1).bind fun n108 =>
g14_j109 w0 x19 n102 n108 r107.2)
else
((callF Try.prog 20 #[.agg #[.int .i64 n91, .int .i64 n92, .int .u64 n93, .int .i64 n94, .int .i64 n95, .bool b96, .bool b97, .bool b98, .slice q99.1 q99.2.1 q99.2.2]] (World.drew w35)).bind fun r104 =>
(asI .i64 r104.1).bind fun n105 =>
(World.cell? r104.2 (Addr.add (⟨w0.heap.size, 0, none⟩) 4)).bind fun v110 =>
(asI .i64 v110).bind fun n111 =>
g14_j109 w0 x19 n111 n105 r104.2))

noncomputable def g14_j10 (w0 : World) (u0 : Option Addr) (x19 : Option Addr) (w20 : World) : Option (Value × World) :=
(World.cell? (World.drew w20) (Addr.add (⟨w0.heap.size, 0, none⟩) 3)).bind fun v22 =>
(asI .i64 v22).bind fun n23 =>
x19.bind fun a24 =>
(World.cell? (World.drew w20) a24).bind fun v25 =>
(asI .i64 v25).bind fun n26 =>
if (decide ((n23 : Int) > n26)) = true then
((World.cell? (World.drew w20) (Addr.add (⟨w0.heap.size, 0, none⟩) 3)).bind fun v27 =>
(asI .i64 v27).bind fun n28 =>
x19.bind fun a29 =>
(st1 (World.drew w20) a29 (.int .i64 n28)).bind fun w30 =>
x19.bind fun a31 =>
(st1 w30 (Addr.add a31 1) (.int .i64 0)).bind fun w32 =>
x19.bind fun a33 =>
(st1 w32 (Addr.add a33 2) (.slice none 0 0)).bind fun w34 =>
g14_j21 w0 x19 u0 w34)
else
(g14_j21 w0 x19 u0 (World.drew w20))

noncomputable def g14 (u0 : Option Addr) (u1c0 : Int) (u1c1 : Int) (u1c2 : Int) (u1c3 : Int) (u1c4 : Int) (u1c5 : Bool) (u1c6 : Bool) (u1c7 : Bool) (u1c8 : Option Addr × Nat × Nat) (w0 : World) : Option (Value × World) :=
if (u0.isNone) = true then
(some (.tuple #[], (World.alloc w0 (.cells #[.int .i64 u1c0, .int .i64 u1c1, .int .u64 u1c2, .int .i64 u1c3, .int .i64 u1c4, .bool u1c5, .bool u1c6, .bool u1c7, .slice u1c8.1 u1c8.2.1 u1c8.2.2] 30))))
else
((World.cell? (World.alloc w0 (.cells #[.int .i64 u1c0, .int .i64 u1c1, .int .u64 u1c2, .int .i64 u1c3, .int .i64 u1c4, .bool u1c5, .bool u1c6, .bool u1c7, .slice u1c8.1 u1c8.2.1 u1c8.2.2] 30)) (Addr.add (⟨w0.heap.size, 0, none⟩) 2)).bind fun v1 =>
(asI .u64 v1).bind fun n2 =>
if ((n2 : Int) == 0) = true then
(some (.tuple #[], (World.alloc w0 (.cells #[.int .i64 u1c0, .int .i64 u1c1, .int .u64 u1c2, .int .i64 u1c3, .int .i64 u1c4, .bool u1c5, .bool u1c6, .bool u1c7, .slice u1c8.1 u1c8.2.1 u1c8.2.2] 30))))
else
(u0.bind fun a3 =>
(World.cell? (World.drew (World.alloc w0 (.cells #[.int .i64 u1c0, .int .i64 u1c1, .int .u64 u1c2, .int .i64 u1c3, .int .i64 u1c4, .bool u1c5, .bool u1c6, .bool u1c7, .slice u1c8.1 u1c8.2.1 u1c8.2.2] 30))) a3).bind fun v4 =>
(asM v4).bind fun m5 =>
(World.cell? (World.drew (World.alloc w0 (.cells #[.int .i64 u1c0, .int .i64 u1c1, .int .u64 u1c2, .int .i64 u1c3, .int .i64 u1c4, .bool u1c5, .bool u1c6, .bool u1c7, .slice u1c8.1 u1c8.2.1 u1c8.2.2] 30))) (Addr.add (⟨w0.heap.size, 0, none⟩) 2)).bind fun v6 =>
(asI .u64 v6).bind fun n7 =>
(mLook (.int .u64) (World.drew (World.alloc w0 (.cells #[.int .i64 u1c0, .int .i64 u1c1, .int .u64 u1c2, .int .i64 u1c3, .int .i64 u1c4, .bool u1c5, .bool u1c6, .bool u1c7, .slice u1c8.1 u1c8.2.1 u1c8.2.2] 30))) m5 (.int .u64 n7)).bind fun o8 =>
(asP (o8.getD (.pointer none))).bind fun p9 =>
if (p9.isNone) = true then
((World.cell? (World.drew (World.alloc w0 (.cells #[.int .i64 u1c0, .int .i64 u1c1, .int .u64 u1c2, .int .i64 u1c3, .int .i64 u1c4, .bool u1c5, .bool u1c6, .bool u1c7, .slice u1c8.1 u1c8.2.1 u1c8.2.2] 30))) (Addr.add (⟨w0.heap.size, 0, none⟩) 3)).bind fun v11 =>
(asI .i64 v11).bind fun n12 =>
u0.bind fun a13 =>
(World.cell? (World.drew (World.alloc (World.drew (World.alloc w0 (.cells #[.int .i64 u1c0, .int .i64 u1c1, .int .u64 u1c2, .int .i64 u1c3, .int .i64 u1c4, .bool u1c5, .bool u1c6, .bool u1c7, .slice u1c8.1 u1c8.2.1 u1c8.2.2] 30))) (.cells #[.int .i64 n12, .int .i64 0, .slice none 0 0, .int .i64 (-1)] 54))) a13).bind fun v14 =>
(asM v14).bind fun m15 =>
(World.cell? (World.drew (World.alloc (World.drew (World.alloc w0 (.cells #[.int .i64 u1c0, .int .i64 u1c1, .int .u64 u1c2, .int .i64 u1c3, .int .i64 u1c4, .bool u1c5, .bool u1c6, .bool u1c7, .slice u1c8.1 u1c8.2.1 u1c8.2.2] 30))) (.cells #[.int .i64 n12, .int .i64 0, .slice none 0 0, .int .i64 (-1)] 54))) (Addr.add (⟨w0.heap.size, 0, none⟩) 2)).bind fun v16 =>
(asI .u64 v16).bind fun n17 =>
(mUpd (.int .u64) (World.drew (World.alloc (World.drew (World.alloc w0 (.cells #[.int .i64 u1c0, .int .i64 u1c1, .int .u64 u1c2, .int .i64 u1c3, .int .i64 u1c4, .bool u1c5, .bool u1c6, .bool u1c7, .slice u1c8.1 u1c8.2.1 u1c8.2.2] 30))) (.cells #[.int .i64 n12, .int .i64 0, .slice none 0 0, .int .i64 (-1)] 54))) m15 (.int .u64 n17) (.pointer (some (⟨(World.drew (World.alloc w0 (.cells #[.int .i64 u1c0, .int .i64 u1c1, .int .u64 u1c2, .int .i64 u1c3, .int .i64 u1c4, .bool u1c5, .bool u1c6, .bool u1c7, .slice u1c8.1 u1c8.2.1 u1c8.2.2] 30))).heap.size, 0, none⟩)))).bind fun w18 =>
g14_j10 w0 u0 (some (⟨(World.drew (World.alloc w0 (.cells #[.int .i64 u1c0, .int .i64 u1c1, .int .u64 u1c2, .int .i64 u1c3, .int .i64 u1c4, .bool u1c5, .bool u1c6, .bool u1c7, .slice u1c8.1 u1c8.2.1 u1c8.2.2] 30))).heap.size, 0, none⟩)) w18)
else
(g14_j10 w0 u0 p9 (World.drew (World.alloc w0 (.cells #[.int .i64 u1c0, .int .i64 u1c1, .int .u64 u1c2, .int .i64 u1c3, .int .i64 u1c4, .bool u1c5, .bool u1c6, .bool u1c7, .slice u1c8.1 u1c8.2.1 u1c8.2.2] 30))))))

theorem g14_eq (u0 : Option Addr) (u1c0 : Int) (u1c1 : Int) (u1c2 : Int) (u1c3 : Int) (u1c4 : Int) (u1c5 : Bool) (u1c6 : Bool) (u1c7 : Bool) (u1c8 : Option Addr × Nat × Nat) (w0 : World) : evFn Try.prog 14 g14_ann #[.pointer u0, .agg #[.int .i64 u1c0, .int .i64 u1c1, .int .u64 u1c2, .int .i64 u1c3, .int .i64 u1c4, .bool u1c5, .bool u1c6, .bool u1c7, .slice u1c8.1 u1c8.2.1 u1c8.2.2]] w0 = g14 u0 u1c0 u1c1 u1c2 u1c3 u1c4 u1c5 u1c6 u1c7 u1c8 w0 := by kernel_rfl

theorem g14_call {u0 : Option Addr} {u1c0 : Int} {u1c1 : Int} {u1c2 : Int} {u1c3 : Int} {u1c4 : Int} {u1c5 : Bool} {u1c6 : Bool} {u1c7 : Bool} {u1c8 : Option Addr × Nat × Nat} {w0 : World} {r : Value × World} (h : g14 u0 u1c0 u1c1 u1c2 u1c3 u1c4 u1c5 u1c6 u1c7 u1c8 w0 = some r) : callF Try.prog 14 #[.pointer u0, .agg #[.int .i64 u1c0, .int .i64 u1c1, .int .u64 u1c2, .int .i64 u1c3, .int .i64 u1c4, .bool u1c5, .bool u1c6, .bool u1c7, .slice u1c8.1 u1c8.2.1 u1c8.2.2]] w0 = some r :=
  callF_of_evFn (ann := g14_ann) Try.call14 (by kernel_rfl) ((g14_eq u0 u1c0 u1c1 u1c2 u1c3 u1c4 u1c5 u1c6 u1c7 u1c8 w0).trans h)

/-! 17: penstock/prod.New () -/
def g17_ann : List (List Nat × List Nat) := []

noncomputable def g17  (w0 : World) : Option (Value × World) :=
some (.pointer (some (⟨(World.alloc w0 (.map #[] 0)).heap.size, 0, none⟩)), (World.alloc (World.alloc w0 (.map #[] 0)) (.cells #[.map (some w0.heap.size), .slice none 0 0] 51)))

theorem g17_eq  (w0 : World) : evFn Try.prog 17 g17_ann #[] w0 = g17 w0 := by kernel_rfl

theorem g17_call  {w0 : World} {r : Value × World} (h : g17 w0 = some r) : callF Try.prog 17 #[] w0 = some r :=
  callF_of_evFn (ann := g17_ann) Try.call17 (by kernel_rfl) ((g17_eq  w0).trans h)

/-! 18: penstock/penstockref07.Size (b: api.Batch) -/
def g18_ann : List (List Nat × List Nat) := []

noncomputable def g18 (u0c0 : Int) (u0c1 : Int) (u0c2 : Int) (u0c3 : Int) (u0c4 : Int) (u0c5 : Bool) (u0c6 : Bool) (u0c7 : Bool) (u0c8 : Option Addr × Nat × Nat) (w0 : World) : Option (Value × World) :=
(World.cell? (World.alloc w0 (.cells #[.int .i64 u0c0, .int .i64 u0c1, .int .u64 u0c2, .int .i64 u0c3, .int .i64 u0c4, .bool u0c5, .bool u0c6, .bool u0c7, .slice u0c8.1 u0c8.2.1 u0c8.2.2] 30)) (Addr.add (⟨w0.heap.size, 0, none⟩) 6)).bind fun v1 =>
(asB v1).bind fun b2 =>
if b2 = true then
(some (.int .i64 1, (World.alloc w0 (.cells #[.int .i64 u0c0, .int .i64 u0c1, .int .u64 u0c2, .int .i64 u0c3, .int .i64 u0c4, .bool u0c5, .bool u0c6, .bool u0c7, .slice u0c8.1 u0c8.2.1 u0c8.2.2] 30))))
else
((World.cell? (World.alloc w0 (.cells #[.int .i64 u0c0, .int .i64 u0c1, .int .u64 u0c2, .int .i64 u0c3, .int .i64 u0c4, .bool u0c5, .bool u0c6, .bool u0c7, .slice u0c8.1 u0c8.2.1 u0c8.2.2] 30)) (Addr.add (⟨w0.heap.size, 0, none⟩) 8)).bind fun v3 =>
(asSl v3).bind fun q4 =>
some (.int .i64 (q4.2.1 : Int), (World.alloc w0 (.cells #[.int .i64 u0c0, .int .i64 u0c1, .int .u64 u0c2, .int .i64 u0c3, .int .i64 u0c4, .bool u0c5, .bool u0c6, .bool u0c7, .slice u0c8.1 u0c8.2.1 u0c8.2.2] 30))))

theorem g18_eq (u0c0 : Int) (u0c1 : Int) (u0c2 : Int) (u0c3 : Int) (u0c4 : Int) (u0c5 : Bool) (u0c6 : Bool) (u0c7 : Bool) (u0c8 : Option Addr × Nat × Nat) (w0 : World) : evFn Try.prog 18 g18_ann #[.agg #[.int .i64 u0c0, .int .i64 u0c1, .int .u64 u0c2, .int .i64 u0c3, .int .i64 u0c4, .bool u0c5, .bool u0c6, .bool u0c7, .slice u0c8.1 u0c8.2.1 u0c8.2.2]] w0 = g18 u0c0 u0c1 u0c2 u0c3 u0c4 u0c5 u0c6 u0c7 u0c8 w0 := by kernel_rfl

theorem g18_call {u0c0 : Int} {u0c1 : Int} {u0c2 : Int} {u0c3 : Int} {u0c4 : Int} {u0c5 : Bool} {u0c6 : Bool} {u0c7 : Bool} {u0c8 : Option Addr × Nat × Nat} {w0 : World} {r : Value × World} (h : g18 u0c0 u0c1 u0c2 u0c3 u0c4 u0c5 u0c6 u0c7 u0c8 w0 = some r) : callF Try.prog 18 #[.agg #[.int .i64 u0c0, .int .i64 u0c1, .int .u64 u0c2, .int .i64 u0c3, .int .i64 u0c4, .bool u0c5, .bool u0c6, .bool u0c7, .slice u0c8.1 u0c8.2.1 u0c8.2.2]] w0 = some r :=
  callF_of_evFn (ann := g18_ann) Try.call18 (by kernel_rfl) ((g18_eq u0c0 u0c1 u0c2 u0c3 u0c4 u0c5 u0c6 u0c7 u0c8 w0).trans h)

/-! 19: penstock/batch.Check (b: api.Batch) -/
def g19_ann : List (List Nat × List Nat) := [([0, 1, 0, 1, 1], [97, 98, 2, 99])]

def g19_l110_cs (q108 : Option Addr × Nat × Nat) : List (Nat × Value) := ([(97, .slice q108.1 q108.2.1 q108.2.2), (98, .int .i64 (q108.2.1 : Int))] : List (Nat × Value))

/-- the round of a loop (penstock/batch.Check) -/
noncomputable def g19_l110_b (q108 : Option Addr × Nat × Nat) (s111 : Int × Int) (w112 : World) : Option (Exit × (Int × Int) × World) :=
if (decide ((s111.2 : Int) < (q108.2.1 : Int))) = true then
((idxA q108.1 q108.2.1 1 s111.2).bind fun a113 =>
(World.cell? w112 a113).bind fun v114 =>
(asSl v114).bind fun q115 =>
if (decide (((q115.2.1 : Int) : Int) > 64)) = true then
(some (.ret, (2, s111.2), w112))
else
(some (.normal, (s111.1, (IntKind.i64.wrap (s111.2 + 1))), w112)))
else
(some ((.exit 1), (s111.1, s111.2), w112))

noncomputable def g19_K117  : Exit → Env → World → Option (Value × World) :=
  retK Try.prog Try.f19.results.toList

noncomputable def g19_K118  : Exit → Env → World → Option (Value × World) :=
  seqK (ev Try.prog 107 19 g19_ann (cAt [1, 1, 1] (bodyOf Try.f19)) [1, 1, 1] g19_K117) g19_K117

noncomputable def g19_K119  : Exit → Env → World → Option (Value × World) :=
  blkK 1 g19_K118

/-- the loop, from a state on -/
noncomputable def g19_l110 (q108 : Option Addr × Nat × Nat) (s : Int × Int) (w : World) : Option (Value × World) :=
  loopM Try.prog 107 19 g19_ann (cAt [1, 1, 0, 1, 0, 0] (bodyOf Try.f19)) [0, 1, 0, 1, 1] g19_K119 ((g19_l110_cs q108) ++ sputs [(2, .i .i64), (99, .i .i64)] s) w

/-- behind the loop, left by x1 -/
noncomputable def g19_l110_x1  (t120 : Int × Int) (w121 : World) : Option (Value × World) :=
some (.int .i64 0, w121)

/-- behind the loop, left by ret -/
noncomputable def g19_l110_ret  (t122 : Int × Int) (w123 : World) : Option (Value × World) :=
some (.int .i64 t122.1, w123)

noncomputable def g19_j13 (w0 : World) (u0c0 : Int) (u0c1 : Int) (u0c2 : Int) (u0c3 : Int) (u0c4 : Int) (u0c5 : Bool) (u0c6 : Bool) (u0c7 : Bool) (u0c8 : Option Addr × Nat × Nat) (x103 : Bool) : Option (Value × World) :=
if x103 = true then
(some (.int .i64 7, (World.alloc w0 (.cells #[.int .i64 u0c0, .int .i64 u0c1, .int .u64 u0c2, .int .i64 u0c3, .int .i64 u0c4, .bool u0c5, .bool u0c6, .bool u0c7, .slice u0c8.1 u0c8.2.1 u0c8.2.2] 30))))
else
((World.cell? (World.alloc w0 (.cells #[.int .i64 u0c0, .int .i64 u0c1, .int .u64 u0c2, .int .i64 u0c3, .int .i64 u0c4, .bool u0c5, .bool u0c6, .bool u0c7, .slice u0c8.1 u0c8.2.1 u0c8.2.2] 30)) (Addr.add (⟨w0.heap.size, 0, none⟩) 8)).bind fun v104 =>
(asSl v104).bind fun q105 =>
if (decide (((q105.2.1 : Int) : Int) > 16)) = true then
(some (.int .i64 2, (World.alloc w0 (.cells #[.int .i64 u0c0, .int .i64 u0c1, .int .u64 u0c2, .int .i64 u0c3, .int .i64 u0c4, .bool u0c5, .bool u0c6, .bool u0c7, .slice u0c8.1 u0c8.2.1 u0c8.2.2] 30))))
else
((World.cell? (World.alloc w0 (.cells #[.int .i64 u0c0, .int .i64 u0c1, .int .u64 u0c2, .int .i64 u0c3, .int .i64 u0c4, .bool u0c5, .bool u0c6, .bool u0c7, .slice u0c8.1 u0c8.2.1 u0c8.2.2] 30)) (Addr.add (⟨w0.heap.size, 0, none⟩) 8)).bind fun v107 =>
(asSl v107).bind fun q108 =>
g19_l110 q108 (0, 0) (World.alloc w0 (.cells #[.int .i64 u0c0, .int .i64 u0c1, .int .u64 u0c2, .int .i64 u0c3, .int .i64 u0c4, .bool u0c5, .bool u0c6, .bool u0c7, .slice u0c8.1 u0c8.2.1 u0c8.2.2] 30))))

noncomputable def g19 (u0c0 : Int) (u0c1 : Int) (u0c2 : Int) (u0c3 : Int) (u0c4 : Int) (u0c5 : Bool) (u0c6 : Bool) (u0c7 : Bool) (u0c8 : Option Addr × Nat × Nat) (w0 : World) : Option (Value × World) :=
(World.cell? (World.alloc w0 (.cells #[.int .i64 u0c0, .int .i64 u0c1, .int .u64 u0c2, .int .i64 u0c3, .int .i64 u0c4, .bool u0c5, .bool u0c6, .bool u0c7, .slice u0c8.1 u0c8.2.1 u0c8.2.2] 30)) (⟨w0.heap.size, 0, none⟩)).bind fun v1 =>
(asI .i64 v1).bind fun n2 =>
if (decide ((n2 : Int) < 0)) = true then
(some (.int .i64 1, (World.alloc w0 (.cells #[.int .i64 u0c0, .int .i64 u0c1, .int .u64 u0c2, .int .i64 u0c3, .int .i64 u0c4, .bool u0c5, .bool u0c6, .bool u0c7, .slice u0c8.1 u0c8.2.1 u0c8.2.2] 30))))
else
((World.cell? (World.alloc w0 (.cells #[.int .i64 u0c0, .int .i64 u0c1, .int .u64 u0c2, .int .i64 u0c3, .int .i64 u0c4, .bool u0c5, .bool u0c6, .bool u0c7, .slice u0c8.1 u0c8.2.1 u0c8.2.2] 30)) (Addr.add (⟨w0.heap.size, 0, none⟩) 1)).bind fun v3 =>
(asI .i64 v3).bind fun n4 =>
if (decide ((n4 : Int) < 0)) = true then
(some (.int .i64 1, (World.alloc w0 (.cells #[.int .i64 u0c0, .int .i64 u0c1, .int .u64 u0c2, .int .i64 u0c3, .int .i64 u0c4, .bool u0c5, .bool u0c6, .bool u0c7, .slice u0c8.1 u0c8.2.1 u0c8.2.2] 30))))
else
((World.cell? (World.alloc w0 (.cells #[.int .i64 u0c0, .int .i64 u0c1, .int .u64 u0c2, .int .i64 u0c3, .int .i64 u0c4, .bool u0c5, .bool u0c6, .bool u0c7, .slice u0c8.1 u0c8.2.1 u0c8.2.2] 30)) (Addr.add (⟨w0.heap.size, 0, none⟩) 3)).bind fun v5 =>
(asI .i64 v5).bind fun n6 =>
if (decide ((n6 : Int) < 0)) = true then
(some (.int .i64 1, (World.alloc w0 (.cells #[.int .i64 u0c0, .int .i64 u0c1, .int .u64 u0c2, .int .i64 u0c3, .int .i64 u0c4, .bool u0c5, .bool u0c6, .bool u0c7, .slice u0c8.1 u0c8.2.1 u0c8.2.2] 30))))
else
((World.cell? (World.alloc w0 (.cells #[.int .i64 u0c0, .int .i64 u0c1, .int .u64 u0c2, .int .i64 u0c3, .int .i64 u0c4, .bool u0c5, .bool u0c6, .bool u0c7, .slice u0c8.1 u0c8.2.1 u0c8.2.2] 30)) (Addr.add (⟨w0.heap.size, 0, none⟩) 3)).bind fun v7 =>
(asI .i64 v7).bind fun n8 =>
if (decide ((n8 : Int) > 1000)) = true then
(some (.int .i64 1, (World.alloc w0 (.cells #[.int .i64 u0c0, .int .i64 u0c1, .int .u64 u0c2, .int .i64 u0c3, .int .i64 u0c4, .bool u0c5, .bool u0c6, .bool u0c7, .slice u0c8.1 u0c8.2.1 u0c8.2.2] 30))))
else
((World.cell? (World.alloc w0 (.cells #[.int .i64 u0c0, .int .i64 u0c1, .int .u64 u0c2, .int .i64 u0c3, .int .i64 u0c4, .bool u0c5, .bool u0c6, .bool u0c7, .slice u0c8.1 u0c8.2.1 u0c8.2.2] 30)) (Addr.add (⟨w0.heap.size, 0, none⟩) 4)).bind fun v9 =>
(asI .i64 v9).bind fun n10 =>
if (decide ((n10 : Int) < 0)) = true then
(some (.int .i64 1, (World.alloc w0 (.cells #[.int .i64 u0c0, .int .i64 u0c1, .int .u64 u0c2, .int .i64 u0c3, .int .i64 u0c4, .bool u0c5, .bool u0c6, .bool u0c7, .slice u0c8.1 u0c8.2.1 u0c8.2.2] 30))))
else
((World.cell? (World.alloc w0 (.cells #[.int .i64 u0c0, .int .i64 u0c1, .int .u64 u0c2, .int .i64 u0c3, .int .i64 u0c4, .bool u0c5, .bool u0c6, .bool u0c7, .slice u0c8.1 u0c8.2.1 u0c8.2.2] 30)) (Addr.add (⟨w0.heap.size, 0, none⟩) 2)).bind fun v11 =>
(asI .u64 v11).bind fun n12 =>
if (decide ((n12 : Int) > 1000)) = true then
(some (.int .i64 1, (World.alloc w0 (.cells #[.int .i64 u0c0, .int .i64 u0c1, .int .u64 u0c2, .int .i64 u0c3, .int .i64 u0c4, .bool u0c5, .bool u0c6, .bool u0c7, .slice u0c8.1 u0c8.2.1 u0c8.2.2] 30))))
else
((World.cell? (World.alloc w0 (.cells #[.int .i64 u0c0, .int .i64 u0c1, .int .u64 u0c2, .int .i64 u0c3, .int .i64 u0c4, .bool u0c5, .bool u0c6, .bool u0c7, .slice u0c8.1 u0c8.2.1 u0c8.2.2] 30)) (Addr.add (⟨w0.heap.size, 0, none⟩) 6)).bind fun v14 =>
(asB v14).bind fun b15 =>
if b15 = true then
((World.cell? (World.alloc w0 (.cells #[.int .i64 u0c0, .int .i64 u0c1, .int .u64 u0c2, .int .i64 u0c3, .int .i64 u0c4, .bool u0c5, .bool u0c6, .bool u0c7, .slice u0c8.1 u0c8.2.1 u0c8.2.2] 30)) (Addr.add (⟨w0.heap.size, 0, none⟩) 8)).bind fun v16 =>
(asSl v16).bind fun q17 =>
if (decide (((q17.2.1 : Int) : Int) > 0)) = true then
(g19_j13 w0 u0c0 u0c1 u0c2 u0c3 u0c4 u0c5 u0c6 u0c7 u0c8 true)
else
((World.cell? (World.alloc w0 (.cells #[.int .i64 u0c0, .int .i64 u0c1, .int .u64 u0c2, .int .i64 u0c3, .int .i64 u0c4, .bool u0c5, .bool u0c6, .bool u0c7, .slice u0c8.1 u0c8.2.1 u0c8.2.2] 30)) (Addr.add (⟨w0.heap.size, 0, none⟩) 5)).bind fun v19 =>
(asB v19).bind fun b20 =>
if (!b20) = true then
(g19_j13 w0 u0c0 u0c1 u0c2 u0c3 u0c4 u0c5 u0c6 u0c7 u0c8 true)
else
((World.cell? (World.alloc w0 (.cells #[.int .i64 u0c0, .int .i64 u0c1, .int .u64 u0c2, .int .i64 u0c3, .int .i64 u0c4, .bool u0c5, .bool u0c6, .bool u0c7, .slice u0c8.1 u0c8.2.1 u0c8.2.2] 30)) (Addr.add (⟨w0.heap.size, 0, none⟩) 2)).bind fun v21 =>
(asI .u64 v21).bind fun n22 =>
if ((n22 : Int) == 0) = true then
(g19_j13 w0 u0c0 u0c1 u0c2 u0c3 u0c4 u0c5 u0c6 u0c7 u0c8 true)
else
((World.cell? (World.alloc w0 (.cells #[.int .i64 u0c0, .int .i64 u0c1, .int .u64 u0c2, .int .i64 u0c3, .int .i64 u0c4, .bool u0c5, .bool u0c6, .bool u0c7, .slice u0c8.1 u0c8.2.1 u0c8.2.2] 30)) (Addr.add (⟨w0.heap.size, 0, none⟩) 4)).bind fun v23 =>
(asI .i64 v23).bind fun n24 =>
if (decide ((n24 : Int) > 0)) = true then
(g19_j13 w0 u0c0 u0c1 u0c2 u0c3 u0c4 u0c5 u0c6 u0c7 u0c8 (decide ((n24 : Int) > 0)))
else
((World.cell? (World.alloc w0 (.cells #[.int .i64 u0c0, .int .i64 u0c1, .int .u64 u0c2, .int .i64 u0c3, .int .i64 u0c4, .bool u0c5, .bool u0c6, .bool u0c7, .slice u0c8.1 u0c8.2.1 u0c8.2.2] 30)) (Addr.add (⟨w0.heap.size, 0, none⟩) 6)).bind fun v25 =>
(asB v25).bind fun b26 =>
if (!b26) = true then
((World.cell? (World.alloc w0 (.cells #[.int .i64 u0c0, .int .i64 u0c1, .int .u64 u0c2, .int .i64 u0c3, .int .i64 u0c4, .bool u0c5, .bool u0c6, .bool u0c7, .slice u0c8.1 u0c8.2.1 u0c8.2.2] 30)) (Addr.add (⟨w0.heap.size, 0, none⟩) 8)).bind fun v27 =>
(asSl v27).bind fun q28 =>
if (((q28.2.1 : Int) : Int) == 0) = true then
(g19_j13 w0 u0c0 u0c1 u0c2 u0c3 u0c4 u0c5 u0c6 u0c7 u0c8 true)
else
((World.cell? (World.alloc w0 (.cells #[.int .i64 u0c0, .int .i64 u0c1, .int .u64 u0c2, .int .i64 u0c3, .int .i64 u0c4, .bool u0c5, .bool u0c6, .bool u0c7, .slice u0c8.1 u0c8.2.1 u0c8.2.2] 30)) (Addr.add (⟨w0.heap.size, 0, none⟩) 7)).bind fun v30 =>
(asB v30).bind fun b31 =>
if b31 = true then
(g19_j13 w0 u0c0 u0c1 u0c2 u0c3 u0c4 u0c5 u0c6 u0c7 u0c8 b31)
else
((World.cell? (World.alloc w0 (.cells #[.int .i64 u0c0, .int .i64 u0c1, .int .u64 u0c2, .int .i64 u0c3, .int .i64 u0c4, .bool u0c5, .bool u0c6, .bool u0c7, .slice u0c8.1 u0c8.2.1 u0c8.2.2] 30)) (Addr.add (⟨w0.heap.size, 0, none⟩) 5)).bind fun v32 =>
(asB v32).bind fun b33 =>
if b33 = true then
((World.cell? (World.alloc w0 (.cells #[.int .i64 u0c0, .int .i64 u0c1, .int .u64 u0c2, .int .i64 u0c3, .int .i64 u0c4, .bool u0c5, .bool u0c6, .bool u0c7, .slice u0c8.1 u0c8.2.1 u0c8.2.2] 30)) (Addr.add (⟨w0.heap.size, 0, none⟩) 2)).bind fun v34 =>
(asI .u64 v34).bind fun n35 =>
if ((n35 : Int) == 0) = true then
(g19_j13 w0 u0c0 u0c1 u0c2 u0c3 u0c4 u0c5 u0c6 u0c7 u0c8 ((n35 : Int) == 0))
else
((World.cell? (World.alloc w0 (.cells #[.int .i64 u0c0, .int .i64 u0c1, .int .u64 u0c2, .int .i64 u0c3, .int .i64 u0c4, .bool u0c5, .bool u0c6, .bool u0c7, .slice u0c8.1 u0c8.2.1 u0c8.2.2] 30)) (Addr.add (⟨w0.heap.size, 0, none⟩) 2)).bind fun v36 =>
(asI .u64 v36).bind fun n37 =>
if ((n37 : Int) == 0) = true then
((World.cell? (World.alloc w0 (.cells #[.int .i64 u0c0, .int .i64 u0c1, .int .u64 u0c2, .int .i64 u0c3, .int .i64 u0c4, .bool u0c5, .bool u0c6, .bool u0c7, .slice u0c8.1 u0c8.2.1 u0c8.2.2] 30)) (Addr.add (⟨w0.heap.size, 0, none⟩) 3)).bind fun v38 =>
(asI .i64 v38).bind fun n39 =>
if (decide ((n39 : Int) > 0)) = true then
(g19_j13 w0 u0c0 u0c1 u0c2 u0c3 u0c4 u0c5 u0c6 u0c7 u0c8 true)
else
((World.cell? (World.alloc w0 (.cells #[.int .i64 u0c0, .int .i64 u0c1, .int .u64 u0c2, .int .i64 u0c3, .int .i64 u0c4, .bool u0c5, .bool u0c6, .bool u0c7, .slice u0c8.1 u0c8.2.1 u0c8.2.2] 30)) (Addr.add (⟨w0.heap.size, 0, none⟩) 4)).bind fun v40 =>
(asI .i64 v40).bind fun n41 =>
g19_j13 w0 u0c0 u0c1 u0c2 u0c3 u0c4 u0c5 u0c6 u0c7 u0c8 (decide ((n41 : Int) > 0))))
else
(g19_j13 w0 u0c0 u0c1 u0c2 u0c3 u0c4 u0c5 u0c6 u0c7 u0c8 false)))
else
((World.cell? (World.alloc w0 (.cells #[.int .i64 u0c0, .int .i64 u0c1, .int .u64 u0c2, .int .i64 u0c3, .int .i64 u0c4, .bool u0c5, .bool u0c6, .bool u0c7, .slice u0c8.1 u0c8.2.1 u0c8.2.2] 30)) (Addr.add (⟨w0.heap.size, 0, none⟩) 2)).bind fun v42 =>
(asI .u64 v42).bind fun n43 =>
if ((n43 : Int) == 0) = true then
((World.cell? (World.alloc w0 (.cells #[.int .i64 u0c0, .int .i64 u0c1, .int .u64 u0c2, .int .i64 u0c3, .int .i64 u0c4, .bool u0c5, .bool u0c6, .bool u0c7, .slice u0c8.1 u0c8.2.1 u0c8.2.2] 30)) (Addr.add (⟨w0.heap.size, 0, none⟩) 3)).bind fun v44 =>
(asI .i64 v44).bind fun n45 =>
if (decide ((n45 : Int) > 0)) = true then
(g19_j13 w0 u0c0 u0c1 u0c2 u0c3 u0c4 u0c5 u0c6 u0c7 u0c8 true)
else
((World.cell? (World.alloc w0 (.cells #[.int .i64 u0c0, .int .i64 u0c1, .int .u64 u0c2, .int .i64 u0c3, .int .i64 u0c4, .bool u0c5, .bool u0c6, .bool u0c7, .slice u0c8.1 u0c8.2.1 u0c8.2.2] 30)) (Addr.add (⟨w0.heap.size, 0, none⟩) 4)).bind fun v46 =>
(asI .i64 v46).bind fun n47 =>
g19_j13 w0 u0c0 u0c1 u0c2 u0c3 u0c4 u0c5 u0c6 u0c7 u0c8 (decide ((n47 : Int) > 0))))
else
(g19_j13 w0 u0c0 u0c1 u0c2 u0c3 u0c4 u0c5 u0c6 u0c7 u0c8 false)))))
else
((World.cell? (World.alloc w0 (.cells #[.int .i64 u0c0, .int .i64 u0c1, .int .u64 u0c2, .int .i64 u0c3, .int .i64 u0c4, .bool u0c5, .bool u0c6, .bool u0c7, .slice u0c8.1 u0c8.2.1 u0c8.2.2] 30)) (Addr.add (⟨w0.heap.size, 0, none⟩) 5)).bind fun v48 =>
(asB v48).bind fun b49 =>
if b49 = true then
((World.cell? (World.alloc w0 (.cells #[.int .i64 u0c0, .int .i64 u0c1, .int .u64 u0c2, .int .i64 u0c3, .int .i64 u0c4, .bool u0c5, .bool u0c6, .bool u0c7, .slice u0c8.1 u0c8.2.1 u0c8.2.2] 30)) (Addr.add (⟨w0.heap.size, 0, none⟩) 2)).bind fun v50 =>
(asI .u64 v50).bind fun n51 =>
if ((n51 : Int) == 0) = true then
(g19_j13 w0 u0c0 u0c1 u0c2 u0c3 u0c4 u0c5 u0c6 u0c7 u0c8 ((n51 : Int) == 0))
else
((World.cell? (World.alloc w0 (.cells #[.int .i64 u0c0, .int .i64 u0c1, .int .u64 u0c2, .int .i64 u0c3, .int .i64 u0c4, .bool u0c5, .bool u0c6, .bool u0c7, .slice u0c8.1 u0c8.2.1 u0c8.2.2] 30)) (Addr.add (⟨w0.heap.size, 0, none⟩) 2)).bind fun v52 =>
(asI .u64 v52).bind fun n53 =>
if ((n53 : Int) == 0) = true then
((World.cell? (World.alloc w0 (.cells #[.int .i64 u0c0, .int .i64 u0c1, .int .u64 u0c2, .int .i64 u0c3, .int .i64 u0c4, .bool u0c5, .bool u0c6, .bool u0c7, .slice u0c8.1 u0c8.2.1 u0c8.2.2] 30)) (Addr.add (⟨w0.heap.size, 0, none⟩) 3)).bind fun v54 =>
(asI .i64 v54).bind fun n55 =>
if (decide ((n55 : Int) > 0)) = true then
(g19_j13 w0 u0c0 u0c1 u0c2 u0c3 u0c4 u0c5 u0c6 u0c7 u0c8 true)
else
((World.cell? (World.alloc w0 (.cells #[.int .i64 u0c0, .int .i64 u0c1, .int .u64 u0c2, .int .i64 u0c3, .int .i64 u0c4, .bool u0c5, .bool u0c6, .bool u0c7, .slice u0c8.1 u0c8.2.1 u0c8.2.2] 30)) (Addr.add (⟨w0.heap.size, 0, none⟩) 4)).bind fun v56 =>
(asI .i64 v56).bind fun n57 =>
g19_j13 w0 u0c0 u0c1 u0c2 u0c3 u0c4 u0c5 u0c6 u0c7 u0c8 (decide ((n57 : Int) > 0))))
else
(g19_j13 w0 u0c0 u0c1 u0c2 u0c3 u0c4 u0c5 u0c6 u0c7 u0c8 false)))
else
((World.cell? (World.alloc w0 (.cells #[.int .i64 u0c0, .int .i64 u0c1, .int .u64 u0c2, .int .i64 u0c3, .int .i64 u0c4, .bool u0c5, .bool u0c6, .bool u0c7, .slice u0c8.1 u0c8.2.1 u0c8.2.2] 30)) (Addr.add (⟨w0.heap.size, 0, none⟩) 2)).bind fun v58 =>
(asI .u64 v58).bind fun n59 =>
if ((n59 : Int) == 0) = true then
((World.cell? (World.alloc w0 (.cells #[.int .i64 u0c0, .int .i64 u0c1, .int .u64 u0c2, .int .i64 u0c3, .int .i64 u0c4, .bool u0c5, .bool u0c6, .bool u0c7, .slice u0c8.1 u0c8.2.1 u0c8.2.2] 30)) (Addr.add (⟨w0.heap.size, 0, none⟩) 3)).bind fun v60 =>
(asI .i64 v60).bind fun n61 =>
if (decide ((n61 : Int) > 0)) = true then
(g19_j13 w0 u0c0 u0c1 u0c2 u0c3 u0c4 u0c5 u0c6 u0c7 u0c8 true)
else
((World.cell? (World.alloc w0 (.cells #[.int .i64 u0c0, .int .i64 u0c1, .int .u64 u0c2, .int .i64 u0c3, .int .i64 u0c4, .bool u0c5, .bool u0c6, .bool u0c7, .slice u0c8.1 u0c8.2.1 u0c8.2.2] 30)) (Addr.add (⟨w0.heap.size, 0, none⟩) 4)).bind fun v62 =>
(asI .i64 v62).bind fun n63 =>
g19_j13 w0 u0c0 u0c1 u0c2 u0c3 u0c4 u0c5 u0c6 u0c7 u0c8 (decide ((n63 : Int) > 0))))
else
(g19_j13 w0 u0c0 u0c1 u0c2 u0c3 u0c4 u0c5 u0c6 u0c7 u0c8 false))))))))
else
((World.cell? (World.alloc w0 (.cells #[.int .i64 u0c0, .int .i64 u0c1, .int .u64 u0c2, .int .i64 u0c3, .int .i64 u0c4, .bool u0c5, .bool u0c6, .bool u0c7, .slice u0c8.1 u0c8.2.1 u0c8.2.2] 30)) (Addr.add (⟨w0.heap.size, 0, none⟩) 6)).bind fun v64 =>
(asB v64).bind fun b65 =>
if (!b65) = true then
((World.cell? (World.alloc w0 (.cells #[.int .i64 u0c0, .int .i64 u0c1, .int .u64 u0c2, .int .i64 u0c3, .int .i64 u0c4, .bool u0c5, .bool u0c6, .bool u0c7, .slice u0c8.1 u0c8.2.1 u0c8.2.2] 30)) (Addr.add (⟨w0.heap.size, 0, none⟩) 8)).bind fun v66 =>
(asSl v66).bind fun q67 =>
if (((q67.2.1 : Int) : Int) == 0) = true then
(g19_j13 w0 u0c0 u0c1 u0c2 u0c3 u0c4 u0c5 u0c6 u0c7 u0c8 true)
else
((World.cell? (World.alloc w0 (.cells #[.int .i64 u0c0, .int .i64 u0c1, .int .u64 u0c2, .int .i64 u0c3, .int .i64 u0c4, .bool u0c5, .bool u0c6, .bool u0c7, .slice u0c8.1 u0c8.2.1 u0c8.2.2] 30)) (Addr.add (⟨w0.heap.size, 0, none⟩) 7)).bind fun v69 =>
(asB v69).bind fun b70 =>
if b70 = true then
(g19_j13 w0 u0c0 u0c1 u0c2 u0c3 u0c4 u0c5 u0c6 u0c7 u0c8 b70)
else
((World.cell? (World.alloc w0 (.cells #[.int .i64 u0c0, .int .i64 u0c1, .int .u64 u0c2, .int .i64 u0c3, .int .i64 u0c4, .bool u0c5, .bool u0c6, .bool u0c7, .slice u0c8.1 u0c8.2.1 u0c8.2.2] 30)) (Addr.add (⟨w0.heap.size, 0, none⟩) 5)).bind fun v71 =>
(asB v71).bind fun b72 =>
if b72 = true then
((World.cell? (World.alloc w0 (.cells #[.int .i64 u0c0, .int .i64 u0c1, .int .u64 u0c2, .int .i64 u0c3, .int .i64 u0c4, .bool u0c5, .bool u0c6, .bool u0c7, .slice u0c8.1 u0c8.2.1 u0c8.2.2] 30)) (Addr.add (⟨w0.heap.size, 0, none⟩) 2)).bind fun v73 =>
(asI .u64 v73).bind fun n74 =>
if ((n74 : Int) == 0) = true then
(g19_j13 w0 u0c0 u0c1 u0c2 u0c3 u0c4 u0c5 u0c6 u0c7 u0c8 ((n74 : Int) == 0))
else
((World.cell? (World.alloc w0 (.cells #[.int .i64 u0c0, .int .i64 u0c1, .int .u64 u0c2, .int .i64 u0c3, .int .i64 u0c4, .bool u0c5, .bool u0c6, .bool u0c7, .slice u0c8.1 u0c8.2.1 u0c8.2.2] 30)) (Addr.add (⟨w0.heap.size, 0, none⟩) 2)).bind fun v75 =>
(asI .u64 v75).bind fun n76 =>
if ((n76 : Int) == 0) = true then
((World.cell? (World.alloc w0 (.cells #[.int .i64 u0c0, .int .i64 u0c1, .int .u64 u0c2, .int .i64 u0c3, .int .i64 u0c4, .bool u0c5, .bool u0c6, .bool u0c7, .slice u0c8.1 u0c8.2.1 u0c8.2.2] 30)) (Addr.add (⟨w0.heap.size, 0, none⟩) 3)).bind fun v77 =>
(asI .i64 v77).bind fun n78 =>
if (decide ((n78 : Int) > 0)) = true then
(g19_j13 w0 u0c0 u0c1 u0c2 u0c3 u0c4 u0c5 u0c6 u0c7 u0c8 true)
else
((World.cell? (World.alloc w0 (.cells #[.int .i64 u0c0, .int .i64 u0c1, .int .u64 u0c2, .int .i64 u0c3, .int .i64 u0c4, .bool u0c5, .bool u0c6, .bool u0c7, .slice u0c8.1 u0c8.2.1 u0c8.2.2] 30)) (Addr.add (⟨w0.heap.size, 0, none⟩) 4)).bind fun v79 =>
(asI .i64 v79).bind fun n80 =>
g19_j13 w0 u0c0 u0c1 u0c2 u0c3 u0c4 u0c5 u0c6 u0c7 u0c8 (decide ((n80 : Int) > 0))))
else
(g19_j13 w0 u0c0 u0c1 u0c2 u0c3 u0c4 u0c5 u0c6 u0c7 u0c8 false)))
else
((World.cell? (World.alloc w0 (.cells #[.int .i64 u0c0, .int .i64 u0c1, .int .u64 u0c2, .int .i64 u0c3, .int .i64 u0c4, .bool u0c5, .bool u0c6, .bool u0c7, .slice u0c8.1 u0c8.2.1 u0c8.2.2] 30)) (Addr.add (⟨w0.heap.size, 0, none⟩) 2)).bind fun v81 =>
(asI .u64 v81).bind fun n82 =>
if ((n82 : Int) == 0) = true then
((World.cell? (World.alloc w0 (.cells #[.int .i64 u0c0, .int .i64 u0c1, .int .u64 u0c2, .int .i64 u0c3, .int .i64 u0c4, .bool u0c5, .bool u0c6, .bool u0c7, .slice u0c8.1 u0c8.2.1 u0c8.2.2] 30)) (Addr.add (⟨w0.heap.size, 0, none⟩) 3)).bind fun v83 =>
(asI .i64 v83).bind fun n84 =>
if (decide ((n84 : Int) > 0)) = true then
(g19_j13 w0 u0c0 u0c1 u0c2 u0c3 u0c4 u0c5 u0c6 u0c7 u0c8 true)
else
((World.cell? (World.alloc w0 (.cells #[.int .i64 u0c0, .int .i64 u0c1, .int .u64 u0c2, .int .i64 u0c3, .int .i64 u0c4, .bool u0c5, .bool u0c6, .bool u0c7, .slice u0c8.1 u0c8.2.1 u0c8.2.2] 30)) (Addr.add (⟨w0.heap.size, 0, none⟩) 4)).bind fun v85 =>
(asI .i64 v85).bind fun n86 =>
g19_j13 w0 u0c0 u0c1 u0c2 u0c3 u0c4 u0c5 u0c6 u0c7 u0c8 (decide ((n86 : Int) > 0))))
else
(g19_j13 w0 u0c0 u0c1 u0c2 u0c3 u0c4 u0c5 u0c6 u0c7 u0c8 false)))))
else
((World.cell? (World.alloc w0 (.cells #[.int .i64 u0c0, .int .i64 u0c1, .int .u64 u0c2, .int .i64 u0c3, .int .i64 u0c4, .bool u0c5, .bool u0c6, .bool u0c7, .slice u0c8.1 u0c8.2.1 u0c8.2.2] 30)) (Addr.add (⟨w0.heap.size, 0, none⟩) 5)).bind fun v87 =>
(asB v87).bind fun b88 =>
if b88 = true then
((World.cell? (World.alloc w0 (.cells #[.int .i64 u0c0, .int .i64 u0c1, .int .u64 u0c2, .int .i64 u0c3, .int .i64 u0c4, .bool u0c5, .bool u0c6, .bool u0c7, .slice u0c8.1 u0c8.2.1 u0c8.2.2] 30)) (Addr.add (⟨w0.heap.size, 0, none⟩) 2)).bind fun v89 =>
(asI .u64 v89).bind fun n90 =>
if ((n90 : Int) == 0) = true then
(g19_j13 w0 u0c0 u0c1 u0c2 u0c3 u0c4 u0c5 u0c6 u0c7 u0c8 ((n90 : Int) == 0))
else
((World.cell? (World.alloc w0 (.cells #[.int .i64 u0c0, .int .i64 u0c1, .int .u64 u0c2, .int .i64 u0c3, .int .i64 u0c4, .bool u0c5, .bool u0c6, .bool u0c7, .slice u0c8.1 u0c8.2.1 u0c8.2.2] 30)) (Addr.add (⟨w0.heap.size, 0, none⟩) 2)).bind fun v91 =>
(asI .u64 v91).bind fun n92 =>
if ((n92 : Int) == 0) = true then
((World.cell? (World.alloc w0 (.cells #[.int .i64 u0c0, .int .i64 u0c1, .int .u64 u0c2, .int .i64 u0c3, .int .i64 u0c4, .bool u0c5, .bool u0c6, .bool u0c7, .slice u0c8.1 u0c8.2.1 u0c8.2.2] 30)) (Addr.add (⟨w0.heap.size, 0, none⟩) 3)).bind fun v93 =>
(asI .i64 v93).bind fun n94 =>
if (decide ((n94 : Int) > 0)) = true then
(g19_j13 w0 u0c0 u0c1 u0c2 u0c3 u0c4 u0c5 u0c6 u0c7 u0c8 true)
else
((World.cell? (World.alloc w0 (.cells #[.int .i64 u0c0, .int .i64 u0c1, .int .u64 u0c2, .int .i64 u0c3, .int .i64 u0c4, .bool u0c5, .bool u0c6, .bool u0c7, .slice u0c8.1 u0c8.2.1 u0c8.2.2] 30)) (Addr.add (⟨w0.heap.size, 0, none⟩) 4)).bind fun v95 =>
(asI .i64 v95).bind fun n96 =>
g19_j13 w0 u0c0 u0c1 u0c2 u0c3 u0c4 u0c5 u0c6 u0c7 u0c8 (decide ((n96 : Int) > 0))))
else
(g19_j13 w0 u0c0 u0c1 u0c2 u0c3 u0c4 u0c5 u0c6 u0c7 u0c8 false)))
else
((World.cell? (World.alloc w0 (.cells #[.int .i64 u0c0, .int .i64 u0c1, .int .u64 u0c2, .int .i64 u0c3, .int .i64 u0c4, .bool u0c5, .bool u0c6, .bool u0c7, .slice u0c8.1 u0c8.2.1 u0c8.2.2] 30)) (Addr.add (⟨w0.heap.size, 0, none⟩) 2)).bind fun v97 =>
(asI .u64 v97).bind fun n98 =>
if ((n98 : Int) == 0) = true then
((World.cell? (World.alloc w0 (.cells #[.int .i64 u0c0, .int .i64 u0c1, .int .u64 u0c2, .int .i64 u0c3, .int .i64 u0c4, .bool u0c5, .bool u0c6, .bool u0c7, .slice u0c8.1 u0c8.2.1 u0c8.2.2] 30)) (Addr.add (⟨w0.heap.size, 0, none⟩) 3)).bind fun v99 =>
(asI .i64 v99).bind fun n100 =>
if (decide ((n100 : Int) > 0)) = true then
(g19_j13 w0 u0c0 u0c1 u0c2 u0c3 u0c4 u0c5 u0c6 u0c7 u0c8 true)
else
((World.cell? (World.alloc w0 (.cells #[.int .i64 u0c0, .int .i64 u0c1, .int .u64 u0c2, .int .i64 u0c3, .int .i64 u0c4, .bool u0c5, .bool u0c6, .bool u0c7, .slice u0c8.1 u0c8.2.1 u0c8.2.2] 30)) (Addr.add (⟨w0.heap.size, 0, none⟩) 4)).bind fun v101 =>
(asI .i64 v101).bind fun n102 =>
g19_j13 w0 u0c0 u0c1 u0c2 u0c3 u0c4 u0c5 u0c6 u0c7 u0c8 (decide ((n102 : Int) > 0))))
else
(g19_j13 w0 u0c0 u0c1 u0c2 u0c3 u0c4 u0c5 u0c6 u0c7 u0c8 false))))))))))

theorem g19_eq (u0c0 : Int) (u0c1 : Int) (u0c2 : Int) (u0c3 : Int) (u0c4 : Int) (u0c5 : Bool) (u0c6 : Bool) (u0c7 : Bool) (u0c8 : Option Addr × Nat × Nat) (w0 : World) : evFn Try.prog 19 g19_ann #[.agg #[.int .i64 u0c0, .int .i64 u0c1, .int .u64 u0c2, .int .i64 u0c3, .int .i64 u0c4, .bool u0c5, .bool u0c6, .bool u0c7, .slice u0c8.1 u0c8.2.1 u0c8.2.2]] w0 = g19 u0c0 u0c1 u0c2 u0c3 u0c4 u0c5 u0c6 u0c7 u0c8 w0 := by kernel_rfl

theorem g19_call {u0c0 : Int} {u0c1 : Int} {u0c2 : Int} {u0c3 : Int} {u0c4 : Int} {u0c5 : Bool} {u0c6 : Bool} {u0c7 : Bool} {u0c8 : Option Addr × Nat × Nat} {w0 : World} {r : Value × World} (h : g19 u0c0 u0c1 u0c2 u0c3 u0c4 u0c5 u0c6 u0c7 u0c8 w0 = some r) : callF Try.prog 19 #[.agg #[.int .i64 u0c0, .int .i64 u0c1, .int .u64 u0c2, .int .i64 u0c3, .int .i64 u0c4, .bool u0c5, .bool u0c6, .bool u0c7, .slice u0c8.1 u0c8.2.1 u0c8.2.2]] w0 = some r :=
  callF_of_evFn (ann := g19_ann) Try.call19 (by kernel_rfl) ((g19_eq u0c0 u0c1 u0c2 u0c3 u0c4 u0c5 u0c6 u0c7 u0c8 w0).trans h)

theorem g19_l110_x1_of {q108 : Option Addr × Nat × Nat} {s t : Int × Int} {w w' : World} (h : loopS (g19_l110_b q108) s w = some (.exit 1, t, w')) : g19_l110 q108 s w = g19_l110_x1 t w' := by
  have h1 : g19_l110 q108 s w = loopM Try.prog 107 19 g19_ann (cAt [1, 1, 0, 1, 0, 0] (bodyOf Try.f19)) [0, 1, 0, 1, 1] g19_K119 ((g19_l110_cs q108) ++ sputs [(2, .i .i64), (99, .i .i64)] s) w := by kernel_rfl
  have h2 : loopM Try.prog 107 19 g19_ann (cAt [1, 1, 0, 1, 0, 0] (bodyOf Try.f19)) [0, 1, 0, 1, 1] g19_K119 ((g19_l110_cs q108) ++ sputs [(2, .i .i64), (99, .i .i64)] s) w = g19_K119 (.exit 1) (puts 107 ((g19_l110_cs q108) ++ sputs [(2, .i .i64), (99, .i .i64)] t)) w' :=
    loop_rule (P := Try.prog) (N := 107) (f := 19) (ann := g19_ann) (body := (cAt [1, 1, 0, 1, 0, 0] (bodyOf Try.f19))) (pt := [0, 1, 0, 1, 1]) (K := g19_K119) (g19_l110_cs q108) [(2, .i .i64), (99, .i .i64)] (b := g19_l110_b q108) (fun s w => by kernel_rfl) (by kernel_rfl) (by kernel_rfl) (by kernel_rfl) h
  have h3 : g19_K119 (.exit 1) (puts 107 ((g19_l110_cs q108) ++ sputs [(2, .i .i64), (99, .i .i64)] t)) w' = g19_l110_x1 t w' := by kernel_rfl
  exact h1.trans (h2.trans h3)

theorem g19_l110_ret_of {q108 : Option Addr × Nat × Nat} {s t : Int × Int} {w w' : World} (h : loopS (g19_l110_b q108) s w = some (.ret, t, w')) : g19_l110 q108 s w = g19_l110_ret t w' := by
  have h1 : g19_l110 q108 s w = loopM Try.prog 107 19 g19_ann (cAt [1, 1, 0, 1, 0, 0] (bodyOf Try.f19)) [0, 1, 0, 1, 1] g19_K119 ((g19_l110_cs q108) ++ sputs [(2, .i .i64), (99, .i .i64)] s) w := by kernel_rfl
  have h2 : loopM Try.prog 107 19 g19_ann (cAt [1, 1, 0, 1, 0, 0] (bodyOf Try.f19)) [0, 1, 0, 1, 1] g19_K119 ((g19_l110_cs q108) ++ sputs [(2, .i .i64), (99, .i .i64)] s) w = g19_K119 (.ret) (puts 107 ((g19_l110_cs q108) ++ sputs [(2, .i .i64), (99, .i .i64)] t)) w' :=
    loop_rule (P := Try.prog) (N := 107) (f := 19) (ann := g19_ann) (body := (cAt [1, 1, 0, 1, 0, 0] (bodyOf Try.f19))) (pt := [0, 1, 0, 1, 1]) (K := g19_K119) (g19_l110_cs q108) [(2, .i .i64), (99, .i .i64)] (b := g19_l110_b q108) (fun s w => by kernel_rfl) (by kernel_rfl) (by kernel_rfl) (by kernel_rfl) h
  have h3 : g19_K119 (.ret) (puts 107 ((g19_l110_cs q108) ++ sputs [(2, .i .i64), (99, .i .i64)] t)) w' = g19_l110_ret t w' := by kernel_rfl
  exact h1.trans (h2.trans h3)

/-! 20: penstock/batch.Size (b: api.Batch) -/
def g20_ann : List (List Nat × List Nat) := []

noncomputable def g20 (u0c0 : Int) (u0c1 : Int) (u0c2 : Int) (u0c3 : Int) (u0c4 : Int) (u0c5 : Bool) (u0c6 : Bool) (u0c7 : Bool) (u0c8 : Option Addr × Nat × Nat) (w0 : World) : Option (Value × World) :=
(World.cell? (World.alloc w0 (.cells #[.int .i64 u0c0, .int .i64 u0c1, .int .u64 u0c2, .int .i64 u0c3, .int .i64 u0c4, .bool u0c5, .bool u0c6, .bool u0c7, .slice u0c8.1 u0c8.2.1 u0c8.2.2] 30)) (Addr.add (⟨w0.heap.size, 0, none⟩) 6)).bind fun v1 =>
(asB v1).bind fun b2 =>
if b2 = true then
(some (.int .i64 1, (World.alloc w0 (.cells #[.int .i64 u0c0, .int .i64 u0c1, .int .u64 u0c2, .int .i64 u0c3, .int .i64 u0c4, .bool u0c5, .bool u0c6, .bool u0c7, .slice u0c8.1 u0c8.2.1 u0c8.2.2] 30))))
else
((World.cell? (World.alloc w0 (.cells #[.int .i64 u0c0, .int .i64 u0c1, .int .u64 u0c2, .int .i64 u0c3, .int .i64 u0c4, .bool u0c5, .bool u0c6, .bool u0c7, .slice u0c8.1 u0c8.2.1 u0c8.2.2] 30)) (Addr.add (⟨w0.heap.size, 0, none⟩) 8)).bind fun v3 =>
(asSl v3).bind fun q4 =>
some (.int .i64 (q4.2.1 : Int), (World.alloc w0 (.cells #[.int .i64 u0c0, .int .i64 u0c1, .int .u64 u0c2, .int .i64 u0c3, .int .i64 u0c4, .bool u0c5, .bool u0c6, .bool u0c7, .slice u0c8.1 u0c8.2.1 u0c8.2.2] 30))))

theorem g20_eq (u0c0 : Int) (u0c1 : Int) (u0c2 : Int) (u0c3 : Int) (u0c4 : Int) (u0c5 : Bool) (u0c6 : Bool) (u0c7 : Bool) (u0c8 : Option Addr × Nat × Nat) (w0 : World) : evFn Try.prog 20 g20_ann #[.agg #[.int .i64 u0c0, .int .i64 u0c1, .int .u64 u0c2, .int .i64 u0c3, .int .i64 u0c4, .bool u0c5, .bool u0c6, .bool u0c7, .slice u0c8.1 u0c8.2.1 u0c8.2.2]] w0 = g20 u0c0 u0c1 u0c2 u0c3 u0c4 u0c5 u0c6 u0c7 u0c8 w0 := by kernel_rfl

theorem g20_call {u0c0 : Int} {u0c1 : Int} {u0c2 : Int} {u0c3 : Int} {u0c4 : Int} {u0c5 : Bool} {u0c6 : Bool} {u0c7 : Bool} {u0c8 : Option Addr × Nat × Nat} {w0 : World} {r : Value × World} (h : g20 u0c0 u0c1 u0c2 u0c3 u0c4 u0c5 u0c6 u0c7 u0c8 w0 = some r) : callF Try.prog 20 #[.agg #[.int .i64 u0c0, .int .i64 u0c1, .int .u64 u0c2, .int .i64 u0c3, .int .i64 u0c4, .bool u0c5, .bool u0c6, .bool u0c7, .slice u0c8.1 u0c8.2.1 u0c8.2.2]] w0 = some r :=
  callF_of_evFn (ann := g20_ann) Try.call20 (by kernel_rfl) ((g20_eq u0c0 u0c1 u0c2 u0c3 u0c4 u0c5 u0c6 u0c7 u0c8 w0).trans h)

end Go.Proofs.Ytliakpomlkgpnaa
