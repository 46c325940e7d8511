/-
  TxnF1: lemmas on what Go functions of this seat come to (for whatever arguments, as each says). No condition but those that stand in each lemma.
-/
import Derived.Test.YtlcojbodcbjkaaaTxnF0
namespace Go.Proofs.Ytlcojbodcbjkaaa
open Go Go.Ev
set_option maxRecDepth 100000
set_option linter.unusedVariables false
/-! 24: penstock/penstocklaw15.life (s: *txn.State, o: penstocklaw15.Op, next: uint64) -/
def g24_ann : List (List Nat × List Nat) := []

noncomputable def g24_j12 (w11 : World) (u0 : Option Addr) (x91 : Bool) (w92 : World) : Option (Value × World) :=
if x91 = true then
((ldN w92 (⟨w11.heap.size, 0, none⟩) 0 7).bind fun l93 =>
(asI .i64 (l93.getD 0 undef)).bind fun n94 =>
(asI .i64 (l93.getD 1 undef)).bind fun n95 =>
(asI .i64 (l93.getD 2 undef)).bind fun n96 =>
(asI .u64 (l93.getD 3 undef)).bind fun n97 =>
(asI .i64 (l93.getD 4 undef)).bind fun n98 =>
(asSl (l93.getD 5 undef)).bind fun q99 =>
(asB (l93.getD 6 undef)).bind fun b100 =>
(callF Try.prog 13 #[.pointer u0, .agg #[.int .i64 n94, .int .i64 n95, .int .i64 n96, .int .u64 n97, .int .i64 n98, .slice q99.1 q99.2.1 q99.2.2, .bool b100]] w92).bind fun r101 =>
(asTup 0 r101.1).bind fun _ =>
some (.bool x91, r101.2))
else
(some (.bool x91, w92))

noncomputable def g24_j87 (u0 : Option Addr) (w11 : World) (x88 : Bool) (w89 : World) : Option (Value × World) :=
g24_j12 w11 u0 x88 w89

noncomputable def g24_j81 (w11 : World) (u0 : Option Addr) (x85 : Bool) : Option (Value × World) :=
(stL (World.drew (World.alloc w11 (.cells #[.int .i64 0, .int .i64 0, .int .i64 0, .int .u64 0, .int .i64 0, .slice none 0 0, .bool false] 30))) (⟨w11.heap.size, 0, none⟩) [.int .i64 4, .int .i64 0, .int .i64 0, .int .u64 0, .int .i64 0, .slice none 0 0, .bool false] 0).bind fun w86 =>
g24_j87 u0 w11 x85 w86

noncomputable def g24 (u0 : Option Addr) (u1c0 : Int) (u1c1 : Int) (u1c2 : Int) (u1c3 : Int) (u1c4 : Int) (u1c5 : Int) (u1c6 : Bool) (u1c7 : Bool) (u1c8 : Int) (u1c9 : Int) (u1c10 : Int) (u1c11 : Int) (u1c12 : Int) (u1c13 : Option Addr × Nat × Nat) (u1c14 : Bool) (u2 : Int) (w0 : World) : Option (Value × World) :=
(callF Try.prog 21 #[.pointer u0, .int .i64 0] (World.alloc w0 (.cells #[.int .i64 u1c0, .int .i64 u1c1, .int .i64 u1c2, .int .i64 u1c3, .int .i64 u1c4, .int .u64 u1c5, .bool u1c6, .bool u1c7, .int .i64 u1c8, .int .i64 u1c9, .int .i64 u1c10, .int .u64 u1c11, .int .i64 u1c12, .slice u1c13.1 u1c13.2.1 u1c13.2.2, .bool u1c14] 32))).bind fun r1 =>
(Ev.asAgg 8 r1.1).bind fun l2 =>
(asI .i64 (l2.getD 0 undef)).bind fun n3 =>
(asI .i64 (l2.getD 1 undef)).bind fun n4 =>
(asI .u64 (l2.getD 2 undef)).bind fun n5 =>
(asI .i64 (l2.getD 3 undef)).bind fun n6 =>
(asSl (l2.getD 4 undef)).bind fun q7 =>
(asI .i64 (l2.getD 5 undef)).bind fun n8 =>
(asI .u64 (l2.getD 6 undef)).bind fun n9 =>
(asB (l2.getD 7 undef)).bind fun b10 =>
(stL (World.alloc r1.2 (.cells #[.int .i64 0, .int .i64 0, .int .u64 0, .int .i64 0, .slice none 0 0, .int .i64 0, .int .u64 0, .bool false] 46)) (⟨r1.2.heap.size, 0, none⟩) [.int .i64 n3, .int .i64 n4, .int .u64 n5, .int .i64 n6, .slice q7.1 q7.2.1 q7.2.2, .int .i64 n8, .int .u64 n9, .bool b10] 0).bind fun w11 =>
(World.cell? (World.alloc w11 (.cells #[.int .i64 0, .int .i64 0, .int .i64 0, .int .u64 0, .int .i64 0, .slice none 0 0, .bool false] 30)) (⟨w0.heap.size, 0, none⟩)).bind fun v13 =>
(asI .i64 v13).bind fun n14 =>
if ((n14 : Int) == 0) = true then
((World.cell? (World.alloc w11 (.cells #[.int .i64 0, .int .i64 0, .int .i64 0, .int .u64 0, .int .i64 0, .slice none 0 0, .bool false] 30)) (Addr.add (⟨r1.2.heap.size, 0, none⟩) 1)).bind fun v15 =>
(asI .i64 v15).bind fun n16 =>
(World.cell? (World.alloc w11 (.cells #[.int .i64 0, .int .i64 0, .int .i64 0, .int .u64 0, .int .i64 0, .slice none 0 0, .bool false] 30)) (Addr.add (⟨w0.heap.size, 0, none⟩) 2)).bind fun v17 =>
(asI .i64 v17).bind fun n18 =>
(callF Try.prog 14 #[.pointer u0, .int .i64 0, .int .i64 (IntKind.i64.wrap (n16 + (Int.tmod (IntKind.i64.wrap ((Int.tmod n18 2) + 2)) 2))), .int .u64 u2] (World.alloc w11 (.cells #[.int .i64 0, .int .i64 0, .int .i64 0, .int .u64 0, .int .i64 0, .slice none 0 0, .bool false] 30))).bind fun r19 =>
(asTup 3 r19.1).bind fun l20 =>
(Ev.asAgg 7 (l20.getD 0 undef)).bind fun l21 =>
(asI .i64 (l21.getD 0 undef)).bind fun n22 =>
(asI .i64 (l21.getD 1 undef)).bind fun n23 =>
(asI .i64 (l21.getD 2 undef)).bind fun n24 =>
(asI .u64 (l21.getD 3 undef)).bind fun n25 =>
(asI .i64 (l21.getD 4 undef)).bind fun n26 =>
(asSl (l21.getD 5 undef)).bind fun q27 =>
(asB (l21.getD 6 undef)).bind fun b28 =>
(asB (l20.getD 1 undef)).bind fun b29 =>
(asI .i64 (l20.getD 2 undef)).bind fun n30 =>
(stL r19.2 (⟨w11.heap.size, 0, none⟩) [.int .i64 n22, .int .i64 n23, .int .i64 n24, .int .u64 n25, .int .i64 n26, .slice q27.1 q27.2.1 q27.2.2, .bool b28] 0).bind fun w31 =>
g24_j12 w11 u0 b29 w31)
else
(if ((n14 : Int) == 1) = true then
((World.cell? (World.alloc w11 (.cells #[.int .i64 0, .int .i64 0, .int .i64 0, .int .u64 0, .int .i64 0, .slice none 0 0, .bool false] 30)) (Addr.add (⟨r1.2.heap.size, 0, none⟩) 2)).bind fun v32 =>
(asI .u64 v32).bind fun n33 =>
(World.cell? (World.alloc w11 (.cells #[.int .i64 0, .int .i64 0, .int .i64 0, .int .u64 0, .int .i64 0, .slice none 0 0, .bool false] 30)) (Addr.add (⟨r1.2.heap.size, 0, none⟩) 3)).bind fun v34 =>
(asI .i64 v34).bind fun n35 =>
(World.cell? (World.alloc w11 (.cells #[.int .i64 0, .int .i64 0, .int .i64 0, .int .u64 0, .int .i64 0, .slice none 0 0, .bool false] 30)) (Addr.add (⟨w0.heap.size, 0, none⟩) 4)).bind fun v36 =>
(asI .i64 v36).bind fun n37 =>
(callF Try.prog 16 #[.pointer u0, .int .i64 0, .int .u64 n33, .int .i64 n35, .int .i64 (Int.tmod (IntKind.i64.wrap ((Int.tmod n37 6) + 6)) 6)] (World.alloc w11 (.cells #[.int .i64 0, .int .i64 0, .int .i64 0, .int .u64 0, .int .i64 0, .slice none 0 0, .bool false] 30))).bind fun r38 =>
(asTup 3 r38.1).bind fun l39 =>
(Ev.asAgg 7 (l39.getD 0 undef)).bind fun l40 =>
(asI .i64 (l40.getD 0 undef)).bind fun n41 =>
(asI .i64 (l40.getD 1 undef)).bind fun n42 =>
(asI .i64 (l40.getD 2 undef)).bind fun n43 =>
(asI .u64 (l40.getD 3 undef)).bind fun n44 =>
(asI .i64 (l40.getD 4 undef)).bind fun n45 =>
(asSl (l40.getD 5 undef)).bind fun q46 =>
(asB (l40.getD 6 undef)).bind fun b47 =>
(asB (l39.getD 1 undef)).bind fun b48 =>
(asI .i64 (l39.getD 2 undef)).bind fun n49 =>
(stL r38.2 (⟨w11.heap.size, 0, none⟩) [.int .i64 n41, .int .i64 n42, .int .i64 n43, .int .u64 n44, .int .i64 n45, .slice q46.1 q46.2.1 q46.2.2, .bool b47] 0).bind fun w50 =>
g24_j12 w11 u0 b48 w50)
else
(if ((n14 : Int) == 2) = true then
((World.cell? (World.alloc w11 (.cells #[.int .i64 0, .int .i64 0, .int .i64 0, .int .u64 0, .int .i64 0, .slice none 0 0, .bool false] 30)) (Addr.add (⟨r1.2.heap.size, 0, none⟩) 2)).bind fun v51 =>
(asI .u64 v51).bind fun n52 =>
(World.cell? (World.alloc w11 (.cells #[.int .i64 0, .int .i64 0, .int .i64 0, .int .u64 0, .int .i64 0, .slice none 0 0, .bool false] 30)) (Addr.add (⟨r1.2.heap.size, 0, none⟩) 3)).bind fun v53 =>
(asI .i64 v53).bind fun n54 =>
(World.cell? (World.alloc w11 (.cells #[.int .i64 0, .int .i64 0, .int .i64 0, .int .u64 0, .int .i64 0, .slice none 0 0, .bool false] 30)) (Addr.add (⟨w0.heap.size, 0, none⟩) 6)).bind fun v55 =>
(asB v55).bind fun b56 =>
(callF Try.prog 18 #[.pointer u0, .int .i64 0, .int .u64 n52, .int .i64 n54, .bool b56] (World.alloc w11 (.cells #[.int .i64 0, .int .i64 0, .int .i64 0, .int .u64 0, .int .i64 0, .slice none 0 0, .bool false] 30))).bind fun r57 =>
(asTup 3 r57.1).bind fun l58 =>
(Ev.asAgg 7 (l58.getD 0 undef)).bind fun l59 =>
(asI .i64 (l59.getD 0 undef)).bind fun n60 =>
(asI .i64 (l59.getD 1 undef)).bind fun n61 =>
(asI .i64 (l59.getD 2 undef)).bind fun n62 =>
(asI .u64 (l59.getD 3 undef)).bind fun n63 =>
(asI .i64 (l59.getD 4 undef)).bind fun n64 =>
(asSl (l59.getD 5 undef)).bind fun q65 =>
(asB (l59.getD 6 undef)).bind fun b66 =>
(asB (l58.getD 1 undef)).bind fun b67 =>
(asI .i64 (l58.getD 2 undef)).bind fun n68 =>
(stL r57.2 (⟨w11.heap.size, 0, none⟩) [.int .i64 n60, .int .i64 n61, .int .i64 n62, .int .u64 n63, .int .i64 n64, .slice q65.1 q65.2.1 q65.2.2, .bool b66] 0).bind fun w69 =>
g24_j12 w11 u0 b67 w69)
else
(if (ahd (Region.schedule true (opsOf (cAt [1, 1, 1, 1, 0, 1, 0, 1, 1, 1, 1, 1, 1] (bodyOf Try.f24))) (World.tape (World.alloc w11 (.cells #[.int .i64 0, .int .i64 0, .int .i64 0, .int .u64 0, .int .i64 0, .slice none 0 0, .bool false] 30)) (World.drawn (World.alloc w11 (.cells #[.int .i64 0, .int .i64 0, .int .i64 0, .int .u64 0, .int .i64 0, .slice none 0 0, .bool false] 30))) (.order 24 5))) 0 2 && true) = true then
(if (ahd (Region.schedule true (opsOf (cAt [1, 1, 1, 1, 0, 1, 0, 1, 1, 1, 1, 1, 1] (bodyOf Try.f24))) (World.tape (World.alloc w11 (.cells #[.int .i64 0, .int .i64 0, .int .i64 0, .int .u64 0, .int .i64 0, .slice none 0 0, .bool false] 30)) (World.drawn (World.alloc w11 (.cells #[.int .i64 0, .int .i64 0, .int .i64 0, .int .u64 0, .int .i64 0, .slice none 0 0, .bool false] 30))) (.order 24 5))) 2 4 && true) = true then
((World.cell? (World.drew (World.alloc w11 (.cells #[.int .i64 0, .int .i64 0, .int .i64 0, .int .u64 0, .int .i64 0, .slice none 0 0, .bool false] 30))) (⟨r1.2.heap.size, 0, none⟩)).bind fun v75 =>
(asI .i64 v75).bind fun n76 =>
g24_j81 w11 u0 ((n76 : Int) == 3))
else
((stL (World.drew (World.alloc w11 (.cells #[.int .i64 0, .int .i64 0, .int .i64 0, .int .u64 0, .int .i64 0, .slice none 0 0, .bool false] 30))) (⟨w11.heap.size, 0, none⟩) [.int .i64 4, .int .i64 0, .int .i64 0, .int .u64 0, .int .i64 0, .slice none 0 0, .bool false] 0).bind fun w78 =>
(World.cell? w78 (⟨r1.2.heap.size, 0, none⟩)).bind fun v82 =>
(asI .i64 v82).bind fun n83 =>
g24_j87 u0 w11 ((n83 : Int) == 3) w78))
else
((World.cell? (World.drew (World.alloc w11 (.cells #[.int .i64 0, .int .i64 0, .int .i64 0, .int .u64 0, .int .i64 0, .slice none 0 0, .bool false] 30))) (⟨r1.2.heap.size, 0, none⟩)).bind fun v72 =>
(asI .i64 v72).bind fun n73 =>
g24_j81 w11 u0 ((n73 : Int) == 3)))))

theorem g24_eq (u0 : Option Addr) (u1c0 : Int) (u1c1 : Int) (u1c2 : Int) (u1c3 : Int) (u1c4 : Int) (u1c5 : Int) (u1c6 : Bool) (u1c7 : Bool) (u1c8 : Int) (u1c9 : Int) (u1c10 : Int) (u1c11 : Int) (u1c12 : Int) (u1c13 : Option Addr × Nat × Nat) (u1c14 : Bool) (u2 : Int) (w0 : World) : evFn Try.prog 24 g24_ann #[.pointer u0, .agg #[.int .i64 u1c0, .int .i64 u1c1, .int .i64 u1c2, .int .i64 u1c3, .int .i64 u1c4, .int .u64 u1c5, .bool u1c6, .bool u1c7, .int .i64 u1c8, .int .i64 u1c9, .int .i64 u1c10, .int .u64 u1c11, .int .i64 u1c12, .slice u1c13.1 u1c13.2.1 u1c13.2.2, .bool u1c14], .int .u64 u2] w0 = g24 u0 u1c0 u1c1 u1c2 u1c3 u1c4 u1c5 u1c6 u1c7 u1c8 u1c9 u1c10 u1c11 u1c12 u1c13 u1c14 u2 w0 := by kernel_rfl

theorem g24_call {u0 : Option Addr} {u1c0 : Int} {u1c1 : Int} {u1c2 : Int} {u1c3 : Int} {u1c4 : Int} {u1c5 : Int} {u1c6 : Bool} {u1c7 : Bool} {u1c8 : Int} {u1c9 : Int} {u1c10 : Int} {u1c11 : Int} {u1c12 : Int} {u1c13 : Option Addr × Nat × Nat} {u1c14 : Bool} {u2 : Int} {w0 : World} {r : Value × World} (h : g24 u0 u1c0 u1c1 u1c2 u1c3 u1c4 u1c5 u1c6 u1c7 u1c8 u1c9 u1c10 u1c11 u1c12 u1c13 u1c14 u2 w0 = some r) : callF Try.prog 24 #[.pointer u0, .agg #[.int .i64 u1c0, .int .i64 u1c1, .int .i64 u1c2, .int .i64 u1c3, .int .i64 u1c4, .int .u64 u1c5, .bool u1c6, .bool u1c7, .int .i64 u1c8, .int .i64 u1c9, .int .i64 u1c10, .int .u64 u1c11, .int .i64 u1c12, .slice u1c13.1 u1c13.2.1 u1c13.2.2, .bool u1c14], .int .u64 u2] w0 = some r :=
  callF_of_evFn (ann := g24_ann) Try.call24 (by kernel_rfl) ((g24_eq u0 u1c0 u1c1 u1c2 u1c3 u1c4 u1c5 u1c6 u1c7 u1c8 u1c9 u1c10 u1c11 u1c12 u1c13 u1c14 u2 w0).trans h)

end Go.Proofs.Ytlcojbodcbjkaaa
