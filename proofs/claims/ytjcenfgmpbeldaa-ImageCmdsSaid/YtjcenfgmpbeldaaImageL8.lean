/-
  ImageL8: lemmas on what Go functions of this seat come to (for whatever arguments, as each says). No condition but those that stand in each lemma.
-/
import Derived.Test.YtjcenfgmpbeldaaImageF0
import Derived.Test.YtjcenfgmpbeldaaImageV
namespace Go.Proofs.Ytjcenfgmpbeldaa
open Go Go.Ev
set_option maxRecDepth 100000
set_option linter.unusedVariables false
/-! 8: penstock/penstocklaw13.ImageCmds (c: api.Cmd, text: []uint8) -/
def g8_ann : List (List Nat × List Nat) := []

noncomputable def g8_j70 (u1 : Option Addr × Nat × Nat) (n21 : Int) (r12 : Value × World) (w98 : World) : Option (Value × World) :=
(callB Try.prog .append #[43, 43] 43 #[false, false] #[.slice (some (⟨w98.heap.size, 0, none⟩)) 0 0, .slice u1.1 u1.2.1 u1.2.2] (World.alloc w98 (.cells #[] 5))).bind fun r99 =>
(asSl r99.1).bind fun q100 =>
(callF Try.prog 30 #[.slice q100.1 q100.2.1 q100.2.2] r99.2).bind fun r101 =>
(asTup 2 r101.1).bind fun l102 =>
(Ev.asAgg 6 (l102.getD 0 undef)).bind fun l103 =>
(asI .i64 (l103.getD 0 undef)).bind fun n104 =>
(asI .i64 (l103.getD 1 undef)).bind fun n105 =>
(asI .i64 (l103.getD 2 undef)).bind fun n106 =>
(asI .i64 (l103.getD 3 undef)).bind fun n107 =>
(asI .i64 (l103.getD 4 undef)).bind fun n108 =>
(asSl (l103.getD 5 undef)).bind fun q109 =>
(asI .i64 (l102.getD 1 undef)).bind fun n110 =>
(stL (World.alloc r101.2 (.cells #[.int .i64 0, .int .i64 0, .int .i64 0, .int .i64 0, .int .i64 0, .slice none 0 0] 33)) (⟨r101.2.heap.size, 0, none⟩) [.int .i64 n104, .int .i64 n105, .int .i64 n106, .int .i64 n107, .int .i64 n108, .slice q109.1 q109.2.1 q109.2.2] 0).bind fun w111 =>
if ((n110 : Int) == n21) = true then
((ldN w111 (⟨r101.2.heap.size, 0, none⟩) 0 6).bind fun l112 =>
(asI .i64 (l112.getD 0 undef)).bind fun n113 =>
(asI .i64 (l112.getD 1 undef)).bind fun n114 =>
(asI .i64 (l112.getD 2 undef)).bind fun n115 =>
(asI .i64 (l112.getD 3 undef)).bind fun n116 =>
(asI .i64 (l112.getD 4 undef)).bind fun n117 =>
(asSl (l112.getD 5 undef)).bind fun q118 =>
(ldN w111 (⟨r12.2.heap.size, 0, none⟩) 0 6).bind fun l119 =>
(asI .i64 (l119.getD 0 undef)).bind fun n120 =>
(asI .i64 (l119.getD 1 undef)).bind fun n121 =>
(asI .i64 (l119.getD 2 undef)).bind fun n122 =>
(asI .i64 (l119.getD 3 undef)).bind fun n123 =>
(asI .i64 (l119.getD 4 undef)).bind fun n124 =>
(asSl (l119.getD 5 undef)).bind fun q125 =>
(callF Try.prog 29 #[.agg #[.int .i64 n113, .int .i64 n114, .int .i64 n115, .int .i64 n116, .int .i64 n117, .slice q118.1 q118.2.1 q118.2.2], .agg #[.int .i64 n120, .int .i64 n121, .int .i64 n122, .int .i64 n123, .int .i64 n124, .slice q125.1 q125.2.1 q125.2.2]] w111).bind fun r126 =>
(asB r126.1).bind fun b127 =>
if b127 = true then
((callF Try.prog 28 #[.slice q100.1 q100.2.1 q100.2.2, .slice u1.1 u1.2.1 u1.2.2] r126.2).bind fun r128 =>
(asB r128.1).bind fun b129 =>
some (.bool b129, r128.2))
else
(some (.bool false, r126.2)))
else
(some (.bool false, w111))

noncomputable def g8 (u0c0 : Int) (u0c1 : Int) (u0c2 : Int) (u0c3 : Int) (u0c4 : Int) (u0c5 : Option Addr × Nat × Nat) (u1 : Option Addr × Nat × Nat) (w0 : World) : Option (Value × World) :=
(ldN (World.alloc w0 (.cells #[.int .i64 u0c0, .int .i64 u0c1, .int .i64 u0c2, .int .i64 u0c3, .int .i64 u0c4, .slice u0c5.1 u0c5.2.1 u0c5.2.2] 33)) (⟨w0.heap.size, 0, none⟩) 0 6).bind fun l1 =>
(asI .i64 (l1.getD 0 undef)).bind fun n2 =>
(asI .i64 (l1.getD 1 undef)).bind fun n3 =>
(asI .i64 (l1.getD 2 undef)).bind fun n4 =>
(asI .i64 (l1.getD 3 undef)).bind fun n5 =>
(asI .i64 (l1.getD 4 undef)).bind fun n6 =>
(asSl (l1.getD 5 undef)).bind fun q7 =>
(callF Try.prog 25 #[.agg #[.int .i64 n2, .int .i64 n3, .int .i64 n4, .int .i64 n5, .int .i64 n6, .slice q7.1 q7.2.1 q7.2.2]] (World.alloc w0 (.cells #[.int .i64 u0c0, .int .i64 u0c1, .int .i64 u0c2, .int .i64 u0c3, .int .i64 u0c4, .slice u0c5.1 u0c5.2.1 u0c5.2.2] 33))).bind fun r8 =>
(asTup 2 r8.1).bind fun l9 =>
(asSl (l9.getD 0 undef)).bind fun q10 =>
(asI .i64 (l9.getD 1 undef)).bind fun n11 =>
(callF Try.prog 26 #[.slice u1.1 u1.2.1 u1.2.2] r8.2).bind fun r12 =>
(asTup 2 r12.1).bind fun l13 =>
(Ev.asAgg 6 (l13.getD 0 undef)).bind fun l14 =>
(asI .i64 (l14.getD 0 undef)).bind fun n15 =>
(asI .i64 (l14.getD 1 undef)).bind fun n16 =>
(asI .i64 (l14.getD 2 undef)).bind fun n17 =>
(asI .i64 (l14.getD 3 undef)).bind fun n18 =>
(asI .i64 (l14.getD 4 undef)).bind fun n19 =>
(asSl (l14.getD 5 undef)).bind fun q20 =>
(asI .i64 (l13.getD 1 undef)).bind fun n21 =>
(stL (World.alloc r12.2 (.cells #[.int .i64 0, .int .i64 0, .int .i64 0, .int .i64 0, .int .i64 0, .slice none 0 0] 33)) (⟨r12.2.heap.size, 0, none⟩) [.int .i64 n15, .int .i64 n16, .int .i64 n17, .int .i64 n18, .int .i64 n19, .slice q20.1 q20.2.1 q20.2.2] 0).bind fun w22 =>
(callF Try.prog 12 #[] w22).bind fun r23 =>
(asB r23.1).bind fun b24 =>
if (!b24) = true then
(some (.bool false, r23.2))
else
((ldN r23.2 (⟨w0.heap.size, 0, none⟩) 0 6).bind fun l25 =>
(asI .i64 (l25.getD 0 undef)).bind fun n26 =>
(asI .i64 (l25.getD 1 undef)).bind fun n27 =>
(asI .i64 (l25.getD 2 undef)).bind fun n28 =>
(asI .i64 (l25.getD 3 undef)).bind fun n29 =>
(asI .i64 (l25.getD 4 undef)).bind fun n30 =>
(asSl (l25.getD 5 undef)).bind fun q31 =>
(callF Try.prog 14 #[.agg #[.int .i64 n26, .int .i64 n27, .int .i64 n28, .int .i64 n29, .int .i64 n30, .slice q31.1 q31.2.1 q31.2.2]] r23.2).bind fun r32 =>
(Ev.asAgg 6 r32.1).bind fun l33 =>
(asI .i64 (l33.getD 0 undef)).bind fun n34 =>
(asI .i64 (l33.getD 1 undef)).bind fun n35 =>
(asI .i64 (l33.getD 2 undef)).bind fun n36 =>
(asI .i64 (l33.getD 3 undef)).bind fun n37 =>
(asI .i64 (l33.getD 4 undef)).bind fun n38 =>
(asSl (l33.getD 5 undef)).bind fun q39 =>
(stL (World.alloc r32.2 (.cells #[.int .i64 0, .int .i64 0, .int .i64 0, .int .i64 0, .int .i64 0, .slice none 0 0] 33)) (⟨r32.2.heap.size, 0, none⟩) [.int .i64 n34, .int .i64 n35, .int .i64 n36, .int .i64 n37, .int .i64 n38, .slice q39.1 q39.2.1 q39.2.2] 0).bind fun w40 =>
(ldN w40 (⟨r32.2.heap.size, 0, none⟩) 0 6).bind fun l41 =>
(asI .i64 (l41.getD 0 undef)).bind fun n42 =>
(asI .i64 (l41.getD 1 undef)).bind fun n43 =>
(asI .i64 (l41.getD 2 undef)).bind fun n44 =>
(asI .i64 (l41.getD 3 undef)).bind fun n45 =>
(asI .i64 (l41.getD 4 undef)).bind fun n46 =>
(asSl (l41.getD 5 undef)).bind fun q47 =>
(callF Try.prog 27 #[.agg #[.int .i64 n42, .int .i64 n43, .int .i64 n44, .int .i64 n45, .int .i64 n46, .slice q47.1 q47.2.1 q47.2.2]] w40).bind fun r48 =>
(asTup 2 r48.1).bind fun l49 =>
(asSl (l49.getD 0 undef)).bind fun q50 =>
(asI .i64 (l49.getD 1 undef)).bind fun n51 =>
if ((n51 : Int) != n11) = true then
(some (.bool false, r48.2))
else
((callF Try.prog 28 #[.slice q50.1 q50.2.1 q50.2.2, .slice q10.1 q10.2.1 q10.2.2] r48.2).bind fun r52 =>
(asB r52.1).bind fun b53 =>
if (!b53) = true then
(some (.bool false, r52.2))
else
((ldN r52.2 (⟨r32.2.heap.size, 0, none⟩) 0 6).bind fun l54 =>
(asI .i64 (l54.getD 0 undef)).bind fun n55 =>
(asI .i64 (l54.getD 1 undef)).bind fun n56 =>
(asI .i64 (l54.getD 2 undef)).bind fun n57 =>
(asI .i64 (l54.getD 3 undef)).bind fun n58 =>
(asI .i64 (l54.getD 4 undef)).bind fun n59 =>
(asSl (l54.getD 5 undef)).bind fun q60 =>
(ldN r52.2 (⟨w0.heap.size, 0, none⟩) 0 6).bind fun l61 =>
(asI .i64 (l61.getD 0 undef)).bind fun n62 =>
(asI .i64 (l61.getD 1 undef)).bind fun n63 =>
(asI .i64 (l61.getD 2 undef)).bind fun n64 =>
(asI .i64 (l61.getD 3 undef)).bind fun n65 =>
(asI .i64 (l61.getD 4 undef)).bind fun n66 =>
(asSl (l61.getD 5 undef)).bind fun q67 =>
(callF Try.prog 29 #[.agg #[.int .i64 n55, .int .i64 n56, .int .i64 n57, .int .i64 n58, .int .i64 n59, .slice q60.1 q60.2.1 q60.2.2], .agg #[.int .i64 n62, .int .i64 n63, .int .i64 n64, .int .i64 n65, .int .i64 n66, .slice q67.1 q67.2.1 q67.2.2]] r52.2).bind fun r68 =>
(asB r68.1).bind fun b69 =>
if (!b69) = true then
(some (.bool false, r68.2))
else
(if ((n51 : Int) == 0) = true then
((callF Try.prog 30 #[.slice q50.1 q50.2.1 q50.2.2] r68.2).bind fun r71 =>
(asTup 2 r71.1).bind fun l72 =>
(Ev.asAgg 6 (l72.getD 0 undef)).bind fun l73 =>
(asI .i64 (l73.getD 0 undef)).bind fun n74 =>
(asI .i64 (l73.getD 1 undef)).bind fun n75 =>
(asI .i64 (l73.getD 2 undef)).bind fun n76 =>
(asI .i64 (l73.getD 3 undef)).bind fun n77 =>
(asI .i64 (l73.getD 4 undef)).bind fun n78 =>
(asSl (l73.getD 5 undef)).bind fun q79 =>
(asI .i64 (l72.getD 1 undef)).bind fun n80 =>
(stL (World.alloc r71.2 (.cells #[.int .i64 0, .int .i64 0, .int .i64 0, .int .i64 0, .int .i64 0, .slice none 0 0] 33)) (⟨r71.2.heap.size, 0, none⟩) [.int .i64 n74, .int .i64 n75, .int .i64 n76, .int .i64 n77, .int .i64 n78, .slice q79.1 q79.2.1 q79.2.2] 0).bind fun w81 =>
if ((n80 : Int) != 0) = true then
(some (.bool false, w81))
else
((ldN w81 (⟨r71.2.heap.size, 0, none⟩) 0 6).bind fun l82 =>
(asI .i64 (l82.getD 0 undef)).bind fun n83 =>
(asI .i64 (l82.getD 1 undef)).bind fun n84 =>
(asI .i64 (l82.getD 2 undef)).bind fun n85 =>
(asI .i64 (l82.getD 3 undef)).bind fun n86 =>
(asI .i64 (l82.getD 4 undef)).bind fun n87 =>
(asSl (l82.getD 5 undef)).bind fun q88 =>
(ldN w81 (⟨w0.heap.size, 0, none⟩) 0 6).bind fun l89 =>
(asI .i64 (l89.getD 0 undef)).bind fun n90 =>
(asI .i64 (l89.getD 1 undef)).bind fun n91 =>
(asI .i64 (l89.getD 2 undef)).bind fun n92 =>
(asI .i64 (l89.getD 3 undef)).bind fun n93 =>
(asI .i64 (l89.getD 4 undef)).bind fun n94 =>
(asSl (l89.getD 5 undef)).bind fun q95 =>
(callF Try.prog 29 #[.agg #[.int .i64 n83, .int .i64 n84, .int .i64 n85, .int .i64 n86, .int .i64 n87, .slice q88.1 q88.2.1 q88.2.2], .agg #[.int .i64 n90, .int .i64 n91, .int .i64 n92, .int .i64 n93, .int .i64 n94, .slice q95.1 q95.2.1 q95.2.2]] w81).bind fun r96 =>
(asB r96.1).bind fun b97 =>
if (!b97) = true then
(some (.bool false, r96.2))
else
(g8_j70 u1 n21 r12 r96.2)))
else
(g8_j70 u1 n21 r12 r68.2)))))

theorem g8_eq (u0c0 : Int) (u0c1 : Int) (u0c2 : Int) (u0c3 : Int) (u0c4 : Int) (u0c5 : Option Addr × Nat × Nat) (u1 : Option Addr × Nat × Nat) (w0 : World) : evFn Try.prog 8 g8_ann #[.agg #[.int .i64 u0c0, .int .i64 u0c1, .int .i64 u0c2, .int .i64 u0c3, .int .i64 u0c4, .slice u0c5.1 u0c5.2.1 u0c5.2.2], .slice u1.1 u1.2.1 u1.2.2] w0 = g8 u0c0 u0c1 u0c2 u0c3 u0c4 u0c5 u1 w0 := by kernel_rfl

theorem g8_call {u0c0 : Int} {u0c1 : Int} {u0c2 : Int} {u0c3 : Int} {u0c4 : Int} {u0c5 : Option Addr × Nat × Nat} {u1 : Option Addr × Nat × Nat} {w0 : World} {r : Value × World} (h : g8 u0c0 u0c1 u0c2 u0c3 u0c4 u0c5 u1 w0 = some r) : callF Try.prog 8 #[.agg #[.int .i64 u0c0, .int .i64 u0c1, .int .i64 u0c2, .int .i64 u0c3, .int .i64 u0c4, .slice u0c5.1 u0c5.2.1 u0c5.2.2], .slice u1.1 u1.2.1 u1.2.2] w0 = some r :=
  callF_of_evFn (ann := g8_ann) Try.call8 (by kernel_rfl) ((g8_eq u0c0 u0c1 u0c2 u0c3 u0c4 u0c5 u1 w0).trans h)

end Go.Proofs.Ytjcenfgmpbeldaa
