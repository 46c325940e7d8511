/-
  ImageL10: lemmas on what Go functions of this seat come to (for whatever arguments, as each says). No condition but those that stand in each lemma.
-/
import Derived.Test.YtjcenfgmpbeldaaImageV3
namespace Go.Proofs.Ytjcenfgmpbeldaa
open Go Go.Ev
set_option maxRecDepth 100000
set_option linter.unusedVariables false
/-! 10: penstock/penstocklaw13.ImageBack (l: []api.Cmd, more: []api.Cmd) -/
def g10_ann : List (List Nat × List Nat) := [([0, 1, 0, 1, 1, 1, 1, 1, 1, 1], [5, 10, 72, 73, 4, 74])]

def g10_l28_cs (p4 : Option Addr) (p17 : Option Addr) (u1 : Option Addr × Nat × Nat) : List (Nat × Value) := ([(5, .pointer p4), (10, .pointer p17), (72, .slice u1.1 u1.2.1 u1.2.2), (73, .int .i64 (u1.2.1 : Int))] : List (Nat × Value))

noncomputable def g10_j93 (s29 : Bool × Int) (p4 : Option Addr) (p17 : Option Addr) (w30 : World) (u1 : Option Addr × Nat × Nat) (a31 : Addr) (n33 : Int) (n34 : Int) (n35 : Int) (n36 : Int) (n37 : Int) (q38 : Option Addr × Nat × Nat) (n42 : Int) (n43 : Int) (n44 : Int) (n45 : Int) (n46 : Int) (q47 : Option Addr × Nat × Nat) (w39 : World) (x109 : Int) (x110 : Int) (x111 : Int) (x112 : Int) (x113 : Int) (x114 : Int) (x115 : Option Addr × Nat × Nat) (w116 : World) : Option (Exit × (Bool × Int) × World) :=
(callF Try.prog 14 #[.agg #[.int .i64 x110, .int .i64 x111, .int .i64 x112, .int .i64 x113, .int .i64 x114, .slice x115.1 x115.2.1 x115.2.2]] w116).bind fun r117 =>
(Ev.asAgg 6 r117.1).bind fun l118 =>
(asI .i64 (l118.getD 0 undef)).bind fun n119 =>
(asI .i64 (l118.getD 1 undef)).bind fun n120 =>
(asI .i64 (l118.getD 2 undef)).bind fun n121 =>
(asI .i64 (l118.getD 3 undef)).bind fun n122 =>
(asI .i64 (l118.getD 4 undef)).bind fun n123 =>
(asSl (l118.getD 5 undef)).bind fun q124 =>
(callF Try.prog 13 #[.pointer p17, .agg #[.int .i64 n119, .int .i64 n120, .int .i64 n121, .int .i64 n122, .int .i64 n123, .slice q124.1 q124.2.1 q124.2.2]] r117.2).bind fun r126 =>
(asI .i64 r126.1).bind fun n127 =>
if ((x109 : Int) != n127) = true then
(some (.ret, (false, s29.2), r126.2))
else
(some (.normal, (s29.1, (IntKind.i64.wrap (s29.2 + 1))), r126.2))

noncomputable def g10_j77 (p4 : Option Addr) (s29 : Bool × Int) (p17 : Option Addr) (w30 : World) (u1 : Option Addr × Nat × Nat) (a31 : Addr) (n33 : Int) (n34 : Int) (n35 : Int) (n36 : Int) (n37 : Int) (q38 : Option Addr × Nat × Nat) (n42 : Int) (n43 : Int) (n44 : Int) (n45 : Int) (n46 : Int) (q47 : Option Addr × Nat × Nat) (w39 : World) (x94 : Int) (x95 : Int) (x96 : Int) (x97 : Int) (x98 : Int) (x99 : Option Addr × Nat × Nat) (x100 : Int) (x101 : Int) (x102 : Int) (x103 : Int) (x104 : Int) (x105 : Option Addr × Nat × Nat) (w106 : World) : Option (Exit × (Bool × Int) × World) :=
(callF Try.prog 13 #[.pointer p4, .agg #[.int .i64 x94, .int .i64 x95, .int .i64 x96, .int .i64 x97, .int .i64 x98, .slice x99.1 x99.2.1 x99.2.2]] w106).bind fun r107 =>
(asI .i64 r107.1).bind fun n108 =>
g10_j93 s29 p4 p17 w30 u1 a31 n33 n34 n35 n36 n37 q38 n42 n43 n44 n45 n46 q47 w39 n108 x100 x101 x102 x103 x104 (x105.1, x105.2.1, x105.2.2) r107.2

/-- the round of a loop (penstock/penstocklaw13.ImageBack) -/
noncomputable def g10_l28_b (u1 : Option Addr × Nat × Nat) (p4 : Option Addr) (p17 : Option Addr) (s29 : Bool × Int) (w30 : World) : Option (Exit × (Bool × Int) × World) :=
if (decide ((s29.2 : Int) < (u1.2.1 : Int))) = true then
((idxA u1.1 u1.2.1 6 s29.2).bind fun a31 =>
(ldN w30 a31 0 6).bind fun l32 =>
(asI .i64 (l32.getD 0 undef)).bind fun n33 =>
(asI .i64 (l32.getD 1 undef)).bind fun n34 =>
(asI .i64 (l32.getD 2 undef)).bind fun n35 =>
(asI .i64 (l32.getD 3 undef)).bind fun n36 =>
(asI .i64 (l32.getD 4 undef)).bind fun n37 =>
(asSl (l32.getD 5 undef)).bind fun q38 =>
(stL (World.alloc w30 (.cells #[.int .i64 0, .int .i64 0, .int .i64 0, .int .i64 0, .int .i64 0, .slice none 0 0] 33)) (⟨w30.heap.size, 0, none⟩) [.int .i64 n33, .int .i64 n34, .int .i64 n35, .int .i64 n36, .int .i64 n37, .slice q38.1 q38.2.1 q38.2.2] 0).bind fun w39 =>
(ldN (World.drew w39) (⟨w30.heap.size, 0, none⟩) 0 6).bind fun l41 =>
(asI .i64 (l41.getD 0 undef)).bind fun n42 =>
(asI .i64 (l41.getD 1 undef)).bind fun n43 =>
(asI .i64 (l41.getD 2 undef)).bind fun n44 =>
(asI .i64 (l41.getD 3 undef)).bind fun n45 =>
(asI .i64 (l41.getD 4 undef)).bind fun n46 =>
(asSl (l41.getD 5 undef)).bind fun q47 =>
if (ahd (Region.schedule true (opsOf (cAt [1, 1, 1, 1, 1, 1, 1, 0, 1, 0, 0, 1, 1, 0, 0, 1, 0] (bodyOf Try.f10))) (World.tape w39 (World.drawn w39) (.order 10 12))) 2 5 && true) = true then
((callF Try.prog 14 #[.agg #[.int .i64 n42, .int .i64 n43, .int .i64 n44, .int .i64 n45, .int .i64 n46, .slice q47.1 q47.2.1 q47.2.2]] (World.drew w39)).bind fun r50 =>
(Ev.asAgg 6 r50.1).bind fun l51 =>
(asI .i64 (l51.getD 0 undef)).bind fun n52 =>
(asI .i64 (l51.getD 1 undef)).bind fun n53 =>
(asI .i64 (l51.getD 2 undef)).bind fun n54 =>
(asI .i64 (l51.getD 3 undef)).bind fun n55 =>
(asI .i64 (l51.getD 4 undef)).bind fun n56 =>
(asSl (l51.getD 5 undef)).bind fun q57 =>
if (ahd (Region.schedule true (opsOf (cAt [1, 1, 1, 1, 1, 1, 1, 0, 1, 0, 0, 1, 1, 0, 0, 1, 0] (bodyOf Try.f10))) (World.tape w39 (World.drawn w39) (.order 10 12))) 3 5 && true) = true then
((callF Try.prog 13 #[.pointer p4, .agg #[.int .i64 n52, .int .i64 n53, .int .i64 n54, .int .i64 n55, .int .i64 n56, .slice q57.1 q57.2.1 q57.2.2]] r50.2).bind fun r67 =>
(asI .i64 r67.1).bind fun n68 =>
(ldN r67.2 (⟨w30.heap.size, 0, none⟩) 0 6).bind fun l86 =>
(asI .i64 (l86.getD 0 undef)).bind fun n87 =>
(asI .i64 (l86.getD 1 undef)).bind fun n88 =>
(asI .i64 (l86.getD 2 undef)).bind fun n89 =>
(asI .i64 (l86.getD 3 undef)).bind fun n90 =>
(asI .i64 (l86.getD 4 undef)).bind fun n91 =>
(asSl (l86.getD 5 undef)).bind fun q92 =>
g10_j93 s29 p4 p17 w30 u1 a31 n33 n34 n35 n36 n37 q38 n42 n43 n44 n45 n46 q47 w39 n68 n87 n88 n89 n90 n91 (q92.1, q92.2.1, q92.2.2) r67.2)
else
((ldN r50.2 (⟨w30.heap.size, 0, none⟩) 0 6).bind fun l70 =>
(asI .i64 (l70.getD 0 undef)).bind fun n71 =>
(asI .i64 (l70.getD 1 undef)).bind fun n72 =>
(asI .i64 (l70.getD 2 undef)).bind fun n73 =>
(asI .i64 (l70.getD 3 undef)).bind fun n74 =>
(asI .i64 (l70.getD 4 undef)).bind fun n75 =>
(asSl (l70.getD 5 undef)).bind fun q76 =>
g10_j77 p4 s29 p17 w30 u1 a31 n33 n34 n35 n36 n37 q38 n42 n43 n44 n45 n46 q47 w39 n52 n53 n54 n55 n56 (q57.1, q57.2.1, q57.2.2) n71 n72 n73 n74 n75 (q76.1, q76.2.1, q76.2.2) r50.2))
else
((ldN (World.drew w39) (⟨w30.heap.size, 0, none⟩) 0 6).bind fun l59 =>
(asI .i64 (l59.getD 0 undef)).bind fun n60 =>
(asI .i64 (l59.getD 1 undef)).bind fun n61 =>
(asI .i64 (l59.getD 2 undef)).bind fun n62 =>
(asI .i64 (l59.getD 3 undef)).bind fun n63 =>
(asI .i64 (l59.getD 4 undef)).bind fun n64 =>
(asSl (l59.getD 5 undef)).bind fun q65 =>
(callF Try.prog 14 #[.agg #[.int .i64 n42, .int .i64 n43, .int .i64 n44, .int .i64 n45, .int .i64 n46, .slice q47.1 q47.2.1 q47.2.2]] (World.drew w39)).bind fun r78 =>
(Ev.asAgg 6 r78.1).bind fun l79 =>
(asI .i64 (l79.getD 0 undef)).bind fun n80 =>
(asI .i64 (l79.getD 1 undef)).bind fun n81 =>
(asI .i64 (l79.getD 2 undef)).bind fun n82 =>
(asI .i64 (l79.getD 3 undef)).bind fun n83 =>
(asI .i64 (l79.getD 4 undef)).bind fun n84 =>
(asSl (l79.getD 5 undef)).bind fun q85 =>
g10_j77 p4 s29 p17 w30 u1 a31 n33 n34 n35 n36 n37 q38 n42 n43 n44 n45 n46 q47 w39 n80 n81 n82 n83 n84 (q85.1, q85.2.1, q85.2.2) n60 n61 n62 n63 n64 (q65.1, q65.2.1, q65.2.2) r78.2))
else
(some ((.exit 0), (s29.1, s29.2), w30))

noncomputable def g10_K130  : Exit → Env → World → Option (Value × World) :=
  retK Try.prog Try.f10.results.toList

noncomputable def g10_K131  : Exit → Env → World → Option (Value × World) :=
  seqK (ev Try.prog 109 10 g10_ann (cAt [1, 1, 1, 1, 1, 1, 1, 1] (bodyOf Try.f10)) [1, 1, 1, 1, 1, 1, 1, 1] g10_K130) g10_K130

noncomputable def g10_K132  : Exit → Env → World → Option (Value × World) :=
  blkK 0 g10_K131

/-- the loop, from a state on -/
noncomputable def g10_l28 (p4 : Option Addr) (p17 : Option Addr) (u1 : Option Addr × Nat × Nat) (s : Bool × Int) (w : World) : Option (Value × World) :=
  loopM Try.prog 109 10 g10_ann (cAt [1, 1, 1, 1, 1, 1, 1, 0, 1, 0, 0] (bodyOf Try.f10)) [0, 1, 0, 1, 1, 1, 1, 1, 1, 1] g10_K132 ((g10_l28_cs p4 p17 u1) ++ sputs [(4, .b), (74, .i .i64)] s) w

/-- behind the loop, left by x0 -/
noncomputable def g10_l28_x0 (p4 : Option Addr) (p17 : Option Addr) (t133 : Bool × Int) (w134 : World) : Option (Value × World) :=
(callF Try.prog 24 #[.pointer p4] w134).bind fun r135 =>
(asTup 2 r135.1).bind fun l136 =>
(asSl (l136.getD 0 undef)).bind fun q137 =>
(asI .i64 (l136.getD 1 undef)).bind fun n138 =>
(callF Try.prog 24 #[.pointer p17] r135.2).bind fun r139 =>
(asTup 2 r139.1).bind fun l140 =>
(asSl (l140.getD 0 undef)).bind fun q141 =>
(asI .i64 (l140.getD 1 undef)).bind fun n142 =>
if ((n138 : Int) == 0) = true then
(if ((n142 : Int) == 0) = true then
((callF Try.prog 28 #[.slice q137.1 q137.2.1 q137.2.2, .slice q141.1 q141.2.1 q141.2.2] r139.2).bind fun r143 =>
(asB r143.1).bind fun b144 =>
some (.bool b144, r143.2))
else
(some (.bool false, r139.2)))
else
(some (.bool false, r139.2))

noncomputable def g10 (u0 : Option Addr × Nat × Nat) (u1 : Option Addr × Nat × Nat) (w0 : World) : Option (Value × World) :=
(callF Try.prog 12 #[] w0).bind fun r1 =>
(asB r1.1).bind fun b2 =>
if (!b2) = true then
(some (.bool false, r1.2))
else
((callF Try.prog 18 #[.slice u0.1 u0.2.1 u0.2.2] r1.2).bind fun r3 =>
(asP r3.1).bind fun p4 =>
(callF Try.prog 24 #[.pointer p4] r3.2).bind fun r5 =>
(asTup 2 r5.1).bind fun l6 =>
(asSl (l6.getD 0 undef)).bind fun q7 =>
(asI .i64 (l6.getD 1 undef)).bind fun n8 =>
(callF Try.prog 31 #[.slice q7.1 q7.2.1 q7.2.2] r5.2).bind fun r9 =>
(asTup 2 r9.1).bind fun l10 =>
(asP (l10.getD 0 undef)).bind fun p11 =>
(asI .i64 (l10.getD 1 undef)).bind fun n12 =>
(callB Try.prog .append #[43, 43] 43 #[false, false] #[.slice (some (⟨r9.2.heap.size, 0, none⟩)) 0 0, .slice q7.1 q7.2.1 q7.2.2] (World.alloc r9.2 (.cells #[] 5))).bind fun r13 =>
(asSl r13.1).bind fun q14 =>
(callF Try.prog 32 #[.slice q14.1 q14.2.1 q14.2.2] r13.2).bind fun r15 =>
(asTup 2 r15.1).bind fun l16 =>
(asP (l16.getD 0 undef)).bind fun p17 =>
(asI .i64 (l16.getD 1 undef)).bind fun n18 =>
if ((n8 : Int) != 0) = true then
(some (.bool false, r15.2))
else
(if ((n12 : Int) != 0) = true then
(some (.bool false, r15.2))
else
(if ((n18 : Int) != 0) = true then
(some (.bool false, r15.2))
else
(if (p17.isNone) = true then
(some (.bool false, r15.2))
else
((callF Try.prog 22 #[.pointer p4, .pointer p11] r15.2).bind fun r19 =>
(asB r19.1).bind fun b20 =>
if (!b20) = true then
(some (.bool false, r19.2))
else
((callF Try.prog 22 #[.pointer p17, .pointer p11] r19.2).bind fun r21 =>
(asB r21.1).bind fun b22 =>
if (!b22) = true then
(some (.bool false, r21.2))
else
((callF Try.prog 33 #[.pointer p11] r21.2).bind fun r23 =>
(asSl r23.1).bind fun q24 =>
(callF Try.prog 28 #[.slice q7.1 q7.2.1 q7.2.2, .slice q24.1 q24.2.1 q24.2.2] r23.2).bind fun r25 =>
(asB r25.1).bind fun b26 =>
if (!b26) = true then
(some (.bool false, r25.2))
else
(g10_l28 p4 p17 u1 (false, 0) r25.2))))))))

theorem g10_eq (u0 : Option Addr × Nat × Nat) (u1 : Option Addr × Nat × Nat) (w0 : World) : evFn Try.prog 10 g10_ann #[.slice u0.1 u0.2.1 u0.2.2, .slice u1.1 u1.2.1 u1.2.2] w0 = g10 u0 u1 w0 := by kernel_rfl

theorem g10_call {u0 : Option Addr × Nat × Nat} {u1 : Option Addr × Nat × Nat} {w0 : World} {r : Value × World} (h : g10 u0 u1 w0 = some r) : callF Try.prog 10 #[.slice u0.1 u0.2.1 u0.2.2, .slice u1.1 u1.2.1 u1.2.2] w0 = some r :=
  callF_of_evFn (ann := g10_ann) Try.call10 (by kernel_rfl) ((g10_eq u0 u1 w0).trans h)

theorem g10_l28_x0_of {p4 : Option Addr} {p17 : Option Addr} {u1 : Option Addr × Nat × Nat} {s t : Bool × Int} {w w' : World} (h : loopS (g10_l28_b u1 p4 p17) s w = some (.exit 0, t, w')) : g10_l28 p4 p17 u1 s w = g10_l28_x0 p4 p17 t w' := by
  have h1 : g10_l28 p4 p17 u1 s w = loopM Try.prog 109 10 g10_ann (cAt [1, 1, 1, 1, 1, 1, 1, 0, 1, 0, 0] (bodyOf Try.f10)) [0, 1, 0, 1, 1, 1, 1, 1, 1, 1] g10_K132 ((g10_l28_cs p4 p17 u1) ++ sputs [(4, .b), (74, .i .i64)] s) w := by kernel_rfl
  have h2 : loopM Try.prog 109 10 g10_ann (cAt [1, 1, 1, 1, 1, 1, 1, 0, 1, 0, 0] (bodyOf Try.f10)) [0, 1, 0, 1, 1, 1, 1, 1, 1, 1] g10_K132 ((g10_l28_cs p4 p17 u1) ++ sputs [(4, .b), (74, .i .i64)] s) w = g10_K132 (.exit 0) (puts 109 ((g10_l28_cs p4 p17 u1) ++ sputs [(4, .b), (74, .i .i64)] t)) w' :=
    loop_rule (P := Try.prog) (N := 109) (f := 10) (ann := g10_ann) (body := (cAt [1, 1, 1, 1, 1, 1, 1, 0, 1, 0, 0] (bodyOf Try.f10))) (pt := [0, 1, 0, 1, 1, 1, 1, 1, 1, 1]) (K := g10_K132) (g10_l28_cs p4 p17 u1) [(4, .b), (74, .i .i64)] (b := g10_l28_b u1 p4 p17) (fun s w => by kernel_rfl) (by kernel_rfl) (by kernel_rfl) (by kernel_rfl) h
  have h3 : g10_K132 (.exit 0) (puts 109 ((g10_l28_cs p4 p17 u1) ++ sputs [(4, .b), (74, .i .i64)] t)) w' = g10_l28_x0 p4 p17 t w' := by kernel_rfl
  exact h1.trans (h2.trans h3)

end Go.Proofs.Ytjcenfgmpbeldaa
