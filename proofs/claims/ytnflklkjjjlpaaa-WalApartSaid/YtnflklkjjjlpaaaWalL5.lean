/-
  WalL5: lemmas on what Go functions of this seat come to (for whatever arguments, as each says). No condition but those that stand in each lemma.
-/
import Derived.Test.YtnflklkjjjlpaaaWalF0
namespace Go.Proofs.Ytnflklkjjjlpaaa
open Go Go.Ev
set_option maxRecDepth 100000
set_option linter.unusedVariables false
/-! 5: penstock/penstocklaw06.WalApart (a: [][]uint8, b: [][]uint8) -/
def g5_ann : List (List Nat × List Nat) := [([0, 1, 0, 1, 1, 1, 1, 1], [0, 1, 5, 6, 9, 4, 12])]

def g5_l37_cs (u0 : Option Addr × Nat × Nat) (u1 : Option Addr × Nat × Nat) (p2 : Option Addr) (p5 : Option Addr) (p10 : Option Addr) : List (Nat × Value) := ([(0, .slice u0.1 u0.2.1 u0.2.2), (1, .slice u1.1 u1.2.1 u1.2.2), (5, .pointer p2), (6, .pointer p5), (9, .pointer p10)] : List (Nat × Value))

/-- the round of a loop (penstock/penstocklaw06.WalApart) -/
noncomputable def g5_l37_b (u0 : Option Addr × Nat × Nat) (p5 : Option Addr) (u1 : Option Addr × Nat × Nat) (p10 : Option Addr) (p2 : Option Addr) (s38 : Bool × Int) (w39 : World) : Option (Exit × (Bool × Int) × World) :=
if (decide ((s38.2 : Int) < (u0.2.1 : Int))) = true then
(if (decide ((s38.2 : Int) < (u0.2.1 : Int))) = true then
((idxA u0.1 u0.2.1 1 s38.2).bind fun a42 =>
(World.cell? w39 a42).bind fun v43 =>
(asSl v43).bind fun q44 =>
(callF Try.prog 14 #[.pointer p5, .slice q44.1 q44.2.1 q44.2.2] w39).bind fun r45 =>
(asI .i64 r45.1).bind fun n46 =>
if ((n46 : Int) != 0) = true then
(some (.ret, (false, s38.2), r45.2))
else
(if (decide ((s38.2 : Int) < (u1.2.1 : Int))) = true then
((idxA u1.1 u1.2.1 1 s38.2).bind fun a48 =>
(World.cell? r45.2 a48).bind fun v49 =>
(asSl v49).bind fun q50 =>
(callF Try.prog 14 #[.pointer p10, .slice q50.1 q50.2.1 q50.2.2] r45.2).bind fun r51 =>
(asI .i64 r51.1).bind fun n52 =>
if ((n52 : Int) != 0) = true then
(some (.ret, (false, s38.2), r51.2))
else
(some (.normal, (s38.1, (IntKind.i64.wrap (s38.2 + 1))), r51.2)))
else
(some (.normal, (s38.1, (IntKind.i64.wrap (s38.2 + 1))), r45.2))))
else
(if (decide ((s38.2 : Int) < (u1.2.1 : Int))) = true then
((idxA u1.1 u1.2.1 1 s38.2).bind fun a54 =>
(World.cell? w39 a54).bind fun v55 =>
(asSl v55).bind fun q56 =>
(callF Try.prog 14 #[.pointer p10, .slice q56.1 q56.2.1 q56.2.2] w39).bind fun r57 =>
(asI .i64 r57.1).bind fun n58 =>
if ((n58 : Int) != 0) = true then
(some (.ret, (false, s38.2), r57.2))
else
(some (.normal, (s38.1, (IntKind.i64.wrap (s38.2 + 1))), r57.2)))
else
(some (.normal, (s38.1, (IntKind.i64.wrap (s38.2 + 1))), w39))))
else
(if (decide ((s38.2 : Int) < (u1.2.1 : Int))) = true then
(if (decide ((s38.2 : Int) < (u0.2.1 : Int))) = true then
((idxA u0.1 u0.2.1 1 s38.2).bind fun a61 =>
(World.cell? w39 a61).bind fun v62 =>
(asSl v62).bind fun q63 =>
(callF Try.prog 14 #[.pointer p5, .slice q63.1 q63.2.1 q63.2.2] w39).bind fun r64 =>
(asI .i64 r64.1).bind fun n65 =>
if ((n65 : Int) != 0) = true then
(some (.ret, (false, s38.2), r64.2))
else
(if (decide ((s38.2 : Int) < (u1.2.1 : Int))) = true then
((idxA u1.1 u1.2.1 1 s38.2).bind fun a67 =>
(World.cell? r64.2 a67).bind fun v68 =>
(asSl v68).bind fun q69 =>
(callF Try.prog 14 #[.pointer p10, .slice q69.1 q69.2.1 q69.2.2] r64.2).bind fun r70 =>
(asI .i64 r70.1).bind fun n71 =>
if ((n71 : Int) != 0) = true then
(some (.ret, (false, s38.2), r70.2))
else
(some (.normal, (s38.1, (IntKind.i64.wrap (s38.2 + 1))), r70.2)))
else
(some (.normal, (s38.1, (IntKind.i64.wrap (s38.2 + 1))), r64.2))))
else
(if (decide ((s38.2 : Int) < (u1.2.1 : Int))) = true then
((idxA u1.1 u1.2.1 1 s38.2).bind fun a73 =>
(World.cell? w39 a73).bind fun v74 =>
(asSl v74).bind fun q75 =>
(callF Try.prog 14 #[.pointer p10, .slice q75.1 q75.2.1 q75.2.2] w39).bind fun r76 =>
(asI .i64 r76.1).bind fun n77 =>
if ((n77 : Int) != 0) = true then
(some (.ret, (false, s38.2), r76.2))
else
(some (.normal, (s38.1, (IntKind.i64.wrap (s38.2 + 1))), r76.2)))
else
(some (.normal, (s38.1, (IntKind.i64.wrap (s38.2 + 1))), w39))))
else
(some ((.exit 0), (s38.1, s38.2), w39)))

noncomputable def g5_K78  : Exit → Env → World → Option (Value × World) :=
  retK Try.prog Try.f5.results.toList

noncomputable def g5_K79  : Exit → Env → World → Option (Value × World) :=
  seqK (ev Try.prog 140 5 g5_ann (cAt [1, 1, 1, 1, 1, 1] (bodyOf Try.f5)) [1, 1, 1, 1, 1, 1] g5_K78) g5_K78

noncomputable def g5_K80  : Exit → Env → World → Option (Value × World) :=
  blkK 0 g5_K79

/-- the loop, from a state on -/
noncomputable def g5_l37 (u0 : Option Addr × Nat × Nat) (u1 : Option Addr × Nat × Nat) (p2 : Option Addr) (p5 : Option Addr) (p10 : Option Addr) (s : Bool × Int) (w : World) : Option (Value × World) :=
  loopM Try.prog 140 5 g5_ann (cAt [1, 1, 1, 1, 1, 0, 1, 0, 0] (bodyOf Try.f5)) [0, 1, 0, 1, 1, 1, 1, 1] g5_K80 ((g5_l37_cs u0 u1 p2 p5 p10) ++ sputs [(4, .b), (12, .i .i64)] s) w

/-- behind the loop, left by x0 -/
noncomputable def g5_l37_x0 (u0 : Option Addr × Nat × Nat) (p10 : Option Addr) (p2 : Option Addr) (t81 : Bool × Int) (w82 : World) : Option (Value × World) :=
(callF Try.prog 25 #[.slice u0.1 u0.2.1 u0.2.2] w82).bind fun r83 =>
(asSl r83.1).bind fun q84 =>
(callF Try.prog 24 #[.pointer p10, .slice q84.1 q84.2.1 q84.2.2] r83.2).bind fun r85 =>
(asI .i64 r85.1).bind fun n86 =>
if ((n86 : Int) != 0) = true then
(some (.bool false, r85.2))
else
((callF Try.prog 10 #[.pointer p2, .string (⟨#[118]⟩ : ByteArray)] r85.2).bind fun r87 =>
(asTup 3 r87.1).bind fun l88 =>
(asP (l88.getD 0 undef)).bind fun p89 =>
(asSl (l88.getD 1 undef)).bind fun q90 =>
(asI .i64 (l88.getD 2 undef)).bind fun n91 =>
(callF Try.prog 10 #[.pointer p2, .string (⟨#[119]⟩ : ByteArray)] r87.2).bind fun r92 =>
(asTup 3 r92.1).bind fun l93 =>
(asP (l93.getD 0 undef)).bind fun p94 =>
(asSl (l93.getD 1 undef)).bind fun q95 =>
(asI .i64 (l93.getD 2 undef)).bind fun n96 =>
if ((n91 : Int) == 0) = true then
(if ((n96 : Int) == 0) = true then
((callF Try.prog 17 #[.slice q90.1 q90.2.1 q90.2.2, .slice u0.1 u0.2.1 u0.2.2] r92.2).bind fun r97 =>
(asB r97.1).bind fun b98 =>
if b98 = true then
((callF Try.prog 17 #[.slice q95.1 q95.2.1 q95.2.2, .slice u0.1 u0.2.1 u0.2.2] r97.2).bind fun r99 =>
(asB r99.1).bind fun b100 =>
some (.bool b100, r99.2))
else
(some (.bool false, r97.2)))
else
(some (.bool false, r92.2)))
else
(some (.bool false, r92.2)))

/-- behind the loop, left by ret -/
noncomputable def g5_l37_ret  (t101 : Bool × Int) (w102 : World) : Option (Value × World) :=
some (.bool t101.1, w102)

noncomputable def g5 (u0 : Option Addr × Nat × Nat) (u1 : Option Addr × Nat × Nat) (w0 : World) : Option (Value × World) :=
(callF Try.prog 9 #[] w0).bind fun r1 =>
(asP r1.1).bind fun p2 =>
(callF Try.prog 10 #[.pointer p2, .string (⟨#[118]⟩ : ByteArray)] r1.2).bind fun r3 =>
(asTup 3 r3.1).bind fun l4 =>
(asP (l4.getD 0 undef)).bind fun p5 =>
(asSl (l4.getD 1 undef)).bind fun q6 =>
(asI .i64 (l4.getD 2 undef)).bind fun n7 =>
(callF Try.prog 10 #[.pointer p2, .string (⟨#[119]⟩ : ByteArray)] r3.2).bind fun r8 =>
(asTup 3 r8.1).bind fun l9 =>
(asP (l9.getD 0 undef)).bind fun p10 =>
(asSl (l9.getD 1 undef)).bind fun q11 =>
(asI .i64 (l9.getD 2 undef)).bind fun n12 =>
(callF Try.prog 11 #[] r8.2).bind fun r13 =>
(asB r13.1).bind fun b14 =>
if (!b14) = true then
((callF Try.prog 11 #[] r13.2).bind fun r15 =>
(asB r15.1).bind fun b16 =>
some (.bool b16, r15.2))
else
(if (p5.isNone) = true then
((callF Try.prog 11 #[] r13.2).bind fun r17 =>
(asB r17.1).bind fun b18 =>
some (.bool b18, r17.2))
else
(if (p10.isNone) = true then
((callF Try.prog 11 #[] r13.2).bind fun r19 =>
(asB r19.1).bind fun b20 =>
some (.bool b20, r19.2))
else
(if ((n7 : Int) != 0) = true then
((callF Try.prog 11 #[] r13.2).bind fun r21 =>
(asB r21.1).bind fun b22 =>
some (.bool b22, r21.2))
else
(if ((n12 : Int) != 0) = true then
((callF Try.prog 11 #[] r13.2).bind fun r23 =>
(asB r23.1).bind fun b24 =>
some (.bool b24, r23.2))
else
((callF Try.prog 12 #[.slice u0.1 u0.2.1 u0.2.2] r13.2).bind fun r25 =>
(asB r25.1).bind fun b26 =>
if b26 = true then
((callF Try.prog 11 #[] r25.2).bind fun r27 =>
(asB r27.1).bind fun b28 =>
some (.bool b28, r27.2))
else
((callF Try.prog 12 #[.slice u1.1 u1.2.1 u1.2.2] r25.2).bind fun r29 =>
(asB r29.1).bind fun b30 =>
if b30 = true then
((callF Try.prog 11 #[] r29.2).bind fun r31 =>
(asB r31.1).bind fun b32 =>
some (.bool b32, r31.2))
else
(if (decide (((IntKind.i64.wrap ((u0.2.1 : Int) + (u1.2.1 : Int))) : Int) > 100)) = true then
((callF Try.prog 11 #[] r29.2).bind fun r35 =>
(asB r35.1).bind fun b36 =>
some (.bool b36, r35.2))
else
(g5_l37 u0 u1 p2 p5 p10 (false, 0) r29.2))))))))

theorem g5_eq (u0 : Option Addr × Nat × Nat) (u1 : Option Addr × Nat × Nat) (w0 : World) : evFn Try.prog 5 g5_ann #[.slice u0.1 u0.2.1 u0.2.2, .slice u1.1 u1.2.1 u1.2.2] w0 = g5 u0 u1 w0 := by kernel_rfl

theorem g5_call {u0 : Option Addr × Nat × Nat} {u1 : Option Addr × Nat × Nat} {w0 : World} {r : Value × World} (h : g5 u0 u1 w0 = some r) : callF Try.prog 5 #[.slice u0.1 u0.2.1 u0.2.2, .slice u1.1 u1.2.1 u1.2.2] w0 = some r :=
  callF_of_evFn (ann := g5_ann) Try.call5 (by kernel_rfl) ((g5_eq u0 u1 w0).trans h)

theorem g5_l37_x0_of {u0 : Option Addr × Nat × Nat} {u1 : Option Addr × Nat × Nat} {p2 : Option Addr} {p5 : Option Addr} {p10 : Option Addr} {s t : Bool × Int} {w w' : World} (h : loopS (g5_l37_b u0 p5 u1 p10 p2) s w = some (.exit 0, t, w')) : g5_l37 u0 u1 p2 p5 p10 s w = g5_l37_x0 u0 p10 p2 t w' := by
  have h1 : g5_l37 u0 u1 p2 p5 p10 s w = loopM Try.prog 140 5 g5_ann (cAt [1, 1, 1, 1, 1, 0, 1, 0, 0] (bodyOf Try.f5)) [0, 1, 0, 1, 1, 1, 1, 1] g5_K80 ((g5_l37_cs u0 u1 p2 p5 p10) ++ sputs [(4, .b), (12, .i .i64)] s) w := by kernel_rfl
  have h2 : loopM Try.prog 140 5 g5_ann (cAt [1, 1, 1, 1, 1, 0, 1, 0, 0] (bodyOf Try.f5)) [0, 1, 0, 1, 1, 1, 1, 1] g5_K80 ((g5_l37_cs u0 u1 p2 p5 p10) ++ sputs [(4, .b), (12, .i .i64)] s) w = g5_K80 (.exit 0) (puts 140 ((g5_l37_cs u0 u1 p2 p5 p10) ++ sputs [(4, .b), (12, .i .i64)] t)) w' :=
    loop_rule (P := Try.prog) (N := 140) (f := 5) (ann := g5_ann) (body := (cAt [1, 1, 1, 1, 1, 0, 1, 0, 0] (bodyOf Try.f5))) (pt := [0, 1, 0, 1, 1, 1, 1, 1]) (K := g5_K80) (g5_l37_cs u0 u1 p2 p5 p10) [(4, .b), (12, .i .i64)] (b := g5_l37_b u0 p5 u1 p10 p2) (fun s w => by kernel_rfl) (by kernel_rfl) (by kernel_rfl) (by kernel_rfl) h
  have h3 : g5_K80 (.exit 0) (puts 140 ((g5_l37_cs u0 u1 p2 p5 p10) ++ sputs [(4, .b), (12, .i .i64)] t)) w' = g5_l37_x0 u0 p10 p2 t w' := by kernel_rfl
  exact h1.trans (h2.trans h3)

theorem g5_l37_ret_of {u0 : Option Addr × Nat × Nat} {u1 : Option Addr × Nat × Nat} {p2 : Option Addr} {p5 : Option Addr} {p10 : Option Addr} {s t : Bool × Int} {w w' : World} (h : loopS (g5_l37_b u0 p5 u1 p10 p2) s w = some (.ret, t, w')) : g5_l37 u0 u1 p2 p5 p10 s w = g5_l37_ret t w' := by
  have h1 : g5_l37 u0 u1 p2 p5 p10 s w = loopM Try.prog 140 5 g5_ann (cAt [1, 1, 1, 1, 1, 0, 1, 0, 0] (bodyOf Try.f5)) [0, 1, 0, 1, 1, 1, 1, 1] g5_K80 ((g5_l37_cs u0 u1 p2 p5 p10) ++ sputs [(4, .b), (12, .i .i64)] s) w := by kernel_rfl
  have h2 : loopM Try.prog 140 5 g5_ann (cAt [1, 1, 1, 1, 1, 0, 1, 0, 0] (bodyOf Try.f5)) [0, 1, 0, 1, 1, 1, 1, 1] g5_K80 ((g5_l37_cs u0 u1 p2 p5 p10) ++ sputs [(4, .b), (12, .i .i64)] s) w = g5_K80 (.ret) (puts 140 ((g5_l37_cs u0 u1 p2 p5 p10) ++ sputs [(4, .b), (12, .i .i64)] t)) w' :=
    loop_rule (P := Try.prog) (N := 140) (f := 5) (ann := g5_ann) (body := (cAt [1, 1, 1, 1, 1, 0, 1, 0, 0] (bodyOf Try.f5))) (pt := [0, 1, 0, 1, 1, 1, 1, 1]) (K := g5_K80) (g5_l37_cs u0 u1 p2 p5 p10) [(4, .b), (12, .i .i64)] (b := g5_l37_b u0 p5 u1 p10 p2) (fun s w => by kernel_rfl) (by kernel_rfl) (by kernel_rfl) (by kernel_rfl) h
  have h3 : g5_K80 (.ret) (puts 140 ((g5_l37_cs u0 u1 p2 p5 p10) ++ sputs [(4, .b), (12, .i .i64)] t)) w' = g5_l37_ret t w' := by kernel_rfl
  exact h1.trans (h2.trans h3)

end Go.Proofs.Ytnflklkjjjlpaaa
