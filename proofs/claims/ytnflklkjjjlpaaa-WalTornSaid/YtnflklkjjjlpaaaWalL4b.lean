/-
  WalL4b: lemmas on what Go functions of this seat come to (for whatever arguments, as each says). No condition but those that stand in each lemma.
-/
import Derived.Test.YtnflklkjjjlpaaaWalF0
namespace Go.Proofs.Ytnflklkjjjlpaaa
open Go Go.Ev
set_option maxRecDepth 100000
set_option maxHeartbeats 0
set_option linter.unusedVariables false
/-! 4: penstock/penstocklaw06.WalTorn (b: []uint8, p: []uint8) -/
def g4_ann : List (List Nat × List Nat) := []

noncomputable def g4 (u0 : Option Addr × Nat × Nat) (u1 : Option Addr × Nat × Nat) (w0 : World) : Option (Value × World) :=
(callF Try.prog 9 #[] w0).bind fun r1 =>
(asP r1.1).bind fun p2 =>
(callF Try.prog 11 #[] r1.2).bind fun r3 =>
(asB r3.1).bind fun b4 =>
if (!b4) = true then
((callF Try.prog 11 #[] r3.2).bind fun r5 =>
(asB r5.1).bind fun b6 =>
some (.bool b6, r5.2))
else
(if (decide (((u0.2.1 : Int) : Int) > 262144)) = true then
((callF Try.prog 11 #[] r3.2).bind fun r8 =>
(asB r8.1).bind fun b9 =>
some (.bool b9, r8.2))
else
(if (decide (((u1.2.1 : Int) : Int) > 4096)) = true then
((callF Try.prog 11 #[] r3.2).bind fun r11 =>
(asB r11.1).bind fun b12 =>
some (.bool b12, r11.2))
else
((callF Try.prog 19 #[.pointer p2, .string (⟨#[119]⟩ : ByteArray), .slice u0.1 u0.2.1 u0.2.2] r3.2).bind fun r13 =>
(asI .i64 r13.1).bind fun n14 =>
if ((n14 : Int) != 0) = true then
((callF Try.prog 11 #[] r13.2).bind fun r15 =>
(asB r15.1).bind fun b16 =>
some (.bool b16, r15.2))
else
((callF Try.prog 20 #[.pointer p2, .string (⟨#[119]⟩ : ByteArray)] r13.2).bind fun r17 =>
(asI .i64 r17.1).bind fun n18 =>
if ((n18 : Int) != 0) = true then
((callF Try.prog 11 #[] r17.2).bind fun r19 =>
(asB r19.1).bind fun b20 =>
some (.bool b20, r19.2))
else
((callF Try.prog 21 #[.slice u0.1 u0.2.1 u0.2.2] r17.2).bind fun r21 =>
(asTup 3 r21.1).bind fun l22 =>
(asSl (l22.getD 0 undef)).bind fun q23 =>
(asI .i64 (l22.getD 1 undef)).bind fun n24 =>
(asI .i64 (l22.getD 2 undef)).bind fun n25 =>
(callF Try.prog 10 #[.pointer p2, .string (⟨#[119]⟩ : ByteArray)] r21.2).bind fun r26 =>
(asTup 3 r26.1).bind fun l27 =>
(asP (l27.getD 0 undef)).bind fun p28 =>
(asSl (l27.getD 1 undef)).bind fun q29 =>
(asI .i64 (l27.getD 2 undef)).bind fun n30 =>
(callF Try.prog 22 #[.pointer p2, .string (⟨#[119]⟩ : ByteArray)] r26.2).bind fun r31 =>
(asTup 3 r31.1).bind fun l32 =>
(asI .i64 (l32.getD 0 undef)).bind fun n33 =>
(asI .i64 (l32.getD 1 undef)).bind fun n34 =>
(asI .i64 (l32.getD 2 undef)).bind fun n35 =>
if (p28.isNone) = true then
(some (.bool false, r31.2))
else
(if ((n30 : Int) != 0) = true then
(some (.bool false, r31.2))
else
(if ((n35 : Int) != 0) = true then
(some (.bool false, r31.2))
else
(if ((n33 : Int) != n24) = true then
(some (.bool false, r31.2))
else
((callF Try.prog 17 #[.slice q29.1 q29.2.1 q29.2.2, .slice q23.1 q23.2.1 q23.2.2] r31.2).bind fun r36 =>
(asB r36.1).bind fun b37 =>
if (!b37) = true then
(some (.bool false, r36.2))
else
((callF Try.prog 18 #[.pointer p28] r36.2).bind fun r38 =>
(asI .i64 r38.1).bind fun n39 =>
if ((n39 : Int) != (q29.2.1 : Int)) = true then
(some (.bool false, r38.2))
else
((callF Try.prog 14 #[.pointer p28, .slice u1.1 u1.2.1 u1.2.2] r38.2).bind fun r41 =>
(asI .i64 r41.1).bind fun n42 =>
if ((n42 : Int) != 0) = true then
(some (.bool false, r41.2))
else
((callF Try.prog 23 #[.pointer p28] r41.2).bind fun r43 =>
(asI .i64 r43.1).bind fun n44 =>
if ((n44 : Int) != 0) = true then
(some (.bool false, r43.2))
else
((callF Try.prog 10 #[.pointer p2, .string (⟨#[119]⟩ : ByteArray)] r43.2).bind fun r45 =>
(asTup 3 r45.1).bind fun l46 =>
(asP (l46.getD 0 undef)).bind fun p47 =>
(asSl (l46.getD 1 undef)).bind fun q48 =>
(asI .i64 (l46.getD 2 undef)).bind fun n49 =>
if ((n49 : Int) == 0) = true then
(if (((q48.2.1 : Int) : Int) == (IntKind.i64.wrap ((q23.2.1 : Int) + 1))) = true then
((slc q48.1 q48.2.1 q48.2.2 1 none (some (q23.2.1 : Int)) none).bind fun q53 =>
(callF Try.prog 17 #[.slice q53.1 q53.2.1 q53.2.2, .slice q23.1 q23.2.1 q23.2.2] r45.2).bind fun r54 =>
(asB r54.1).bind fun b55 =>
if b55 = true then
((idxA q48.1 q48.2.1 1 (q23.2.1 : Int)).bind fun a57 =>
(World.cell? r54.2 a57).bind fun v58 =>
(asSl v58).bind fun q59 =>
(callF Try.prog 16 #[.slice q59.1 q59.2.1 q59.2.2, .slice u1.1 u1.2.1 u1.2.2] r54.2).bind fun r60 =>
(asB r60.1).bind fun b61 =>
some (.bool b61, r60.2))
else
(some (.bool false, r54.2)))
else
(some (.bool false, r45.2)))
else
(some (.bool false, r45.2)))))))))))))))

theorem g4_eq (u0 : Option Addr × Nat × Nat) (u1 : Option Addr × Nat × Nat) (w0 : World) : evFn Try.prog 4 g4_ann #[.slice u0.1 u0.2.1 u0.2.2, .slice u1.1 u1.2.1 u1.2.2] w0 = g4 u0 u1 w0 := by kernel_rfl

theorem g4_call {u0 : Option Addr × Nat × Nat} {u1 : Option Addr × Nat × Nat} {w0 : World} {r : Value × World} (h : g4 u0 u1 w0 = some r) : callF Try.prog 4 #[.slice u0.1 u0.2.1 u0.2.2, .slice u1.1 u1.2.1 u1.2.2] w0 = some r :=
  callF_of_evFn (ann := g4_ann) Try.call4 (by kernel_rfl) ((g4_eq u0 u1 w0).trans h)

end Go.Proofs.Ytnflklkjjjlpaaa
