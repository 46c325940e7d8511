/-
  ImageS: lemmas on what Go functions of this seat come to (for whatever arguments, as each says). No condition but those that stand in each lemma.
-/
import Derived.Test.YtjcenfgmpbeldaaLb9
import Derived.Test.YtjcenfgmpbeldaaProg
namespace Go.Proofs.Ytjcenfgmpbeldaa
open Go Go.Ev
set_option maxRecDepth 100000
set_option linter.unusedVariables false
/-! 35: slices.Sort[[]int,int] (x: []int) -/
def g35_ann : List (List Nat × List Nat) := []

noncomputable def g35 (u0 : Option Addr × Nat × Nat) (w0 : World) : Option (Value × World) :=
(callF Try.prog 69 #[.int .u64 (IntKind.u64.wrap (u0.2.1 : Int))] w0).bind fun r2 =>
(asI .i64 r2.1).bind fun n3 =>
(callF Try.prog 68 #[.slice u0.1 u0.2.1 u0.2.2, .int .i64 0, .int .i64 (u0.2.1 : Int), .int .i64 n3] r2.2).bind fun r4 =>
(asTup 0 r4.1).bind fun _ =>
some (.tuple #[], r4.2)

theorem g35_eq (u0 : Option Addr × Nat × Nat) (w0 : World) : evFn Try.prog 35 g35_ann #[.slice u0.1 u0.2.1 u0.2.2] w0 = g35 u0 w0 := by kernel_rfl

theorem g35_call {u0 : Option Addr × Nat × Nat} {w0 : World} {r : Value × World} (h : g35 u0 w0 = some r) : callF Try.prog 35 #[.slice u0.1 u0.2.1 u0.2.2] w0 = some r :=
  callF_of_evFn (ann := g35_ann) Try.call35 (by kernel_rfl) ((g35_eq u0 w0).trans h)

/-! 68: slices.pdqsortOrdered[int] (data: []int, a: int, b: int, limit: int) -/
def g68_ann : List (List Nat × List Nat) := [([0, 1, 1], [0, 1, 2, 3, 8, 9])]

def g68_l1_cs (u0 : Option Addr × Nat × Nat) : List (Nat × Value) := ([(0, .slice u0.1 u0.2.1 u0.2.2)] : List (Nat × Value))

/-- the round of a loop (slices.pdqsortOrdered[int]) -/
noncomputable def g68_l1_b (u0 : Option Addr × Nat × Nat) (s2 : Int × Int × Int × Bool × Bool) (w3 : World) : Option (Exit × (Int × Int × Int × Bool × Bool) × World) :=
if (decide (((IntKind.i64.wrap (s2.2.1 - s2.1)) : Int) ≤ 12)) = true then
((callF Try.prog 84 #[.slice u0.1 u0.2.1 u0.2.2, .int .i64 s2.1, .int .i64 s2.2.1] w3).bind fun r4 =>
(asTup 0 r4.1).bind fun _ =>
some (.ret, (s2.1, s2.2.1, s2.2.2.1, s2.2.2.2.1, s2.2.2.2.2), r4.2))
else
(if ((s2.2.2.1 : Int) == 0) = true then
((callF Try.prog 85 #[.slice u0.1 u0.2.1 u0.2.2, .int .i64 s2.1, .int .i64 s2.2.1] w3).bind fun r5 =>
(asTup 0 r5.1).bind fun _ =>
some (.ret, (s2.1, s2.2.1, s2.2.2.1, s2.2.2.2.1, s2.2.2.2.2), r5.2))
else
(if (!s2.2.2.2.1) = true then
((callF Try.prog 86 #[.slice u0.1 u0.2.1 u0.2.2, .int .i64 s2.1, .int .i64 s2.2.1] w3).bind fun r7 =>
(asTup 0 r7.1).bind fun _ =>
(callF Try.prog 87 #[.slice u0.1 u0.2.1 u0.2.2, .int .i64 s2.1, .int .i64 s2.2.1] r7.2).bind fun r8 =>
(asTup 2 r8.1).bind fun l9 =>
(asI .i64 (l9.getD 0 undef)).bind fun n10 =>
(asI .i64 (l9.getD 1 undef)).bind fun n11 =>
if ((n11 : Int) == 2) = true then
((callF Try.prog 88 #[.slice u0.1 u0.2.1 u0.2.2, .int .i64 s2.1, .int .i64 s2.2.1] r8.2).bind fun r13 =>
(asTup 0 r13.1).bind fun _ =>
if s2.2.2.2.1 = true then
(if s2.2.2.2.2 = true then
((callF Try.prog 89 #[.slice u0.1 u0.2.1 u0.2.2, .int .i64 s2.1, .int .i64 s2.2.1] r13.2).bind fun r15 =>
(asB r15.1).bind fun b16 =>
if b16 = true then
(some (.ret, (s2.1, s2.2.1, (IntKind.i64.wrap (s2.2.2.1 - 1)), s2.2.2.2.1, s2.2.2.2.2), r15.2))
else
(if (decide ((s2.1 : Int) > 0)) = true then
((idxA u0.1 u0.2.1 1 (IntKind.i64.wrap (s2.1 - 1))).bind fun a17 =>
(World.cell? (World.drew r15.2) a17).bind fun v18 =>
(asI .i64 v18).bind fun n19 =>
(idxA u0.1 u0.2.1 1 (IntKind.i64.wrap ((IntKind.i64.wrap (s2.2.1 - 1)) - (IntKind.i64.wrap (n10 - s2.1))))).bind fun a20 =>
(World.cell? (World.drew r15.2) a20).bind fun v21 =>
(asI .i64 v21).bind fun n22 =>
(callF Try.prog 90 #[.int .i64 n19, .int .i64 n22] (World.drew r15.2)).bind fun r23 =>
(asB r23.1).bind fun b24 =>
if (!b24) = true then
((callF Try.prog 91 #[.slice u0.1 u0.2.1 u0.2.2, .int .i64 s2.1, .int .i64 s2.2.1, .int .i64 (IntKind.i64.wrap ((IntKind.i64.wrap (s2.2.1 - 1)) - (IntKind.i64.wrap (n10 - s2.1))))] r23.2).bind fun r25 =>
(asI .i64 r25.1).bind fun n26 =>
some (.normal, (n26, s2.2.1, (IntKind.i64.wrap (s2.2.2.1 - 1)), s2.2.2.2.1, s2.2.2.2.2), r25.2))
else
((callF Try.prog 92 #[.slice u0.1 u0.2.1 u0.2.2, .int .i64 s2.1, .int .i64 s2.2.1, .int .i64 (IntKind.i64.wrap ((IntKind.i64.wrap (s2.2.1 - 1)) - (IntKind.i64.wrap (n10 - s2.1))))] r23.2).bind fun r27 =>
(asTup 2 r27.1).bind fun l28 =>
(asI .i64 (l28.getD 0 undef)).bind fun n29 =>
(asB (l28.getD 1 undef)).bind fun b30 =>
if (decide (((IntKind.i64.wrap (n29 - s2.1)) : Int) < (IntKind.i64.wrap (s2.2.1 - n29)))) = true then
((callF Try.prog 68 #[.slice u0.1 u0.2.1 u0.2.2, .int .i64 s2.1, .int .i64 n29, .int .i64 (IntKind.i64.wrap (s2.2.2.1 - 1))] r27.2).bind fun r31 =>
(asTup 0 r31.1).bind fun _ =>
some (.normal, ((IntKind.i64.wrap (n29 + 1)), s2.2.1, (IntKind.i64.wrap (s2.2.2.1 - 1)), (decide (((IntKind.i64.wrap (n29 - s2.1)) : Int) ≥ (IntKind.i64.wrap (Int.tdiv (IntKind.i64.wrap (s2.2.1 - s2.1)) 8)))), b30), r31.2))
else
((callF Try.prog 68 #[.slice u0.1 u0.2.1 u0.2.2, .int .i64 (IntKind.i64.wrap (n29 + 1)), .int .i64 s2.2.1, .int .i64 (IntKind.i64.wrap (s2.2.2.1 - 1))] r27.2).bind fun r32 =>
(asTup 0 r32.1).bind fun _ =>
some (.normal, (s2.1, n29, (IntKind.i64.wrap (s2.2.2.1 - 1)), (decide (((IntKind.i64.wrap (s2.2.1 - n29)) : Int) ≥ (IntKind.i64.wrap (Int.tdiv (IntKind.i64.wrap (s2.2.1 - s2.1)) 8)))), b30), r32.2))))
else
((callF Try.prog 92 #[.slice u0.1 u0.2.1 u0.2.2, .int .i64 s2.1, .int .i64 s2.2.1, .int .i64 (IntKind.i64.wrap ((IntKind.i64.wrap (s2.2.1 - 1)) - (IntKind.i64.wrap (n10 - s2.1))))] (World.drew r15.2)).bind fun r33 =>
(asTup 2 r33.1).bind fun l34 =>
(asI .i64 (l34.getD 0 undef)).bind fun n35 =>
(asB (l34.getD 1 undef)).bind fun b36 =>
if (decide (((IntKind.i64.wrap (n35 - s2.1)) : Int) < (IntKind.i64.wrap (s2.2.1 - n35)))) = true then
((callF Try.prog 68 #[.slice u0.1 u0.2.1 u0.2.2, .int .i64 s2.1, .int .i64 n35, .int .i64 (IntKind.i64.wrap (s2.2.2.1 - 1))] r33.2).bind fun r37 =>
(asTup 0 r37.1).bind fun _ =>
some (.normal, ((IntKind.i64.wrap (n35 + 1)), s2.2.1, (IntKind.i64.wrap (s2.2.2.1 - 1)), (decide (((IntKind.i64.wrap (n35 - s2.1)) : Int) ≥ (IntKind.i64.wrap (Int.tdiv (IntKind.i64.wrap (s2.2.1 - s2.1)) 8)))), b36), r37.2))
else
((callF Try.prog 68 #[.slice u0.1 u0.2.1 u0.2.2, .int .i64 (IntKind.i64.wrap (n35 + 1)), .int .i64 s2.2.1, .int .i64 (IntKind.i64.wrap (s2.2.2.1 - 1))] r33.2).bind fun r38 =>
(asTup 0 r38.1).bind fun _ =>
some (.normal, (s2.1, n35, (IntKind.i64.wrap (s2.2.2.1 - 1)), (decide (((IntKind.i64.wrap (s2.2.1 - n35)) : Int) ≥ (IntKind.i64.wrap (Int.tdiv (IntKind.i64.wrap (s2.2.1 - s2.1)) 8)))), b36), r38.2)))))
else
(if (decide ((s2.1 : Int) > 0)) = true then
((idxA u0.1 u0.2.1 1 (IntKind.i64.wrap (s2.1 - 1))).bind fun a39 =>
(World.cell? (World.drew r13.2) a39).bind fun v40 =>
(asI .i64 v40).bind fun n41 =>
(idxA u0.1 u0.2.1 1 (IntKind.i64.wrap ((IntKind.i64.wrap (s2.2.1 - 1)) - (IntKind.i64.wrap (n10 - s2.1))))).bind fun a42 =>
(World.cell? (World.drew r13.2) a42).bind fun v43 =>
(asI .i64 v43).bind fun n44 =>
(callF Try.prog 90 #[.int .i64 n41, .int .i64 n44] (World.drew r13.2)).bind fun r45 =>
(asB r45.1).bind fun b46 =>
if (!b46) = true then
((callF Try.prog 91 #[.slice u0.1 u0.2.1 u0.2.2, .int .i64 s2.1, .int .i64 s2.2.1, .int .i64 (IntKind.i64.wrap ((IntKind.i64.wrap (s2.2.1 - 1)) - (IntKind.i64.wrap (n10 - s2.1))))] r45.2).bind fun r47 =>
(asI .i64 r47.1).bind fun n48 =>
some (.normal, (n48, s2.2.1, (IntKind.i64.wrap (s2.2.2.1 - 1)), s2.2.2.2.1, s2.2.2.2.2), r47.2))
else
((callF Try.prog 92 #[.slice u0.1 u0.2.1 u0.2.2, .int .i64 s2.1, .int .i64 s2.2.1, .int .i64 (IntKind.i64.wrap ((IntKind.i64.wrap (s2.2.1 - 1)) - (IntKind.i64.wrap (n10 - s2.1))))] r45.2).bind fun r49 =>
(asTup 2 r49.1).bind fun l50 =>
(asI .i64 (l50.getD 0 undef)).bind fun n51 =>
(asB (l50.getD 1 undef)).bind fun b52 =>
if (decide (((IntKind.i64.wrap (n51 - s2.1)) : Int) < (IntKind.i64.wrap (s2.2.1 - n51)))) = true then
((callF Try.prog 68 #[.slice u0.1 u0.2.1 u0.2.2, .int .i64 s2.1, .int .i64 n51, .int .i64 (IntKind.i64.wrap (s2.2.2.1 - 1))] r49.2).bind fun r53 =>
(asTup 0 r53.1).bind fun _ =>
some (.normal, ((IntKind.i64.wrap (n51 + 1)), s2.2.1, (IntKind.i64.wrap (s2.2.2.1 - 1)), (decide (((IntKind.i64.wrap (n51 - s2.1)) : Int) ≥ (IntKind.i64.wrap (Int.tdiv (IntKind.i64.wrap (s2.2.1 - s2.1)) 8)))), b52), r53.2))
else
((callF Try.prog 68 #[.slice u0.1 u0.2.1 u0.2.2, .int .i64 (IntKind.i64.wrap (n51 + 1)), .int .i64 s2.2.1, .int .i64 (IntKind.i64.wrap (s2.2.2.1 - 1))] r49.2).bind fun r54 =>
(asTup 0 r54.1).bind fun _ =>
some (.normal, (s2.1, n51, (IntKind.i64.wrap (s2.2.2.1 - 1)), (decide (((IntKind.i64.wrap (s2.2.1 - n51)) : Int) ≥ (IntKind.i64.wrap (Int.tdiv (IntKind.i64.wrap (s2.2.1 - s2.1)) 8)))), b52), r54.2))))
else
((callF Try.prog 92 #[.slice u0.1 u0.2.1 u0.2.2, .int .i64 s2.1, .int .i64 s2.2.1, .int .i64 (IntKind.i64.wrap ((IntKind.i64.wrap (s2.2.1 - 1)) - (IntKind.i64.wrap (n10 - s2.1))))] (World.drew r13.2)).bind fun r55 =>
(asTup 2 r55.1).bind fun l56 =>
(asI .i64 (l56.getD 0 undef)).bind fun n57 =>
(asB (l56.getD 1 undef)).bind fun b58 =>
if (decide (((IntKind.i64.wrap (n57 - s2.1)) : Int) < (IntKind.i64.wrap (s2.2.1 - n57)))) = true then
((callF Try.prog 68 #[.slice u0.1 u0.2.1 u0.2.2, .int .i64 s2.1, .int .i64 n57, .int .i64 (IntKind.i64.wrap (s2.2.2.1 - 1))] r55.2).bind fun r59 =>
(asTup 0 r59.1).bind fun _ =>
some (.normal, ((IntKind.i64.wrap (n57 + 1)), s2.2.1, (IntKind.i64.wrap (s2.2.2.1 - 1)), (decide (((IntKind.i64.wrap (n57 - s2.1)) : Int) ≥ (IntKind.i64.wrap (Int.tdiv (IntKind.i64.wrap (s2.2.1 - s2.1)) 8)))), b58), r59.2))
else
((callF Try.prog 68 #[.slice u0.1 u0.2.1 u0.2.2, .int .i64 (IntKind.i64.wrap (n57 + 1)), .int .i64 s2.2.1, .int .i64 (IntKind.i64.wrap (s2.2.2.1 - 1))] r55.2).bind fun r60 =>
(asTup 0 r60.1).bind fun _ =>
some (.normal, (s2.1, n57, (IntKind.i64.wrap (s2.2.2.1 - 1)), (decide (((IntKind.i64.wrap (s2.2.1 - n57)) : Int) ≥ (IntKind.i64.wrap (Int.tdiv (IntKind.i64.wrap (s2.2.1 - s2.1)) 8)))), b58), r60.2)))))
else
(if (decide ((s2.1 : Int) > 0)) = true then
((idxA u0.1 u0.2.1 1 (IntKind.i64.wrap (s2.1 - 1))).bind fun a61 =>
(World.cell? (World.drew r13.2) a61).bind fun v62 =>
(asI .i64 v62).bind fun n63 =>
(idxA u0.1 u0.2.1 1 (IntKind.i64.wrap ((IntKind.i64.wrap (s2.2.1 - 1)) - (IntKind.i64.wrap (n10 - s2.1))))).bind fun a64 =>
(World.cell? (World.drew r13.2) a64).bind fun v65 =>
(asI .i64 v65).bind fun n66 =>
(callF Try.prog 90 #[.int .i64 n63, .int .i64 n66] (World.drew r13.2)).bind fun r67 =>
(asB r67.1).bind fun b68 =>
if (!b68) = true then
((callF Try.prog 91 #[.slice u0.1 u0.2.1 u0.2.2, .int .i64 s2.1, .int .i64 s2.2.1, .int .i64 (IntKind.i64.wrap ((IntKind.i64.wrap (s2.2.1 - 1)) - (IntKind.i64.wrap (n10 - s2.1))))] r67.2).bind fun r69 =>
(asI .i64 r69.1).bind fun n70 =>
some (.normal, (n70, s2.2.1, (IntKind.i64.wrap (s2.2.2.1 - 1)), s2.2.2.2.1, s2.2.2.2.2), r69.2))
else
((callF Try.prog 92 #[.slice u0.1 u0.2.1 u0.2.2, .int .i64 s2.1, .int .i64 s2.2.1, .int .i64 (IntKind.i64.wrap ((IntKind.i64.wrap (s2.2.1 - 1)) - (IntKind.i64.wrap (n10 - s2.1))))] r67.2).bind fun r71 =>
(asTup 2 r71.1).bind fun l72 =>
(asI .i64 (l72.getD 0 undef)).bind fun n73 =>
(asB (l72.getD 1 undef)).bind fun b74 =>
if (decide (((IntKind.i64.wrap (n73 - s2.1)) : Int) < (IntKind.i64.wrap (s2.2.1 - n73)))) = true then
((callF Try.prog 68 #[.slice u0.1 u0.2.1 u0.2.2, .int .i64 s2.1, .int .i64 n73, .int .i64 (IntKind.i64.wrap (s2.2.2.1 - 1))] r71.2).bind fun r75 =>
(asTup 0 r75.1).bind fun _ =>
some (.normal, ((IntKind.i64.wrap (n73 + 1)), s2.2.1, (IntKind.i64.wrap (s2.2.2.1 - 1)), (decide (((IntKind.i64.wrap (n73 - s2.1)) : Int) ≥ (IntKind.i64.wrap (Int.tdiv (IntKind.i64.wrap (s2.2.1 - s2.1)) 8)))), b74), r75.2))
else
((callF Try.prog 68 #[.slice u0.1 u0.2.1 u0.2.2, .int .i64 (IntKind.i64.wrap (n73 + 1)), .int .i64 s2.2.1, .int .i64 (IntKind.i64.wrap (s2.2.2.1 - 1))] r71.2).bind fun r76 =>
(asTup 0 r76.1).bind fun _ =>
some (.normal, (s2.1, n73, (IntKind.i64.wrap (s2.2.2.1 - 1)), (decide (((IntKind.i64.wrap (s2.2.1 - n73)) : Int) ≥ (IntKind.i64.wrap (Int.tdiv (IntKind.i64.wrap (s2.2.1 - s2.1)) 8)))), b74), r76.2))))
else
((callF Try.prog 92 #[.slice u0.1 u0.2.1 u0.2.2, .int .i64 s2.1, .int .i64 s2.2.1, .int .i64 (IntKind.i64.wrap ((IntKind.i64.wrap (s2.2.1 - 1)) - (IntKind.i64.wrap (n10 - s2.1))))] (World.drew r13.2)).bind fun r77 =>
(asTup 2 r77.1).bind fun l78 =>
(asI .i64 (l78.getD 0 undef)).bind fun n79 =>
(asB (l78.getD 1 undef)).bind fun b80 =>
if (decide (((IntKind.i64.wrap (n79 - s2.1)) : Int) < (IntKind.i64.wrap (s2.2.1 - n79)))) = true then
((callF Try.prog 68 #[.slice u0.1 u0.2.1 u0.2.2, .int .i64 s2.1, .int .i64 n79, .int .i64 (IntKind.i64.wrap (s2.2.2.1 - 1))] r77.2).bind fun r81 =>
(asTup 0 r81.1).bind fun _ =>
some (.normal, ((IntKind.i64.wrap (n79 + 1)), s2.2.1, (IntKind.i64.wrap (s2.2.2.1 - 1)), (decide (((IntKind.i64.wrap (n79 - s2.1)) : Int) ≥ (IntKind.i64.wrap (Int.tdiv (IntKind.i64.wrap (s2.2.1 - s2.1)) 8)))), b80), r81.2))
else
((callF Try.prog 68 #[.slice u0.1 u0.2.1 u0.2.2, .int .i64 (IntKind.i64.wrap (n79 + 1)), .int .i64 s2.2.1, .int .i64 (IntKind.i64.wrap (s2.2.2.1 - 1))] r77.2).bind fun r82 =>
(asTup 0 r82.1).bind fun _ =>
some (.normal, (s2.1, n79, (IntKind.i64.wrap (s2.2.2.1 - 1)), (decide (((IntKind.i64.wrap (s2.2.1 - n79)) : Int) ≥ (IntKind.i64.wrap (Int.tdiv (IntKind.i64.wrap (s2.2.1 - s2.1)) 8)))), b80), r82.2)))))
else
(if s2.2.2.2.1 = true then
(if s2.2.2.2.2 = true then
(if ((n11 : Int) == 1) = true then
((callF Try.prog 89 #[.slice u0.1 u0.2.1 u0.2.2, .int .i64 s2.1, .int .i64 s2.2.1] r8.2).bind fun r84 =>
(asB r84.1).bind fun b85 =>
if b85 = true then
(some (.ret, (s2.1, s2.2.1, (IntKind.i64.wrap (s2.2.2.1 - 1)), s2.2.2.2.1, s2.2.2.2.2), r84.2))
else
(if (decide ((s2.1 : Int) > 0)) = true then
((idxA u0.1 u0.2.1 1 (IntKind.i64.wrap (s2.1 - 1))).bind fun a86 =>
(World.cell? (World.drew r84.2) a86).bind fun v87 =>
(asI .i64 v87).bind fun n88 =>
(idxA u0.1 u0.2.1 1 n10).bind fun a89 =>
(World.cell? (World.drew r84.2) a89).bind fun v90 =>
(asI .i64 v90).bind fun n91 =>
(callF Try.prog 90 #[.int .i64 n88, .int .i64 n91] (World.drew r84.2)).bind fun r92 =>
(asB r92.1).bind fun b93 =>
if (!b93) = true then
((callF Try.prog 91 #[.slice u0.1 u0.2.1 u0.2.2, .int .i64 s2.1, .int .i64 s2.2.1, .int .i64 n10] r92.2).bind fun r94 =>
(asI .i64 r94.1).bind fun n95 =>
some (.normal, (n95, s2.2.1, (IntKind.i64.wrap (s2.2.2.1 - 1)), s2.2.2.2.1, s2.2.2.2.2), r94.2))
else
((callF Try.prog 92 #[.slice u0.1 u0.2.1 u0.2.2, .int .i64 s2.1, .int .i64 s2.2.1, .int .i64 n10] r92.2).bind fun r96 =>
(asTup 2 r96.1).bind fun l97 =>
(asI .i64 (l97.getD 0 undef)).bind fun n98 =>
(asB (l97.getD 1 undef)).bind fun b99 =>
if (decide (((IntKind.i64.wrap (n98 - s2.1)) : Int) < (IntKind.i64.wrap (s2.2.1 - n98)))) = true then
((callF Try.prog 68 #[.slice u0.1 u0.2.1 u0.2.2, .int .i64 s2.1, .int .i64 n98, .int .i64 (IntKind.i64.wrap (s2.2.2.1 - 1))] r96.2).bind fun r100 =>
(asTup 0 r100.1).bind fun _ =>
some (.normal, ((IntKind.i64.wrap (n98 + 1)), s2.2.1, (IntKind.i64.wrap (s2.2.2.1 - 1)), (decide (((IntKind.i64.wrap (n98 - s2.1)) : Int) ≥ (IntKind.i64.wrap (Int.tdiv (IntKind.i64.wrap (s2.2.1 - s2.1)) 8)))), b99), r100.2))
else
((callF Try.prog 68 #[.slice u0.1 u0.2.1 u0.2.2, .int .i64 (IntKind.i64.wrap (n98 + 1)), .int .i64 s2.2.1, .int .i64 (IntKind.i64.wrap (s2.2.2.1 - 1))] r96.2).bind fun r101 =>
(asTup 0 r101.1).bind fun _ =>
some (.normal, (s2.1, n98, (IntKind.i64.wrap (s2.2.2.1 - 1)), (decide (((IntKind.i64.wrap (s2.2.1 - n98)) : Int) ≥ (IntKind.i64.wrap (Int.tdiv (IntKind.i64.wrap (s2.2.1 - s2.1)) 8)))), b99), r101.2))))
else
((callF Try.prog 92 #[.slice u0.1 u0.2.1 u0.2.2, .int .i64 s2.1, .int .i64 s2.2.1, .int .i64 n10] (World.drew r84.2)).bind fun r102 =>
(asTup 2 r102.1).bind fun l103 =>
(asI .i64 (l103.getD 0 undef)).bind fun n104 =>
(asB (l103.getD 1 undef)).bind fun b105 =>
if (decide (((IntKind.i64.wrap (n104 - s2.1)) : Int) < (IntKind.i64.wrap (s2.2.1 - n104)))) = true then
((callF Try.prog 68 #[.slice u0.1 u0.2.1 u0.2.2, .int .i64 s2.1, .int .i64 n104, .int .i64 (IntKind.i64.wrap (s2.2.2.1 - 1))] r102.2).bind fun r106 =>
(asTup 0 r106.1).bind fun _ =>
some (.normal, ((IntKind.i64.wrap (n104 + 1)), s2.2.1, (IntKind.i64.wrap (s2.2.2.1 - 1)), (decide (((IntKind.i64.wrap (n104 - s2.1)) : Int) ≥ (IntKind.i64.wrap (Int.tdiv (IntKind.i64.wrap (s2.2.1 - s2.1)) 8)))), b105), r106.2))
else
((callF Try.prog 68 #[.slice u0.1 u0.2.1 u0.2.2, .int .i64 (IntKind.i64.wrap (n104 + 1)), .int .i64 s2.2.1, .int .i64 (IntKind.i64.wrap (s2.2.2.1 - 1))] r102.2).bind fun r107 =>
(asTup 0 r107.1).bind fun _ =>
some (.normal, (s2.1, n104, (IntKind.i64.wrap (s2.2.2.1 - 1)), (decide (((IntKind.i64.wrap (s2.2.1 - n104)) : Int) ≥ (IntKind.i64.wrap (Int.tdiv (IntKind.i64.wrap (s2.2.1 - s2.1)) 8)))), b105), r107.2)))))
else
(if (decide ((s2.1 : Int) > 0)) = true then
((idxA u0.1 u0.2.1 1 (IntKind.i64.wrap (s2.1 - 1))).bind fun a108 =>
(World.cell? (World.drew r8.2) a108).bind fun v109 =>
(asI .i64 v109).bind fun n110 =>
(idxA u0.1 u0.2.1 1 n10).bind fun a111 =>
(World.cell? (World.drew r8.2) a111).bind fun v112 =>
(asI .i64 v112).bind fun n113 =>
(callF Try.prog 90 #[.int .i64 n110, .int .i64 n113] (World.drew r8.2)).bind fun r114 =>
(asB r114.1).bind fun b115 =>
if (!b115) = true then
((callF Try.prog 91 #[.slice u0.1 u0.2.1 u0.2.2, .int .i64 s2.1, .int .i64 s2.2.1, .int .i64 n10] r114.2).bind fun r116 =>
(asI .i64 r116.1).bind fun n117 =>
some (.normal, (n117, s2.2.1, (IntKind.i64.wrap (s2.2.2.1 - 1)), s2.2.2.2.1, s2.2.2.2.2), r116.2))
else
((callF Try.prog 92 #[.slice u0.1 u0.2.1 u0.2.2, .int .i64 s2.1, .int .i64 s2.2.1, .int .i64 n10] r114.2).bind fun r118 =>
(asTup 2 r118.1).bind fun l119 =>
(asI .i64 (l119.getD 0 undef)).bind fun n120 =>
(asB (l119.getD 1 undef)).bind fun b121 =>
if (decide (((IntKind.i64.wrap (n120 - s2.1)) : Int) < (IntKind.i64.wrap (s2.2.1 - n120)))) = true then
((callF Try.prog 68 #[.slice u0.1 u0.2.1 u0.2.2, .int .i64 s2.1, .int .i64 n120, .int .i64 (IntKind.i64.wrap (s2.2.2.1 - 1))] r118.2).bind fun r122 =>
(asTup 0 r122.1).bind fun _ =>
some (.normal, ((IntKind.i64.wrap (n120 + 1)), s2.2.1, (IntKind.i64.wrap (s2.2.2.1 - 1)), (decide (((IntKind.i64.wrap (n120 - s2.1)) : Int) ≥ (IntKind.i64.wrap (Int.tdiv (IntKind.i64.wrap (s2.2.1 - s2.1)) 8)))), b121), r122.2))
else
((callF Try.prog 68 #[.slice u0.1 u0.2.1 u0.2.2, .int .i64 (IntKind.i64.wrap (n120 + 1)), .int .i64 s2.2.1, .int .i64 (IntKind.i64.wrap (s2.2.2.1 - 1))] r118.2).bind fun r123 =>
(asTup 0 r123.1).bind fun _ =>
some (.normal, (s2.1, n120, (IntKind.i64.wrap (s2.2.2.1 - 1)), (decide (((IntKind.i64.wrap (s2.2.1 - n120)) : Int) ≥ (IntKind.i64.wrap (Int.tdiv (IntKind.i64.wrap (s2.2.1 - s2.1)) 8)))), b121), r123.2))))
else
((callF Try.prog 92 #[.slice u0.1 u0.2.1 u0.2.2, .int .i64 s2.1, .int .i64 s2.2.1, .int .i64 n10] (World.drew r8.2)).bind fun r124 =>
(asTup 2 r124.1).bind fun l125 =>
(asI .i64 (l125.getD 0 undef)).bind fun n126 =>
(asB (l125.getD 1 undef)).bind fun b127 =>
if (decide (((IntKind.i64.wrap (n126 - s2.1)) : Int) < (IntKind.i64.wrap (s2.2.1 - n126)))) = true then
((callF Try.prog 68 #[.slice u0.1 u0.2.1 u0.2.2, .int .i64 s2.1, .int .i64 n126, .int .i64 (IntKind.i64.wrap (s2.2.2.1 - 1))] r124.2).bind fun r128 =>
(asTup 0 r128.1).bind fun _ =>
some (.normal, ((IntKind.i64.wrap (n126 + 1)), s2.2.1, (IntKind.i64.wrap (s2.2.2.1 - 1)), (decide (((IntKind.i64.wrap (n126 - s2.1)) : Int) ≥ (IntKind.i64.wrap (Int.tdiv (IntKind.i64.wrap (s2.2.1 - s2.1)) 8)))), b127), r128.2))
else
((callF Try.prog 68 #[.slice u0.1 u0.2.1 u0.2.2, .int .i64 (IntKind.i64.wrap (n126 + 1)), .int .i64 s2.2.1, .int .i64 (IntKind.i64.wrap (s2.2.2.1 - 1))] r124.2).bind fun r129 =>
(asTup 0 r129.1).bind fun _ =>
some (.normal, (s2.1, n126, (IntKind.i64.wrap (s2.2.2.1 - 1)), (decide (((IntKind.i64.wrap (s2.2.1 - n126)) : Int) ≥ (IntKind.i64.wrap (Int.tdiv (IntKind.i64.wrap (s2.2.1 - s2.1)) 8)))), b127), r129.2)))))
else
(if (decide ((s2.1 : Int) > 0)) = true then
((idxA u0.1 u0.2.1 1 (IntKind.i64.wrap (s2.1 - 1))).bind fun a130 =>
(World.cell? (World.drew r8.2) a130).bind fun v131 =>
(asI .i64 v131).bind fun n132 =>
(idxA u0.1 u0.2.1 1 n10).bind fun a133 =>
(World.cell? (World.drew r8.2) a133).bind fun v134 =>
(asI .i64 v134).bind fun n135 =>
(callF Try.prog 90 #[.int .i64 n132, .int .i64 n135] (World.drew r8.2)).bind fun r136 =>
(asB r136.1).bind fun b137 =>
if (!b137) = true then
((callF Try.prog 91 #[.slice u0.1 u0.2.1 u0.2.2, .int .i64 s2.1, .int .i64 s2.2.1, .int .i64 n10] r136.2).bind fun r138 =>
(asI .i64 r138.1).bind fun n139 =>
some (.normal, (n139, s2.2.1, (IntKind.i64.wrap (s2.2.2.1 - 1)), s2.2.2.2.1, s2.2.2.2.2), r138.2))
else
((callF Try.prog 92 #[.slice u0.1 u0.2.1 u0.2.2, .int .i64 s2.1, .int .i64 s2.2.1, .int .i64 n10] r136.2).bind fun r140 =>
(asTup 2 r140.1).bind fun l141 =>
(asI .i64 (l141.getD 0 undef)).bind fun n142 =>
(asB (l141.getD 1 undef)).bind fun b143 =>
if (decide (((IntKind.i64.wrap (n142 - s2.1)) : Int) < (IntKind.i64.wrap (s2.2.1 - n142)))) = true then
((callF Try.prog 68 #[.slice u0.1 u0.2.1 u0.2.2, .int .i64 s2.1, .int .i64 n142, .int .i64 (IntKind.i64.wrap (s2.2.2.1 - 1))] r140.2).bind fun r144 =>
(asTup 0 r144.1).bind fun _ =>
some (.normal, ((IntKind.i64.wrap (n142 + 1)), s2.2.1, (IntKind.i64.wrap (s2.2.2.1 - 1)), (decide (((IntKind.i64.wrap (n142 - s2.1)) : Int) ≥ (IntKind.i64.wrap (Int.tdiv (IntKind.i64.wrap (s2.2.1 - s2.1)) 8)))), b143), r144.2))
else
((callF Try.prog 68 #[.slice u0.1 u0.2.1 u0.2.2, .int .i64 (IntKind.i64.wrap (n142 + 1)), .int .i64 s2.2.1, .int .i64 (IntKind.i64.wrap (s2.2.2.1 - 1))] r140.2).bind fun r145 =>
(asTup 0 r145.1).bind fun _ =>
some (.normal, (s2.1, n142, (IntKind.i64.wrap (s2.2.2.1 - 1)), (decide (((IntKind.i64.wrap (s2.2.1 - n142)) : Int) ≥ (IntKind.i64.wrap (Int.tdiv (IntKind.i64.wrap (s2.2.1 - s2.1)) 8)))), b143), r145.2))))
else
((callF Try.prog 92 #[.slice u0.1 u0.2.1 u0.2.2, .int .i64 s2.1, .int .i64 s2.2.1, .int .i64 n10] (World.drew r8.2)).bind fun r146 =>
(asTup 2 r146.1).bind fun l147 =>
(asI .i64 (l147.getD 0 undef)).bind fun n148 =>
(asB (l147.getD 1 undef)).bind fun b149 =>
if (decide (((IntKind.i64.wrap (n148 - s2.1)) : Int) < (IntKind.i64.wrap (s2.2.1 - n148)))) = true then
((callF Try.prog 68 #[.slice u0.1 u0.2.1 u0.2.2, .int .i64 s2.1, .int .i64 n148, .int .i64 (IntKind.i64.wrap (s2.2.2.1 - 1))] r146.2).bind fun r150 =>
(asTup 0 r150.1).bind fun _ =>
some (.normal, ((IntKind.i64.wrap (n148 + 1)), s2.2.1, (IntKind.i64.wrap (s2.2.2.1 - 1)), (decide (((IntKind.i64.wrap (n148 - s2.1)) : Int) ≥ (IntKind.i64.wrap (Int.tdiv (IntKind.i64.wrap (s2.2.1 - s2.1)) 8)))), b149), r150.2))
else
((callF Try.prog 68 #[.slice u0.1 u0.2.1 u0.2.2, .int .i64 (IntKind.i64.wrap (n148 + 1)), .int .i64 s2.2.1, .int .i64 (IntKind.i64.wrap (s2.2.2.1 - 1))] r146.2).bind fun r151 =>
(asTup 0 r151.1).bind fun _ =>
some (.normal, (s2.1, n148, (IntKind.i64.wrap (s2.2.2.1 - 1)), (decide (((IntKind.i64.wrap (s2.2.1 - n148)) : Int) ≥ (IntKind.i64.wrap (Int.tdiv (IntKind.i64.wrap (s2.2.1 - s2.1)) 8)))), b149), r151.2)))))
else
(if (decide ((s2.1 : Int) > 0)) = true then
((idxA u0.1 u0.2.1 1 (IntKind.i64.wrap (s2.1 - 1))).bind fun a152 =>
(World.cell? (World.drew r8.2) a152).bind fun v153 =>
(asI .i64 v153).bind fun n154 =>
(idxA u0.1 u0.2.1 1 n10).bind fun a155 =>
(World.cell? (World.drew r8.2) a155).bind fun v156 =>
(asI .i64 v156).bind fun n157 =>
(callF Try.prog 90 #[.int .i64 n154, .int .i64 n157] (World.drew r8.2)).bind fun r158 =>
(asB r158.1).bind fun b159 =>
if (!b159) = true then
((callF Try.prog 91 #[.slice u0.1 u0.2.1 u0.2.2, .int .i64 s2.1, .int .i64 s2.2.1, .int .i64 n10] r158.2).bind fun r160 =>
(asI .i64 r160.1).bind fun n161 =>
some (.normal, (n161, s2.2.1, (IntKind.i64.wrap (s2.2.2.1 - 1)), s2.2.2.2.1, s2.2.2.2.2), r160.2))
else
((callF Try.prog 92 #[.slice u0.1 u0.2.1 u0.2.2, .int .i64 s2.1, .int .i64 s2.2.1, .int .i64 n10] r158.2).bind fun r162 =>
(asTup 2 r162.1).bind fun l163 =>
(asI .i64 (l163.getD 0 undef)).bind fun n164 =>
(asB (l163.getD 1 undef)).bind fun b165 =>
if (decide (((IntKind.i64.wrap (n164 - s2.1)) : Int) < (IntKind.i64.wrap (s2.2.1 - n164)))) = true then
((callF Try.prog 68 #[.slice u0.1 u0.2.1 u0.2.2, .int .i64 s2.1, .int .i64 n164, .int .i64 (IntKind.i64.wrap (s2.2.2.1 - 1))] r162.2).bind fun r166 =>
(asTup 0 r166.1).bind fun _ =>
some (.normal, ((IntKind.i64.wrap (n164 + 1)), s2.2.1, (IntKind.i64.wrap (s2.2.2.1 - 1)), (decide (((IntKind.i64.wrap (n164 - s2.1)) : Int) ≥ (IntKind.i64.wrap (Int.tdiv (IntKind.i64.wrap (s2.2.1 - s2.1)) 8)))), b165), r166.2))
else
((callF Try.prog 68 #[.slice u0.1 u0.2.1 u0.2.2, .int .i64 (IntKind.i64.wrap (n164 + 1)), .int .i64 s2.2.1, .int .i64 (IntKind.i64.wrap (s2.2.2.1 - 1))] r162.2).bind fun r167 =>
(asTup 0 r167.1).bind fun _ =>
some (.normal, (s2.1, n164, (IntKind.i64.wrap (s2.2.2.1 - 1)), (decide (((IntKind.i64.wrap (s2.2.1 - n164)) : Int) ≥ (IntKind.i64.wrap (Int.tdiv (IntKind.i64.wrap (s2.2.1 - s2.1)) 8)))), b165), r167.2))))
else
((callF Try.prog 92 #[.slice u0.1 u0.2.1 u0.2.2, .int .i64 s2.1, .int .i64 s2.2.1, .int .i64 n10] (World.drew r8.2)).bind fun r168 =>
(asTup 2 r168.1).bind fun l169 =>
(asI .i64 (l169.getD 0 undef)).bind fun n170 =>
(asB (l169.getD 1 undef)).bind fun b171 =>
if (decide (((IntKind.i64.wrap (n170 - s2.1)) : Int) < (IntKind.i64.wrap (s2.2.1 - n170)))) = true then
((callF Try.prog 68 #[.slice u0.1 u0.2.1 u0.2.2, .int .i64 s2.1, .int .i64 n170, .int .i64 (IntKind.i64.wrap (s2.2.2.1 - 1))] r168.2).bind fun r172 =>
(asTup 0 r172.1).bind fun _ =>
some (.normal, ((IntKind.i64.wrap (n170 + 1)), s2.2.1, (IntKind.i64.wrap (s2.2.2.1 - 1)), (decide (((IntKind.i64.wrap (n170 - s2.1)) : Int) ≥ (IntKind.i64.wrap (Int.tdiv (IntKind.i64.wrap (s2.2.1 - s2.1)) 8)))), b171), r172.2))
else
((callF Try.prog 68 #[.slice u0.1 u0.2.1 u0.2.2, .int .i64 (IntKind.i64.wrap (n170 + 1)), .int .i64 s2.2.1, .int .i64 (IntKind.i64.wrap (s2.2.2.1 - 1))] r168.2).bind fun r173 =>
(asTup 0 r173.1).bind fun _ =>
some (.normal, (s2.1, n170, (IntKind.i64.wrap (s2.2.2.1 - 1)), (decide (((IntKind.i64.wrap (s2.2.1 - n170)) : Int) ≥ (IntKind.i64.wrap (Int.tdiv (IntKind.i64.wrap (s2.2.1 - s2.1)) 8)))), b171), r173.2))))))
else
((callF Try.prog 87 #[.slice u0.1 u0.2.1 u0.2.2, .int .i64 s2.1, .int .i64 s2.2.1] w3).bind fun r174 =>
(asTup 2 r174.1).bind fun l175 =>
(asI .i64 (l175.getD 0 undef)).bind fun n176 =>
(asI .i64 (l175.getD 1 undef)).bind fun n177 =>
if ((n177 : Int) == 2) = true then
((callF Try.prog 88 #[.slice u0.1 u0.2.1 u0.2.2, .int .i64 s2.1, .int .i64 s2.2.1] r174.2).bind fun r179 =>
(asTup 0 r179.1).bind fun _ =>
if s2.2.2.2.1 = true then
(if s2.2.2.2.2 = true then
((callF Try.prog 89 #[.slice u0.1 u0.2.1 u0.2.2, .int .i64 s2.1, .int .i64 s2.2.1] r179.2).bind fun r181 =>
(asB r181.1).bind fun b182 =>
if b182 = true then
(some (.ret, (s2.1, s2.2.1, s2.2.2.1, s2.2.2.2.1, s2.2.2.2.2), r181.2))
else
(if (decide ((s2.1 : Int) > 0)) = true then
((idxA u0.1 u0.2.1 1 (IntKind.i64.wrap (s2.1 - 1))).bind fun a183 =>
(World.cell? (World.drew r181.2) a183).bind fun v184 =>
(asI .i64 v184).bind fun n185 =>
(idxA u0.1 u0.2.1 1 (IntKind.i64.wrap ((IntKind.i64.wrap (s2.2.1 - 1)) - (IntKind.i64.wrap (n176 - s2.1))))).bind fun a186 =>
(World.cell? (World.drew r181.2) a186).bind fun v187 =>
(asI .i64 v187).bind fun n188 =>
(callF Try.prog 90 #[.int .i64 n185, .int .i64 n188] (World.drew r181.2)).bind fun r189 =>
(asB r189.1).bind fun b190 =>
if (!b190) = true then
((callF Try.prog 91 #[.slice u0.1 u0.2.1 u0.2.2, .int .i64 s2.1, .int .i64 s2.2.1, .int .i64 (IntKind.i64.wrap ((IntKind.i64.wrap (s2.2.1 - 1)) - (IntKind.i64.wrap (n176 - s2.1))))] r189.2).bind fun r191 =>
(asI .i64 r191.1).bind fun n192 =>
some (.normal, (n192, s2.2.1, s2.2.2.1, s2.2.2.2.1, s2.2.2.2.2), r191.2))
else
((callF Try.prog 92 #[.slice u0.1 u0.2.1 u0.2.2, .int .i64 s2.1, .int .i64 s2.2.1, .int .i64 (IntKind.i64.wrap ((IntKind.i64.wrap (s2.2.1 - 1)) - (IntKind.i64.wrap (n176 - s2.1))))] r189.2).bind fun r193 =>
(asTup 2 r193.1).bind fun l194 =>
(asI .i64 (l194.getD 0 undef)).bind fun n195 =>
(asB (l194.getD 1 undef)).bind fun b196 =>
if (decide (((IntKind.i64.wrap (n195 - s2.1)) : Int) < (IntKind.i64.wrap (s2.2.1 - n195)))) = true then
((callF Try.prog 68 #[.slice u0.1 u0.2.1 u0.2.2, .int .i64 s2.1, .int .i64 n195, .int .i64 s2.2.2.1] r193.2).bind fun r197 =>
(asTup 0 r197.1).bind fun _ =>
some (.normal, ((IntKind.i64.wrap (n195 + 1)), s2.2.1, s2.2.2.1, (decide (((IntKind.i64.wrap (n195 - s2.1)) : Int) ≥ (IntKind.i64.wrap (Int.tdiv (IntKind.i64.wrap (s2.2.1 - s2.1)) 8)))), b196), r197.2))
else
((callF Try.prog 68 #[.slice u0.1 u0.2.1 u0.2.2, .int .i64 (IntKind.i64.wrap (n195 + 1)), .int .i64 s2.2.1, .int .i64 s2.2.2.1] r193.2).bind fun r198 =>
(asTup 0 r198.1).bind fun _ =>
some (.normal, (s2.1, n195, s2.2.2.1, (decide (((IntKind.i64.wrap (s2.2.1 - n195)) : Int) ≥ (IntKind.i64.wrap (Int.tdiv (IntKind.i64.wrap (s2.2.1 - s2.1)) 8)))), b196), r198.2))))
else
((callF Try.prog 92 #[.slice u0.1 u0.2.1 u0.2.2, .int .i64 s2.1, .int .i64 s2.2.1, .int .i64 (IntKind.i64.wrap ((IntKind.i64.wrap (s2.2.1 - 1)) - (IntKind.i64.wrap (n176 - s2.1))))] (World.drew r181.2)).bind fun r199 =>
(asTup 2 r199.1).bind fun l200 =>
(asI .i64 (l200.getD 0 undef)).bind fun n201 =>
(asB (l200.getD 1 undef)).bind fun b202 =>
if (decide (((IntKind.i64.wrap (n201 - s2.1)) : Int) < (IntKind.i64.wrap (s2.2.1 - n201)))) = true then
((callF Try.prog 68 #[.slice u0.1 u0.2.1 u0.2.2, .int .i64 s2.1, .int .i64 n201, .int .i64 s2.2.2.1] r199.2).bind fun r203 =>
(asTup 0 r203.1).bind fun _ =>
some (.normal, ((IntKind.i64.wrap (n201 + 1)), s2.2.1, s2.2.2.1, (decide (((IntKind.i64.wrap (n201 - s2.1)) : Int) ≥ (IntKind.i64.wrap (Int.tdiv (IntKind.i64.wrap (s2.2.1 - s2.1)) 8)))), b202), r203.2))
else
((callF Try.prog 68 #[.slice u0.1 u0.2.1 u0.2.2, .int .i64 (IntKind.i64.wrap (n201 + 1)), .int .i64 s2.2.1, .int .i64 s2.2.2.1] r199.2).bind fun r204 =>
(asTup 0 r204.1).bind fun _ =>
some (.normal, (s2.1, n201, s2.2.2.1, (decide (((IntKind.i64.wrap (s2.2.1 - n201)) : Int) ≥ (IntKind.i64.wrap (Int.tdiv (IntKind.i64.wrap (s2.2.1 - s2.1)) 8)))), b202), r204.2)))))
else
(if (decide ((s2.1 : Int) > 0)) = true then
((idxA u0.1 u0.2.1 1 (IntKind.i64.wrap (s2.1 - 1))).bind fun a205 =>
(World.cell? (World.drew r179.2) a205).bind fun v206 =>
(asI .i64 v206).bind fun n207 =>
(idxA u0.1 u0.2.1 1 (IntKind.i64.wrap ((IntKind.i64.wrap (s2.2.1 - 1)) - (IntKind.i64.wrap (n176 - s2.1))))).bind fun a208 =>
(World.cell? (World.drew r179.2) a208).bind fun v209 =>
(asI .i64 v209).bind fun n210 =>
(callF Try.prog 90 #[.int .i64 n207, .int .i64 n210] (World.drew r179.2)).bind fun r211 =>
(asB r211.1).bind fun b212 =>
if (!b212) = true then
((callF Try.prog 91 #[.slice u0.1 u0.2.1 u0.2.2, .int .i64 s2.1, .int .i64 s2.2.1, .int .i64 (IntKind.i64.wrap ((IntKind.i64.wrap (s2.2.1 - 1)) - (IntKind.i64.wrap (n176 - s2.1))))] r211.2).bind fun r213 =>
(asI .i64 r213.1).bind fun n214 =>
some (.normal, (n214, s2.2.1, s2.2.2.1, s2.2.2.2.1, s2.2.2.2.2), r213.2))
else
((callF Try.prog 92 #[.slice u0.1 u0.2.1 u0.2.2, .int .i64 s2.1, .int .i64 s2.2.1, .int .i64 (IntKind.i64.wrap ((IntKind.i64.wrap (s2.2.1 - 1)) - (IntKind.i64.wrap (n176 - s2.1))))] r211.2).bind fun r215 =>
(asTup 2 r215.1).bind fun l216 =>
(asI .i64 (l216.getD 0 undef)).bind fun n217 =>
(asB (l216.getD 1 undef)).bind fun b218 =>
if (decide (((IntKind.i64.wrap (n217 - s2.1)) : Int) < (IntKind.i64.wrap (s2.2.1 - n217)))) = true then
((callF Try.prog 68 #[.slice u0.1 u0.2.1 u0.2.2, .int .i64 s2.1, .int .i64 n217, .int .i64 s2.2.2.1] r215.2).bind fun r219 =>
(asTup 0 r219.1).bind fun _ =>
some (.normal, ((IntKind.i64.wrap (n217 + 1)), s2.2.1, s2.2.2.1, (decide (((IntKind.i64.wrap (n217 - s2.1)) : Int) ≥ (IntKind.i64.wrap (Int.tdiv (IntKind.i64.wrap (s2.2.1 - s2.1)) 8)))), b218), r219.2))
else
((callF Try.prog 68 #[.slice u0.1 u0.2.1 u0.2.2, .int .i64 (IntKind.i64.wrap (n217 + 1)), .int .i64 s2.2.1, .int .i64 s2.2.2.1] r215.2).bind fun r220 =>
(asTup 0 r220.1).bind fun _ =>
some (.normal, (s2.1, n217, s2.2.2.1, (decide (((IntKind.i64.wrap (s2.2.1 - n217)) : Int) ≥ (IntKind.i64.wrap (Int.tdiv (IntKind.i64.wrap (s2.2.1 - s2.1)) 8)))), b218), r220.2))))
else
((callF Try.prog 92 #[.slice u0.1 u0.2.1 u0.2.2, .int .i64 s2.1, .int .i64 s2.2.1, .int .i64 (IntKind.i64.wrap ((IntKind.i64.wrap (s2.2.1 - 1)) - (IntKind.i64.wrap (n176 - s2.1))))] (World.drew r179.2)).bind fun r221 =>
(asTup 2 r221.1).bind fun l222 =>
(asI .i64 (l222.getD 0 undef)).bind fun n223 =>
(asB (l222.getD 1 undef)).bind fun b224 =>
if (decide (((IntKind.i64.wrap (n223 - s2.1)) : Int) < (IntKind.i64.wrap (s2.2.1 - n223)))) = true then
((callF Try.prog 68 #[.slice u0.1 u0.2.1 u0.2.2, .int .i64 s2.1, .int .i64 n223, .int .i64 s2.2.2.1] r221.2).bind fun r225 =>
(asTup 0 r225.1).bind fun _ =>
some (.normal, ((IntKind.i64.wrap (n223 + 1)), s2.2.1, s2.2.2.1, (decide (((IntKind.i64.wrap (n223 - s2.1)) : Int) ≥ (IntKind.i64.wrap (Int.tdiv (IntKind.i64.wrap (s2.2.1 - s2.1)) 8)))), b224), r225.2))
else
((callF Try.prog 68 #[.slice u0.1 u0.2.1 u0.2.2, .int .i64 (IntKind.i64.wrap (n223 + 1)), .int .i64 s2.2.1, .int .i64 s2.2.2.1] r221.2).bind fun r226 =>
(asTup 0 r226.1).bind fun _ =>
some (.normal, (s2.1, n223, s2.2.2.1, (decide (((IntKind.i64.wrap (s2.2.1 - n223)) : Int) ≥ (IntKind.i64.wrap (Int.tdiv (IntKind.i64.wrap (s2.2.1 - s2.1)) 8)))), b224), r226.2)))))
else
(if (decide ((s2.1 : Int) > 0)) = true then
((idxA u0.1 u0.2.1 1 (IntKind.i64.wrap (s2.1 - 1))).bind fun a227 =>
(World.cell? (World.drew r179.2) a227).bind fun v228 =>
(asI .i64 v228).bind fun n229 =>
(idxA u0.1 u0.2.1 1 (IntKind.i64.wrap ((IntKind.i64.wrap (s2.2.1 - 1)) - (IntKind.i64.wrap (n176 - s2.1))))).bind fun a230 =>
(World.cell? (World.drew r179.2) a230).bind fun v231 =>
(asI .i64 v231).bind fun n232 =>
(callF Try.prog 90 #[.int .i64 n229, .int .i64 n232] (World.drew r179.2)).bind fun r233 =>
(asB r233.1).bind fun b234 =>
if (!b234) = true then
((callF Try.prog 91 #[.slice u0.1 u0.2.1 u0.2.2, .int .i64 s2.1, .int .i64 s2.2.1, .int .i64 (IntKind.i64.wrap ((IntKind.i64.wrap (s2.2.1 - 1)) - (IntKind.i64.wrap (n176 - s2.1))))] r233.2).bind fun r235 =>
(asI .i64 r235.1).bind fun n236 =>
some (.normal, (n236, s2.2.1, s2.2.2.1, s2.2.2.2.1, s2.2.2.2.2), r235.2))
else
((callF Try.prog 92 #[.slice u0.1 u0.2.1 u0.2.2, .int .i64 s2.1, .int .i64 s2.2.1, .int .i64 (IntKind.i64.wrap ((IntKind.i64.wrap (s2.2.1 - 1)) - (IntKind.i64.wrap (n176 - s2.1))))] r233.2).bind fun r237 =>
(asTup 2 r237.1).bind fun l238 =>
(asI .i64 (l238.getD 0 undef)).bind fun n239 =>
(asB (l238.getD 1 undef)).bind fun b240 =>
if (decide (((IntKind.i64.wrap (n239 - s2.1)) : Int) < (IntKind.i64.wrap (s2.2.1 - n239)))) = true then
((callF Try.prog 68 #[.slice u0.1 u0.2.1 u0.2.2, .int .i64 s2.1, .int .i64 n239, .int .i64 s2.2.2.1] r237.2).bind fun r241 =>
(asTup 0 r241.1).bind fun _ =>
some (.normal, ((IntKind.i64.wrap (n239 + 1)), s2.2.1, s2.2.2.1, (decide (((IntKind.i64.wrap (n239 - s2.1)) : Int) ≥ (IntKind.i64.wrap (Int.tdiv (IntKind.i64.wrap (s2.2.1 - s2.1)) 8)))), b240), r241.2))
else
((callF Try.prog 68 #[.slice u0.1 u0.2.1 u0.2.2, .int .i64 (IntKind.i64.wrap (n239 + 1)), .int .i64 s2.2.1, .int .i64 s2.2.2.1] r237.2).bind fun r242 =>
(asTup 0 r242.1).bind fun _ =>
some (.normal, (s2.1, n239, s2.2.2.1, (decide (((IntKind.i64.wrap (s2.2.1 - n239)) : Int) ≥ (IntKind.i64.wrap (Int.tdiv (IntKind.i64.wrap (s2.2.1 - s2.1)) 8)))), b240), r242.2))))
else
((callF Try.prog 92 #[.slice u0.1 u0.2.1 u0.2.2, .int .i64 s2.1, .int .i64 s2.2.1, .int .i64 (IntKind.i64.wrap ((IntKind.i64.wrap (s2.2.1 - 1)) - (IntKind.i64.wrap (n176 - s2.1))))] (World.drew r179.2)).bind fun r243 =>
(asTup 2 r243.1).bind fun l244 =>
(asI .i64 (l244.getD 0 undef)).bind fun n245 =>
(asB (l244.getD 1 undef)).bind fun b246 =>
if (decide (((IntKind.i64.wrap (n245 - s2.1)) : Int) < (IntKind.i64.wrap (s2.2.1 - n245)))) = true then
((callF Try.prog 68 #[.slice u0.1 u0.2.1 u0.2.2, .int .i64 s2.1, .int .i64 n245, .int .i64 s2.2.2.1] r243.2).bind fun r247 =>
(asTup 0 r247.1).bind fun _ =>
some (.normal, ((IntKind.i64.wrap (n245 + 1)), s2.2.1, s2.2.2.1, (decide (((IntKind.i64.wrap (n245 - s2.1)) : Int) ≥ (IntKind.i64.wrap (Int.tdiv (IntKind.i64.wrap (s2.2.1 - s2.1)) 8)))), b246), r247.2))
else
((callF Try.prog 68 #[.slice u0.1 u0.2.1 u0.2.2, .int .i64 (IntKind.i64.wrap (n245 + 1)), .int .i64 s2.2.1, .int .i64 s2.2.2.1] r243.2).bind fun r248 =>
(asTup 0 r248.1).bind fun _ =>
some (.normal, (s2.1, n245, s2.2.2.1, (decide (((IntKind.i64.wrap (s2.2.1 - n245)) : Int) ≥ (IntKind.i64.wrap (Int.tdiv (IntKind.i64.wrap (s2.2.1 - s2.1)) 8)))), b246), r248.2)))))
else
(if s2.2.2.2.1 = true then
(if s2.2.2.2.2 = true then
(if ((n177 : Int) == 1) = true then
((callF Try.prog 89 #[.slice u0.1 u0.2.1 u0.2.2, .int .i64 s2.1, .int .i64 s2.2.1] r174.2).bind fun r250 =>
(asB r250.1).bind fun b251 =>
if b251 = true then
(some (.ret, (s2.1, s2.2.1, s2.2.2.1, s2.2.2.2.1, s2.2.2.2.2), r250.2))
else
(if (decide ((s2.1 : Int) > 0)) = true then
((idxA u0.1 u0.2.1 1 (IntKind.i64.wrap (s2.1 - 1))).bind fun a252 =>
(World.cell? (World.drew r250.2) a252).bind fun v253 =>
(asI .i64 v253).bind fun n254 =>
(idxA u0.1 u0.2.1 1 n176).bind fun a255 =>
(World.cell? (World.drew r250.2) a255).bind fun v256 =>
(asI .i64 v256).bind fun n257 =>
(callF Try.prog 90 #[.int .i64 n254, .int .i64 n257] (World.drew r250.2)).bind fun r258 =>
(asB r258.1).bind fun b259 =>
if (!b259) = true then
((callF Try.prog 91 #[.slice u0.1 u0.2.1 u0.2.2, .int .i64 s2.1, .int .i64 s2.2.1, .int .i64 n176] r258.2).bind fun r260 =>
(asI .i64 r260.1).bind fun n261 =>
some (.normal, (n261, s2.2.1, s2.2.2.1, s2.2.2.2.1, s2.2.2.2.2), r260.2))
else
((callF Try.prog 92 #[.slice u0.1 u0.2.1 u0.2.2, .int .i64 s2.1, .int .i64 s2.2.1, .int .i64 n176] r258.2).bind fun r262 =>
(asTup 2 r262.1).bind fun l263 =>
(asI .i64 (l263.getD 0 undef)).bind fun n264 =>
(asB (l263.getD 1 undef)).bind fun b265 =>
if (decide (((IntKind.i64.wrap (n264 - s2.1)) : Int) < (IntKind.i64.wrap (s2.2.1 - n264)))) = true then
((callF Try.prog 68 #[.slice u0.1 u0.2.1 u0.2.2, .int .i64 s2.1, .int .i64 n264, .int .i64 s2.2.2.1] r262.2).bind fun r266 =>
(asTup 0 r266.1).bind fun _ =>
some (.normal, ((IntKind.i64.wrap (n264 + 1)), s2.2.1, s2.2.2.1, (decide (((IntKind.i64.wrap (n264 - s2.1)) : Int) ≥ (IntKind.i64.wrap (Int.tdiv (IntKind.i64.wrap (s2.2.1 - s2.1)) 8)))), b265), r266.2))
else
((callF Try.prog 68 #[.slice u0.1 u0.2.1 u0.2.2, .int .i64 (IntKind.i64.wrap (n264 + 1)), .int .i64 s2.2.1, .int .i64 s2.2.2.1] r262.2).bind fun r267 =>
(asTup 0 r267.1).bind fun _ =>
some (.normal, (s2.1, n264, s2.2.2.1, (decide (((IntKind.i64.wrap (s2.2.1 - n264)) : Int) ≥ (IntKind.i64.wrap (Int.tdiv (IntKind.i64.wrap (s2.2.1 - s2.1)) 8)))), b265), r267.2))))
else
((callF Try.prog 92 #[.slice u0.1 u0.2.1 u0.2.2, .int .i64 s2.1, .int .i64 s2.2.1, .int .i64 n176] (World.drew r250.2)).bind fun r268 =>
(asTup 2 r268.1).bind fun l269 =>
(asI .i64 (l269.getD 0 undef)).bind fun n270 =>
(asB (l269.getD 1 undef)).bind fun b271 =>
if (decide (((IntKind.i64.wrap (n270 - s2.1)) : Int) < (IntKind.i64.wrap (s2.2.1 - n270)))) = true then
((callF Try.prog 68 #[.slice u0.1 u0.2.1 u0.2.2, .int .i64 s2.1, .int .i64 n270, .int .i64 s2.2.2.1] r268.2).bind fun r272 =>
(asTup 0 r272.1).bind fun _ =>
some (.normal, ((IntKind.i64.wrap (n270 + 1)), s2.2.1, s2.2.2.1, (decide (((IntKind.i64.wrap (n270 - s2.1)) : Int) ≥ (IntKind.i64.wrap (Int.tdiv (IntKind.i64.wrap (s2.2.1 - s2.1)) 8)))), b271), r272.2))
else
((callF Try.prog 68 #[.slice u0.1 u0.2.1 u0.2.2, .int .i64 (IntKind.i64.wrap (n270 + 1)), .int .i64 s2.2.1, .int .i64 s2.2.2.1] r268.2).bind fun r273 =>
(asTup 0 r273.1).bind fun _ =>
some (.normal, (s2.1, n270, s2.2.2.1, (decide (((IntKind.i64.wrap (s2.2.1 - n270)) : Int) ≥ (IntKind.i64.wrap (Int.tdiv (IntKind.i64.wrap (s2.2.1 - s2.1)) 8)))), b271), r273.2)))))
else
(if (decide ((s2.1 : Int) > 0)) = true then
((idxA u0.1 u0.2.1 1 (IntKind.i64.wrap (s2.1 - 1))).bind fun a274 =>
(World.cell? (World.drew r174.2) a274).bind fun v275 =>
(asI .i64 v275).bind fun n276 =>
(idxA u0.1 u0.2.1 1 n176).bind fun a277 =>
(World.cell? (World.drew r174.2) a277).bind fun v278 =>
(asI .i64 v278).bind fun n279 =>
(callF Try.prog 90 #[.int .i64 n276, .int .i64 n279] (World.drew r174.2)).bind fun r280 =>
(asB r280.1).bind fun b281 =>
if (!b281) = true then
((callF Try.prog 91 #[.slice u0.1 u0.2.1 u0.2.2, .int .i64 s2.1, .int .i64 s2.2.1, .int .i64 n176] r280.2).bind fun r282 =>
(asI .i64 r282.1).bind fun n283 =>
some (.normal, (n283, s2.2.1, s2.2.2.1, s2.2.2.2.1, s2.2.2.2.2), r282.2))
else
((callF Try.prog 92 #[.slice u0.1 u0.2.1 u0.2.2, .int .i64 s2.1, .int .i64 s2.2.1, .int .i64 n176] r280.2).bind fun r284 =>
(asTup 2 r284.1).bind fun l285 =>
(asI .i64 (l285.getD 0 undef)).bind fun n286 =>
(asB (l285.getD 1 undef)).bind fun b287 =>
if (decide (((IntKind.i64.wrap (n286 - s2.1)) : Int) < (IntKind.i64.wrap (s2.2.1 - n286)))) = true then
((callF Try.prog 68 #[.slice u0.1 u0.2.1 u0.2.2, .int .i64 s2.1, .int .i64 n286, .int .i64 s2.2.2.1] r284.2).bind fun r288 =>
(asTup 0 r288.1).bind fun _ =>
some (.normal, ((IntKind.i64.wrap (n286 + 1)), s2.2.1, s2.2.2.1, (decide (((IntKind.i64.wrap (n286 - s2.1)) : Int) ≥ (IntKind.i64.wrap (Int.tdiv (IntKind.i64.wrap (s2.2.1 - s2.1)) 8)))), b287), r288.2))
else
((callF Try.prog 68 #[.slice u0.1 u0.2.1 u0.2.2, .int .i64 (IntKind.i64.wrap (n286 + 1)), .int .i64 s2.2.1, .int .i64 s2.2.2.1] r284.2).bind fun r289 =>
(asTup 0 r289.1).bind fun _ =>
some (.normal, (s2.1, n286, s2.2.2.1, (decide (((IntKind.i64.wrap (s2.2.1 - n286)) : Int) ≥ (IntKind.i64.wrap (Int.tdiv (IntKind.i64.wrap (s2.2.1 - s2.1)) 8)))), b287), r289.2))))
else
((callF Try.prog 92 #[.slice u0.1 u0.2.1 u0.2.2, .int .i64 s2.1, .int .i64 s2.2.1, .int .i64 n176] (World.drew r174.2)).bind fun r290 =>
(asTup 2 r290.1).bind fun l291 =>
(asI .i64 (l291.getD 0 undef)).bind fun n292 =>
(asB (l291.getD 1 undef)).bind fun b293 =>
if (decide (((IntKind.i64.wrap (n292 - s2.1)) : Int) < (IntKind.i64.wrap (s2.2.1 - n292)))) = true then
((callF Try.prog 68 #[.slice u0.1 u0.2.1 u0.2.2, .int .i64 s2.1, .int .i64 n292, .int .i64 s2.2.2.1] r290.2).bind fun r294 =>
(asTup 0 r294.1).bind fun _ =>
some (.normal, ((IntKind.i64.wrap (n292 + 1)), s2.2.1, s2.2.2.1, (decide (((IntKind.i64.wrap (n292 - s2.1)) : Int) ≥ (IntKind.i64.wrap (Int.tdiv (IntKind.i64.wrap (s2.2.1 - s2.1)) 8)))), b293), r294.2))
else
((callF Try.prog 68 #[.slice u0.1 u0.2.1 u0.2.2, .int .i64 (IntKind.i64.wrap (n292 + 1)), .int .i64 s2.2.1, .int .i64 s2.2.2.1] r290.2).bind fun r295 =>
(asTup 0 r295.1).bind fun _ =>
some (.normal, (s2.1, n292, s2.2.2.1, (decide (((IntKind.i64.wrap (s2.2.1 - n292)) : Int) ≥ (IntKind.i64.wrap (Int.tdiv (IntKind.i64.wrap (s2.2.1 - s2.1)) 8)))), b293), r295.2)))))
else
(if (decide ((s2.1 : Int) > 0)) = true then
((idxA u0.1 u0.2.1 1 (IntKind.i64.wrap (s2.1 - 1))).bind fun a296 =>
(World.cell? (World.drew r174.2) a296).bind fun v297 =>
(asI .i64 v297).bind fun n298 =>
(idxA u0.1 u0.2.1 1 n176).bind fun a299 =>
(World.cell? (World.drew r174.2) a299).bind fun v300 =>
(asI .i64 v300).bind fun n301 =>
(callF Try.prog 90 #[.int .i64 n298, .int .i64 n301] (World.drew r174.2)).bind fun r302 =>
(asB r302.1).bind fun b303 =>
if (!b303) = true then
((callF Try.prog 91 #[.slice u0.1 u0.2.1 u0.2.2, .int .i64 s2.1, .int .i64 s2.2.1, .int .i64 n176] r302.2).bind fun r304 =>
(asI .i64 r304.1).bind fun n305 =>
some (.normal, (n305, s2.2.1, s2.2.2.1, s2.2.2.2.1, s2.2.2.2.2), r304.2))
else
((callF Try.prog 92 #[.slice u0.1 u0.2.1 u0.2.2, .int .i64 s2.1, .int .i64 s2.2.1, .int .i64 n176] r302.2).bind fun r306 =>
(asTup 2 r306.1).bind fun l307 =>
(asI .i64 (l307.getD 0 undef)).bind fun n308 =>
(asB (l307.getD 1 undef)).bind fun b309 =>
if (decide (((IntKind.i64.wrap (n308 - s2.1)) : Int) < (IntKind.i64.wrap (s2.2.1 - n308)))) = true then
((callF Try.prog 68 #[.slice u0.1 u0.2.1 u0.2.2, .int .i64 s2.1, .int .i64 n308, .int .i64 s2.2.2.1] r306.2).bind fun r310 =>
(asTup 0 r310.1).bind fun _ =>
some (.normal, ((IntKind.i64.wrap (n308 + 1)), s2.2.1, s2.2.2.1, (decide (((IntKind.i64.wrap (n308 - s2.1)) : Int) ≥ (IntKind.i64.wrap (Int.tdiv (IntKind.i64.wrap (s2.2.1 - s2.1)) 8)))), b309), r310.2))
else
((callF Try.prog 68 #[.slice u0.1 u0.2.1 u0.2.2, .int .i64 (IntKind.i64.wrap (n308 + 1)), .int .i64 s2.2.1, .int .i64 s2.2.2.1] r306.2).bind fun r311 =>
(asTup 0 r311.1).bind fun _ =>
some (.normal, (s2.1, n308, s2.2.2.1, (decide (((IntKind.i64.wrap (s2.2.1 - n308)) : Int) ≥ (IntKind.i64.wrap (Int.tdiv (IntKind.i64.wrap (s2.2.1 - s2.1)) 8)))), b309), r311.2))))
else
((callF Try.prog 92 #[.slice u0.1 u0.2.1 u0.2.2, .int .i64 s2.1, .int .i64 s2.2.1, .int .i64 n176] (World.drew r174.2)).bind fun r312 =>
(asTup 2 r312.1).bind fun l313 =>
(asI .i64 (l313.getD 0 undef)).bind fun n314 =>
(asB (l313.getD 1 undef)).bind fun b315 =>
if (decide (((IntKind.i64.wrap (n314 - s2.1)) : Int) < (IntKind.i64.wrap (s2.2.1 - n314)))) = true then
((callF Try.prog 68 #[.slice u0.1 u0.2.1 u0.2.2, .int .i64 s2.1, .int .i64 n314, .int .i64 s2.2.2.1] r312.2).bind fun r316 =>
(asTup 0 r316.1).bind fun _ =>
some (.normal, ((IntKind.i64.wrap (n314 + 1)), s2.2.1, s2.2.2.1, (decide (((IntKind.i64.wrap (n314 - s2.1)) : Int) ≥ (IntKind.i64.wrap (Int.tdiv (IntKind.i64.wrap (s2.2.1 - s2.1)) 8)))), b315), r316.2))
else
((callF Try.prog 68 #[.slice u0.1 u0.2.1 u0.2.2, .int .i64 (IntKind.i64.wrap (n314 + 1)), .int .i64 s2.2.1, .int .i64 s2.2.2.1] r312.2).bind fun r317 =>
(asTup 0 r317.1).bind fun _ =>
some (.normal, (s2.1, n314, s2.2.2.1, (decide (((IntKind.i64.wrap (s2.2.1 - n314)) : Int) ≥ (IntKind.i64.wrap (Int.tdiv (IntKind.i64.wrap (s2.2.1 - s2.1)) 8)))), b315), r317.2)))))
else
(if (decide ((s2.1 : Int) > 0)) = true then
((idxA u0.1 u0.2.1 1 (IntKind.i64.wrap (s2.1 - 1))).bind fun a318 =>
(World.cell? (World.drew r174.2) a318).bind fun v319 =>
(asI .i64 v319).bind fun n320 =>
(idxA u0.1 u0.2.1 1 n176).bind fun a321 =>
(World.cell? (World.drew r174.2) a321).bind fun v322 =>
(asI .i64 v322).bind fun n323 =>
(callF Try.prog 90 #[.int .i64 n320, .int .i64 n323] (World.drew r174.2)).bind fun r324 =>
(asB r324.1).bind fun b325 =>
if (!b325) = true then
((callF Try.prog 91 #[.slice u0.1 u0.2.1 u0.2.2, .int .i64 s2.1, .int .i64 s2.2.1, .int .i64 n176] r324.2).bind fun r326 =>
(asI .i64 r326.1).bind fun n327 =>
some (.normal, (n327, s2.2.1, s2.2.2.1, s2.2.2.2.1, s2.2.2.2.2), r326.2))
else
((callF Try.prog 92 #[.slice u0.1 u0.2.1 u0.2.2, .int .i64 s2.1, .int .i64 s2.2.1, .int .i64 n176] r324.2).bind fun r328 =>
(asTup 2 r328.1).bind fun l329 =>
(asI .i64 (l329.getD 0 undef)).bind fun n330 =>
(asB (l329.getD 1 undef)).bind fun b331 =>
if (decide (((IntKind.i64.wrap (n330 - s2.1)) : Int) < (IntKind.i64.wrap (s2.2.1 - n330)))) = true then
((callF Try.prog 68 #[.slice u0.1 u0.2.1 u0.2.2, .int .i64 s2.1, .int .i64 n330, .int .i64 s2.2.2.1] r328.2).bind fun r332 =>
(asTup 0 r332.1).bind fun _ =>
some (.normal, ((IntKind.i64.wrap (n330 + 1)), s2.2.1, s2.2.2.1, (decide (((IntKind.i64.wrap (n330 - s2.1)) : Int) ≥ (IntKind.i64.wrap (Int.tdiv (IntKind.i64.wrap (s2.2.1 - s2.1)) 8)))), b331), r332.2))
else
((callF Try.prog 68 #[.slice u0.1 u0.2.1 u0.2.2, .int .i64 (IntKind.i64.wrap (n330 + 1)), .int .i64 s2.2.1, .int .i64 s2.2.2.1] r328.2).bind fun r333 =>
(asTup 0 r333.1).bind fun _ =>
some (.normal, (s2.1, n330, s2.2.2.1, (decide (((IntKind.i64.wrap (s2.2.1 - n330)) : Int) ≥ (IntKind.i64.wrap (Int.tdiv (IntKind.i64.wrap (s2.2.1 - s2.1)) 8)))), b331), r333.2))))
else
((callF Try.prog 92 #[.slice u0.1 u0.2.1 u0.2.2, .int .i64 s2.1, .int .i64 s2.2.1, .int .i64 n176] (World.drew r174.2)).bind fun r334 =>
(asTup 2 r334.1).bind fun l335 =>
(asI .i64 (l335.getD 0 undef)).bind fun n336 =>
(asB (l335.getD 1 undef)).bind fun b337 =>
if (decide (((IntKind.i64.wrap (n336 - s2.1)) : Int) < (IntKind.i64.wrap (s2.2.1 - n336)))) = true then
((callF Try.prog 68 #[.slice u0.1 u0.2.1 u0.2.2, .int .i64 s2.1, .int .i64 n336, .int .i64 s2.2.2.1] r334.2).bind fun r338 =>
(asTup 0 r338.1).bind fun _ =>
some (.normal, ((IntKind.i64.wrap (n336 + 1)), s2.2.1, s2.2.2.1, (decide (((IntKind.i64.wrap (n336 - s2.1)) : Int) ≥ (IntKind.i64.wrap (Int.tdiv (IntKind.i64.wrap (s2.2.1 - s2.1)) 8)))), b337), r338.2))
else
((callF Try.prog 68 #[.slice u0.1 u0.2.1 u0.2.2, .int .i64 (IntKind.i64.wrap (n336 + 1)), .int .i64 s2.2.1, .int .i64 s2.2.2.1] r334.2).bind fun r339 =>
(asTup 0 r339.1).bind fun _ =>
some (.normal, (s2.1, n336, s2.2.2.1, (decide (((IntKind.i64.wrap (s2.2.1 - n336)) : Int) ≥ (IntKind.i64.wrap (Int.tdiv (IntKind.i64.wrap (s2.2.1 - s2.1)) 8)))), b337), r339.2))))))))

noncomputable def g68_K340  : Exit → Env → World → Option (Value × World) :=
  retK Try.prog Try.f68.results.toList

noncomputable def g68_K341  : Exit → Env → World → Option (Value × World) :=
  blkK 0 g68_K340

/-- the loop, from a state on -/
noncomputable def g68_l1 (u0 : Option Addr × Nat × Nat) (s : Int × Int × Int × Bool × Bool) (w : World) : Option (Value × World) :=
  loopM Try.prog 134 68 g68_ann (cAt [1, 1, 0, 0] (bodyOf Try.f68)) [0, 1, 1] g68_K341 ((g68_l1_cs u0) ++ sputs [(1, .i .i64), (2, .i .i64), (3, .i .i64), (8, .b), (9, .b)] s) w

/-- behind the loop, left by ret -/
noncomputable def g68_l1_ret  (t342 : Int × Int × Int × Bool × Bool) (w343 : World) : Option (Value × World) :=
some (.tuple #[], w343)

noncomputable def g68 (u0 : Option Addr × Nat × Nat) (u1 : Int) (u2 : Int) (u3 : Int) (w0 : World) : Option (Value × World) :=
g68_l1 u0 (u1, u2, u3, true, true) w0

theorem g68_eq (u0 : Option Addr × Nat × Nat) (u1 : Int) (u2 : Int) (u3 : Int) (w0 : World) : evFn Try.prog 68 g68_ann #[.slice u0.1 u0.2.1 u0.2.2, .int .i64 u1, .int .i64 u2, .int .i64 u3] w0 = g68 u0 u1 u2 u3 w0 := by kernel_rfl

theorem g68_call {u0 : Option Addr × Nat × Nat} {u1 : Int} {u2 : Int} {u3 : Int} {w0 : World} {r : Value × World} (h : g68 u0 u1 u2 u3 w0 = some r) : callF Try.prog 68 #[.slice u0.1 u0.2.1 u0.2.2, .int .i64 u1, .int .i64 u2, .int .i64 u3] w0 = some r :=
  callF_of_evFn (ann := g68_ann) Try.call68 (by kernel_rfl) ((g68_eq u0 u1 u2 u3 w0).trans h)

theorem g68_l1_ret_of {u0 : Option Addr × Nat × Nat} {s t : Int × Int × Int × Bool × Bool} {w w' : World} (h : loopS (g68_l1_b u0) s w = some (.ret, t, w')) : g68_l1 u0 s w = g68_l1_ret t w' := by
  have h1 : g68_l1 u0 s w = loopM Try.prog 134 68 g68_ann (cAt [1, 1, 0, 0] (bodyOf Try.f68)) [0, 1, 1] g68_K341 ((g68_l1_cs u0) ++ sputs [(1, .i .i64), (2, .i .i64), (3, .i .i64), (8, .b), (9, .b)] s) w := by kernel_rfl
  have h2 : loopM Try.prog 134 68 g68_ann (cAt [1, 1, 0, 0] (bodyOf Try.f68)) [0, 1, 1] g68_K341 ((g68_l1_cs u0) ++ sputs [(1, .i .i64), (2, .i .i64), (3, .i .i64), (8, .b), (9, .b)] s) w = g68_K341 (.ret) (puts 134 ((g68_l1_cs u0) ++ sputs [(1, .i .i64), (2, .i .i64), (3, .i .i64), (8, .b), (9, .b)] t)) w' :=
    loop_rule (P := Try.prog) (N := 134) (f := 68) (ann := g68_ann) (body := (cAt [1, 1, 0, 0] (bodyOf Try.f68))) (pt := [0, 1, 1]) (K := g68_K341) (g68_l1_cs u0) [(1, .i .i64), (2, .i .i64), (3, .i .i64), (8, .b), (9, .b)] (b := g68_l1_b u0) (fun s w => by kernel_rfl) (by kernel_rfl) (by kernel_rfl) (by kernel_rfl) h
  have h3 : g68_K341 (.ret) (puts 134 ((g68_l1_cs u0) ++ sputs [(1, .i .i64), (2, .i .i64), (3, .i .i64), (8, .b), (9, .b)] t)) w' = g68_l1_ret t w' := by kernel_rfl
  exact h1.trans (h2.trans h3)

/-! 69: math/bits.Len (x: uint) -/
def g69_ann : List (List Nat × List Nat) := []

noncomputable def g69 (u0 : Int) (w0 : World) : Option (Value × World) :=
(callF Try.prog 94 #[.int .u64 u0] w0).bind fun r1 =>
(asI .i64 r1.1).bind fun n2 =>
some (.int .i64 n2, r1.2)

theorem g69_eq (u0 : Int) (w0 : World) : evFn Try.prog 69 g69_ann #[.int .u64 u0] w0 = g69 u0 w0 := by kernel_rfl

theorem g69_call {u0 : Int} {w0 : World} {r : Value × World} (h : g69 u0 w0 = some r) : callF Try.prog 69 #[.int .u64 u0] w0 = some r :=
  callF_of_evFn (ann := g69_ann) Try.call69 (by kernel_rfl) ((g69_eq u0 w0).trans h)

/-! 84: slices.insertionSortOrdered[int] (data: []int, a: int, b: int) -/
def g84_ann : List (List Nat × List Nat) := [([0, 1], [0, 1, 2, 6]), ([0, 1, 0, 0, 1, 0, 0, 1], [0, 1, 2, 6, 7])]

def g84_l1_cs (u0 : Option Addr × Nat × Nat) (u1 : Int) (u2 : Int) : List (Nat × Value) := ([(0, .slice u0.1 u0.2.1 u0.2.2), (1, .int .i64 u1), (2, .int .i64 u2)] : List (Nat × Value))

def g84_l4_cs (u0 : Option Addr × Nat × Nat) (u1 : Int) (u2 : Int) (s2 : Int) : List (Nat × Value) := ([(0, .slice u0.1 u0.2.1 u0.2.2), (1, .int .i64 u1), (2, .int .i64 u2), (6, .int .i64 s2)] : List (Nat × Value))

/-- the round of a loop (slices.insertionSortOrdered[int]) -/
noncomputable def g84_l4_b (u1 : Int) (u0 : Option Addr × Nat × Nat) (u2 : Int) (s2 : Int) (s5 : Int) (w6 : World) : Option (Exit × (Int) × World) :=
if (decide ((s5 : Int) > u1)) = true then
((idxA u0.1 u0.2.1 1 s5).bind fun a7 =>
(World.cell? (World.drew w6) a7).bind fun v8 =>
(asI .i64 v8).bind fun n9 =>
(idxA u0.1 u0.2.1 1 (IntKind.i64.wrap (s5 - 1))).bind fun a10 =>
(World.cell? (World.drew w6) a10).bind fun v11 =>
(asI .i64 v11).bind fun n12 =>
(callF Try.prog 90 #[.int .i64 n9, .int .i64 n12] (World.drew w6)).bind fun r13 =>
(asB r13.1).bind fun b14 =>
if b14 = true then
((idxA u0.1 u0.2.1 1 (IntKind.i64.wrap (s5 - 1))).bind fun a15 =>
(World.cell? (World.drew r13.2) a15).bind fun v16 =>
(asI .i64 v16).bind fun n17 =>
(idxA u0.1 u0.2.1 1 s5).bind fun a18 =>
(World.cell? (World.drew r13.2) a18).bind fun v19 =>
(asI .i64 v19).bind fun n20 =>
(idxA u0.1 u0.2.1 1 s5).bind fun a21 =>
(st1 (World.drew r13.2) a21 (.int .i64 n17)).bind fun w22 =>
(idxA u0.1 u0.2.1 1 (IntKind.i64.wrap (s5 - 1))).bind fun a23 =>
(st1 w22 a23 (.int .i64 n20)).bind fun w24 =>
some (.normal, (IntKind.i64.wrap (s5 - 1)), w24))
else
(some ((.exit 2), s5, r13.2)))
else
(some ((.exit 2), s5, (World.drew w6)))

noncomputable def g84_K25 (u0 : Option Addr × Nat × Nat) (u1 : Int) (u2 : Int) : Exit → Env → World → Option (Exit × (Int) × World) :=
  fun e ρ w => ((List.map (·.1) (g84_l1_cs u0 u1 u2)).mapM ρ).bind fun _ => loopK [(6, .i .i64)] e ρ w

noncomputable def g84_K26 (u0 : Option Addr × Nat × Nat) (u1 : Int) (u2 : Int) : Exit → Env → World → Option (Exit × (Int) × World) :=
  seqK (ev Try.prog 49 84 g84_ann (cAt [1, 0, 0, 1, 1] (bodyOf Try.f84)) [1, 1, 0, 0, 1] (g84_K25 u0 u1 u2)) (g84_K25 u0 u1 u2)

noncomputable def g84_K27 (u0 : Option Addr × Nat × Nat) (u1 : Int) (u2 : Int) : Exit → Env → World → Option (Exit × (Int) × World) :=
  blkK 1 (g84_K26 u0 u1 u2)

noncomputable def g84_K28 (u0 : Option Addr × Nat × Nat) (u1 : Int) (u2 : Int) : Exit → Env → World → Option (Exit × (Int) × World) :=
  blkK 2 (g84_K27 u0 u1 u2)

/-- the loop, from a state on -/
noncomputable def g84_l4 (u0 : Option Addr × Nat × Nat) (u1 : Int) (u2 : Int) (s2 : Int) (s : Int) (w : World) : Option (Exit × (Int) × World) :=
  loopM Try.prog 49 84 g84_ann (cAt [1, 0, 0, 1, 0, 0, 1, 0, 0] (bodyOf Try.f84)) [0, 1, 0, 0, 1, 0, 0, 1] (g84_K28 u0 u1 u2) ((g84_l4_cs u0 u1 u2 s2) ++ sputs [(7, .i .i64)] s) w

/-- behind the loop, left by x2 -/
noncomputable def g84_l4_x2 (s2 : Int) (t29 : Int) (w30 : World) : Option (Exit × (Int) × World) :=
some (.normal, (IntKind.i64.wrap (s2 + 1)), w30)

/-- the round of a loop (slices.insertionSortOrdered[int]) -/
noncomputable def g84_l1_b (u2 : Int) (u0 : Option Addr × Nat × Nat) (u1 : Int) (s2 : Int) (w3 : World) : Option (Exit × (Int) × World) :=
if (decide ((s2 : Int) < u2)) = true then
(g84_l4 u0 u1 u2 s2 s2 w3)
else
(some ((.exit 0), s2, w3))

noncomputable def g84_K31  : Exit → Env → World → Option (Value × World) :=
  retK Try.prog Try.f84.results.toList

noncomputable def g84_K32  : Exit → Env → World → Option (Value × World) :=
  blkK 0 g84_K31

/-- the loop, from a state on -/
noncomputable def g84_l1 (u0 : Option Addr × Nat × Nat) (u1 : Int) (u2 : Int) (s : Int) (w : World) : Option (Value × World) :=
  loopM Try.prog 49 84 g84_ann (cAt [1, 0, 0] (bodyOf Try.f84)) [0, 1] g84_K32 ((g84_l1_cs u0 u1 u2) ++ sputs [(6, .i .i64)] s) w

/-- behind the loop, left by x0 -/
noncomputable def g84_l1_x0  (t33 : Int) (w34 : World) : Option (Value × World) :=
some (.tuple #[], w34)

noncomputable def g84 (u0 : Option Addr × Nat × Nat) (u1 : Int) (u2 : Int) (w0 : World) : Option (Value × World) :=
g84_l1 u0 u1 u2 (IntKind.i64.wrap (u1 + 1)) w0

theorem g84_eq (u0 : Option Addr × Nat × Nat) (u1 : Int) (u2 : Int) (w0 : World) : evFn Try.prog 84 g84_ann #[.slice u0.1 u0.2.1 u0.2.2, .int .i64 u1, .int .i64 u2] w0 = g84 u0 u1 u2 w0 := by kernel_rfl

theorem g84_call {u0 : Option Addr × Nat × Nat} {u1 : Int} {u2 : Int} {w0 : World} {r : Value × World} (h : g84 u0 u1 u2 w0 = some r) : callF Try.prog 84 #[.slice u0.1 u0.2.1 u0.2.2, .int .i64 u1, .int .i64 u2] w0 = some r :=
  callF_of_evFn (ann := g84_ann) Try.call84 (by kernel_rfl) ((g84_eq u0 u1 u2 w0).trans h)

theorem g84_l4_x2_of {u0 : Option Addr × Nat × Nat} {u1 : Int} {u2 : Int} {s2 : Int} {s t : Int} {w w' : World} (h : loopS (g84_l4_b u1 u0 u2 s2) s w = some (.exit 2, t, w')) : g84_l4 u0 u1 u2 s2 s w = g84_l4_x2 s2 t w' := by
  have h1 : g84_l4 u0 u1 u2 s2 s w = loopM Try.prog 49 84 g84_ann (cAt [1, 0, 0, 1, 0, 0, 1, 0, 0] (bodyOf Try.f84)) [0, 1, 0, 0, 1, 0, 0, 1] (g84_K28 u0 u1 u2) ((g84_l4_cs u0 u1 u2 s2) ++ sputs [(7, .i .i64)] s) w := by kernel_rfl
  have h2 : loopM Try.prog 49 84 g84_ann (cAt [1, 0, 0, 1, 0, 0, 1, 0, 0] (bodyOf Try.f84)) [0, 1, 0, 0, 1, 0, 0, 1] (g84_K28 u0 u1 u2) ((g84_l4_cs u0 u1 u2 s2) ++ sputs [(7, .i .i64)] s) w = (g84_K28 u0 u1 u2) (.exit 2) (puts 49 ((g84_l4_cs u0 u1 u2 s2) ++ sputs [(7, .i .i64)] t)) w' :=
    loop_rule (P := Try.prog) (N := 49) (f := 84) (ann := g84_ann) (body := (cAt [1, 0, 0, 1, 0, 0, 1, 0, 0] (bodyOf Try.f84))) (pt := [0, 1, 0, 0, 1, 0, 0, 1]) (K := (g84_K28 u0 u1 u2)) (g84_l4_cs u0 u1 u2 s2) [(7, .i .i64)] (b := g84_l4_b u1 u0 u2 s2) (fun s w => by kernel_rfl) (by kernel_rfl) (by kernel_rfl) (by kernel_rfl) h
  have h3 : (g84_K28 u0 u1 u2) (.exit 2) (puts 49 ((g84_l4_cs u0 u1 u2 s2) ++ sputs [(7, .i .i64)] t)) w' = g84_l4_x2 s2 t w' := by kernel_rfl
  exact h1.trans (h2.trans h3)

theorem g84_l1_x0_of {u0 : Option Addr × Nat × Nat} {u1 : Int} {u2 : Int} {s t : Int} {w w' : World} (h : loopS (g84_l1_b u2 u0 u1) s w = some (.exit 0, t, w')) : g84_l1 u0 u1 u2 s w = g84_l1_x0 t w' := by
  have h1 : g84_l1 u0 u1 u2 s w = loopM Try.prog 49 84 g84_ann (cAt [1, 0, 0] (bodyOf Try.f84)) [0, 1] g84_K32 ((g84_l1_cs u0 u1 u2) ++ sputs [(6, .i .i64)] s) w := by kernel_rfl
  have h2 : loopM Try.prog 49 84 g84_ann (cAt [1, 0, 0] (bodyOf Try.f84)) [0, 1] g84_K32 ((g84_l1_cs u0 u1 u2) ++ sputs [(6, .i .i64)] s) w = g84_K32 (.exit 0) (puts 49 ((g84_l1_cs u0 u1 u2) ++ sputs [(6, .i .i64)] t)) w' :=
    loop_rule (P := Try.prog) (N := 49) (f := 84) (ann := g84_ann) (body := (cAt [1, 0, 0] (bodyOf Try.f84))) (pt := [0, 1]) (K := g84_K32) (g84_l1_cs u0 u1 u2) [(6, .i .i64)] (b := g84_l1_b u2 u0 u1) (fun s w => by kernel_rfl) (by kernel_rfl) (by kernel_rfl) (by kernel_rfl) h
  have h3 : g84_K32 (.exit 0) (puts 49 ((g84_l1_cs u0 u1 u2) ++ sputs [(6, .i .i64)] t)) w' = g84_l1_x0 t w' := by kernel_rfl
  exact h1.trans (h2.trans h3)

/-! 85: slices.heapSortOrdered[int] (data: []int, a: int, b: int) -/
/-! 86: slices.breakPatternsOrdered[int] (data: []int, a: int, b: int) -/
/-! 87: slices.choosePivotOrdered[int] (data: []int, a: int, b: int) -/
/-! 88: slices.reverseRangeOrdered[int] (data: []int, a: int, b: int) -/
/-! 89: slices.partialInsertionSortOrdered[int] (data: []int, a: int, b: int) -/
/-! 90: cmp.Less[int] (x: int, y: int) -/
def g90_ann : List (List Nat × List Nat) := []

noncomputable def g90 (u0 : Int) (u1 : Int) (w0 : World) : Option (Value × World) :=
(callF Try.prog 106 #[.int .i64 u0] w0).bind fun r1 =>
(asB r1.1).bind fun b2 =>
if b2 = true then
((callF Try.prog 106 #[.int .i64 u1] r1.2).bind fun r3 =>
(asB r3.1).bind fun b4 =>
if (!b4) = true then
(some (.bool true, r3.2))
else
(some (.bool (decide ((u0 : Int) < u1)), r3.2)))
else
(some (.bool (decide ((u0 : Int) < u1)), r1.2))

theorem g90_eq (u0 : Int) (u1 : Int) (w0 : World) : evFn Try.prog 90 g90_ann #[.int .i64 u0, .int .i64 u1] w0 = g90 u0 u1 w0 := by kernel_rfl

theorem g90_call {u0 : Int} {u1 : Int} {w0 : World} {r : Value × World} (h : g90 u0 u1 w0 = some r) : callF Try.prog 90 #[.int .i64 u0, .int .i64 u1] w0 = some r :=
  callF_of_evFn (ann := g90_ann) Try.call90 (by kernel_rfl) ((g90_eq u0 u1 w0).trans h)

/-! 91: slices.partitionEqualOrdered[int] (data: []int, a: int, b: int, pivot: int) -/
/-! 92: slices.partitionOrdered[int] (data: []int, a: int, b: int, pivot: int) -/
/-! 94: math/bits.Len64 (x: uint64) -/
def g94_ann : List (List Nat × List Nat) := []

noncomputable def g94_j7 (w0 : World) (x8 : Int) (x9 : Int) : Option (Value × World) :=
(strIdx (⟨#[0, 1, 2, 2, 3, 3, 3, 3, 4, 4, 4, 4, 4, 4, 4, 4, 5, 5, 5, 5, 5, 5, 5, 5, 5, 5, 5, 5, 5, 5, 5, 5, 6, 6, 6, 6, 6, 6, 6, 6, 6, 6, 6, 6, 6, 6, 6, 6, 6, 6, 6, 6, 6, 6, 6, 6, 6, 6, 6, 6, 6, 6, 6, 6, 7, 7, 7, 7, 7, 7, 7, 7, 7, 7, 7, 7, 7, 7, 7, 7, 7, 7, 7, 7, 7, 7, 7, 7, 7, 7, 7, 7, 7, 7, 7, 7, 7, 7, 7, 7, 7, 7, 7, 7, 7, 7, 7, 7, 7, 7, 7, 7, 7, 7, 7, 7, 7, 7, 7, 7, 7, 7, 7, 7, 7, 7, 7, 7, 8, 8, 8, 8, 8, 8, 8, 8, 8, 8, 8, 8, 8, 8, 8, 8, 8, 8, 8, 8, 8, 8, 8, 8, 8, 8, 8, 8, 8, 8, 8, 8, 8, 8, 8, 8, 8, 8, 8, 8, 8, 8, 8, 8, 8, 8, 8, 8, 8, 8, 8, 8, 8, 8, 8, 8, 8, 8, 8, 8, 8, 8, 8, 8, 8, 8, 8, 8, 8, 8, 8, 8, 8, 8, 8, 8, 8, 8, 8, 8, 8, 8, 8, 8, 8, 8, 8, 8, 8, 8, 8, 8, 8, 8, 8, 8, 8, 8, 8, 8, 8, 8, 8, 8, 8, 8, 8, 8, 8, 8, 8, 8, 8, 8, 8, 8, 8, 8, 8, 8, 8, 8, 8, 8, 8, 8, 8, 8]⟩ : ByteArray) (IntKind.u8.wrap x8)).bind fun n10 =>
some (.int .i64 (IntKind.i64.wrap (x9 + (IntKind.i64.wrap n10))), w0)

noncomputable def g94_j4 (w0 : World) (x5 : Int) (x6 : Int) : Option (Value × World) :=
if (decide ((x5 : Int) ≥ 256)) = true then
(g94_j7 w0 (Int.fdiv x5 (2 ^ (min (Int.toNat 8) 64))) (IntKind.i64.wrap (x6 + 8)))
else
(g94_j7 w0 x5 x6)

noncomputable def g94_j1 (w0 : World) (x2 : Int) (x3 : Int) : Option (Value × World) :=
if (decide ((x2 : Int) ≥ 65536)) = true then
(g94_j4 w0 (Int.fdiv x2 (2 ^ (min (Int.toNat 16) 64))) (IntKind.i64.wrap (x3 + 16)))
else
(g94_j4 w0 x2 x3)

noncomputable def g94 (u0 : Int) (w0 : World) : Option (Value × World) :=
if (decide ((u0 : Int) ≥ 4294967296)) = true then
(g94_j1 w0 (Int.fdiv u0 (2 ^ (min (Int.toNat 32) 64))) 32)
else
(g94_j1 w0 u0 0)

theorem g94_eq (u0 : Int) (w0 : World) : evFn Try.prog 94 g94_ann #[.int .u64 u0] w0 = g94 u0 w0 := by kernel_rfl

theorem g94_call {u0 : Int} {w0 : World} {r : Value × World} (h : g94 u0 w0 = some r) : callF Try.prog 94 #[.int .u64 u0] w0 = some r :=
  callF_of_evFn (ann := g94_ann) Try.call94 (by kernel_rfl) ((g94_eq u0 w0).trans h)

/-! 101: slices.siftDownOrdered[int] (data: []int, lo: int, hi: int, first: int) -/
/-! 102: slices.nextPowerOfTwo (length: int) -/
/-! 103: (*slices.xorshift).Next (r: *slices.xorshift) -/
/-! 104: slices.medianAdjacentOrdered[int] (data: []int, a: int, swaps: *int) -/
/-! 105: slices.medianOrdered[int] (data: []int, a: int, b: int, c: int, swaps: *int) -/
/-! 106: cmp.isNaN[int] (x: int) -/
def g106_ann : List (List Nat × List Nat) := []

noncomputable def g106 (u0 : Int) (w0 : World) : Option (Value × World) :=
some (.bool ((u0 : Int) != u0), w0)

theorem g106_eq (u0 : Int) (w0 : World) : evFn Try.prog 106 g106_ann #[.int .i64 u0] w0 = g106 u0 w0 := by kernel_rfl

theorem g106_call {u0 : Int} {w0 : World} {r : Value × World} (h : g106 u0 w0 = some r) : callF Try.prog 106 #[.int .i64 u0] w0 = some r :=
  callF_of_evFn (ann := g106_ann) Try.call106 (by kernel_rfl) ((g106_eq u0 w0).trans h)

/-! 108: slices.order2Ordered[int] (data: []int, a: int, b: int, swaps: *int) -/
end Go.Proofs.Ytjcenfgmpbeldaa
