/-
  ImageS: lemmas on what Go functions of this seat come to (for whatever arguments, as each says). No condition but those that stand in each lemma.
-/
import Derived.Test.YtjcenfgmpbeldaaLb9
import Derived.Test.YtjcenfgmpbeldaaProg
namespace Go.Proofs.Ytjcenfgmpbeldaa
open Go Go.Ev
set_option maxRecDepth 100000
set_option linter.unusedVariables false
/-! 35: slices.Sort[[]int,int] (x: []int) -/
def g35_ann : List (List Nat × List Nat) := []

noncomputable def g35 (u0 : Option Addr × Nat × Nat) (w0 : World) : Option (Value × World) :=
(callF Try.prog 69 #[.int .u64 (IntKind.u64.wrap (u0.2.1 : Int))] w0).bind fun r2 =>
(asI .i64 r2.1).bind fun n3 =>
(callF Try.prog 68 #[.slice u0.1 u0.2.1 u0.2.2, .int .i64 0, .int .i64 (u0.2.1 : Int), .int .i64 n3] r2.2).bind fun r4 =>
(asTup 0 r4.1).bind fun _ =>
some (.tuple #[], r4.2)

theorem g35_eq (u0 : Option Addr × Nat × Nat) (w0 : World) : evFn Try.prog 35 g35_ann #[.slice u0.1 u0.2.1 u0.2.2] w0 = g35 u0 w0 := by kernel_rfl

theorem g35_call {u0 : Option Addr × Nat × Nat} {w0 : World} {r : Value × World} (h : g35 u0 w0 = some r) : callF Try.prog 35 #[.slice u0.1 u0.2.1 u0.2.2] w0 = some r :=
  callF_of_evFn (ann := g35_ann) Try.call35 (by kernel_rfl) ((g35_eq u0 w0).trans h)

/-! 68: slices.pdqsortOrdered[int] (data: []int, a: int, b: int, limit: int) -/
def g68_ann : List (List Nat × List Nat) := [([0, 1, 1], [0, 1, 2, 3, 8, 9])]

def g68_l1_cs (u0 : Option Addr × Nat × Nat) : List (Nat × Value) := ([(0, .slice u0.1 u0.2.1 u0.2.2)] : List (Nat × Value))

/-- the round of a loop (slices.pdqsortOrdered[int]) -/
noncomputable def g68_l1_b (u0 : Option Addr × Nat × Nat) (s2 : Int × Int × Int × Bool × Bool) (w3 : World) : Option (Exit × (Int × Int × Int × Bool × Bool) × World) :=
if (decide (((IntKind.i64.wrap (s2.2.1 - s2.1)) : Int) ≤ 12)) = true then
((callF Try.prog 84 #[.slice u0.1 u0.2.1 u0.2.2, .int .i64 s2.1, .int .i64 s2.2.1] w3).bind fun r4 =>
(asTup 0 r4.1).bind fun _ =>
some (.ret, (s2.1, s2.2.1, s2.2.2.1, s2.2.2.2.1, s2.2.2.2.2), r4.2))
else
(if ((s2.2.2.1 : Int) == 0) = true then
((callF Try.prog 85 #[.slice u0.1 u0.2.1 u0.2.2, .int .i64 s2.1, .int .i64 s2.2.1] w3).bind fun r5 =>
(asTup 0 r5.1).bind fun _ =>
some (.ret, (s2.1, s2.2.1, s2.2.2.1, s2.2.2.2.1, s2.2.2.2.2), r5.2))
else
(if (!s2.2.2.2.1) = true then
((callF Try.prog 86 #[.slice u0.1 u0.2.1 u0.2.2, .int .i64 s2.1, .int .i64 s2.2.1] w3).bind fun r7 =>
(asTup 0 r7.1).bind fun _ =>
(callF Try.prog 87 #[.slice u0.1 u0.2.1 u0.2.2, .int .i64 s2.1, .int .i64 s2.2.1] r7.2).bind fun r8 =>
(asTup 2 r8.1).bind fun l9 =>
(asI .i64 (l9.getD 0 undef)).bind fun n10 =>
(asI .i64 (l9.getD 1 undef)).bind fun n11 =>
if ((n11 : Int) == 2) = true then
((callF Try.prog 88 #[.slice u0.1 u0.2.1 u0.2.2, .int .i64 s2.1, .int .i64 s2.2.1] r8.2).bind fun r13 =>
(asTup 0 r13.1).bind fun _ =>
if s2.2.2.2.1 = true then
(if s2.2.2.2.2 = true then
((callF Try.prog 89 #[.slice u0.1 u0.2.1 u0.2.2, .int .i64 s2.1, .int .i64 s2.2.1] r13.2).bind fun r15 =>
(asB r15.1).bind fun b16 =>
if b16 = true then
(some (.ret, (s2.1, s2.2.1, (IntKind.i64.wrap (s2.2.2.1 - 1)), s2.2.2.2.1, s2.2.2.2.2), r15.2))
else
(if (decide ((s2.1 : Int) > 0)) = true then
((idxA u0.1 u0.2.1 1 (IntKind.i64.wrap (s2.1 - 1))).bind fun a17 =>
(World.cell? (World.drew r15.2) a17).bind fun v18 =>
(asI .i64 v18).bind fun n19 =>
(idxA u0.1 u0.2.1 1 (IntKind.i64.wrap ((IntKind.i64.wrap (s2.2.1 - 1)) - (IntKind.i64.wrap (n10 - s2.1))))).bind fun a20 =>
(World.cell? (World.drew r15.2) a20).bind fun v21 =>
(asI .i64 v21).bind fun n22 =>
(callF Try.prog 90 #[.int .i64 n19, .int .i64 n22] (World.drew r15.2)).bind fun r23 =>
(asB r23.1).bind fun b24 =>
if (!b24) = true then
((callF Try.prog 91 #[.slice u0.1 u0.2.1 u0.2.2, .int .i64 s2.1, .int .i64 s2.2.1, .int .i64 (IntKind.i64.wrap ((IntKind.i64.wrap (s2.2.1 - 1)) - (IntKind.i64.wrap (n10 - s2.1))))] r23.2).bind fun r25 =>
(asI .i64 r25.1).bind fun n26 =>
some (.normal, (n26, s2.2.1, (IntKind.i64.wrap (s2.2.2.1 - 1)), s2.2.2.2.1, s2.2.2.2.2), r25.2))
else
((callF Try.prog 92 #[.slice u0.1 u0.2.1 u0.2.2, .int .i64 s2.1, .int .i64 s2.2.1, .int .i64 (IntKind.i64.wrap ((IntKind.i64.wrap (s2.2.1 - 1)) - (IntKind.i64.wrap (n10 - s2.1))))] r23.2).bind fun r27 =>
(asTup 2 r27.1).bind fun l28 =>
(asI .i64 (l28.getD 0 undef)).bind fun n29 =>
(asB (l28.getD 1 undef)).bind fun b30 =>
if (decide (((IntKind.i64.wrap (n29 - s2.1)) : Int) < (IntKind.i64.wrap (s2.2.1 - n29)))) = true then
((callF Try.prog 68 #[.slice u0.1 u0.2.1 u0.2.2, .int .i64 s2.1, .int .i64 n29, .int .i64 (IntKind.i64.wrap (s2.2.2.1 - 1))] r27.2).bind fun r31 =>
(asTup 0 r31.1).bind fun _ =>
some (.normal, ((IntKind.i64.wrap (n29 + 1)), s2.2.1, (IntKind.i64.wrap (s2.2.2.1 - 1)), (decide (((IntKind.i64.wrap (n29 - s2.1)) : Int) ≥ (IntKind.i64.wrap (Int.tdiv (IntKind.i64.wrap (s2.2.1 - s2.1)) 8)))), b30), r31.2))
else
((callF Try.prog 68 #[.slice u0.1 u0.2.1 u0.2.2, .int .i64 (IntKind.i64.wrap (n29 + 1)), .int .i64 s2.2.1, .int .i64 (IntKind.i64.wrap (s2.2.2.1 - 1))] r27.2).bind fun r32 =>
(asTup 0 r32.1).bind fun _ =>
some (.normal, (s2.1, n29, (IntKind.i64.wrap (s2.2.2.1 - 1)), (decide (((IntKind.i64.wrap (s2.2.1 - n29)) : Int) ≥ (IntKind.i64.wrap (Int.tdiv (IntKind.i64.wrap (s2.2.1 - s2.1)) 8)))), b30), r32.2))))
else
((callF Try.prog 92 #[.slice u0.1 u0.2.1 u0.2.2, .int .i64 s2.1, .int .i64 s2.2.1, .int .i64 (IntKind.i64.wrap ((IntKind.i64.wrap (s2.2.1 - 1)) - (IntKind.i64.wrap (n10 - s2.1))))] (World.drew r15.2)).bind fun r33 =>
(asTup 2 r33.1).bind fun l34 =>
(asI .i64 (l34.getD 0 undef)).bind fun n35 =>
(asB (l34.getD 1 undef)).bind fun b36 =>
if (decide (((IntKind.i64.wrap (n35 - s2.1)) : Int) < (IntKind.i64.wrap (s2.2.1 - n35)))) = true then
((callF Try.prog 68 #[.slice u0.1 u0.2.1 u0.2.2, .int .i64 s2.1, .int .i64 n35, .int .i64 (IntKind.i64.wrap (s2.2.2.1 - 1))] r33.2).bind fun r37 =>
(asTup 0 r37.1).bind fun _ =>
some (.normal, ((IntKind.i64.wrap (n35 + 1)), s2.2.1, (IntKind.i64.wrap (s2.2.2.1 - 1)), (decide (((IntKind.i64.wrap (n35 - s2.1)) : Int) ≥ (IntKind.i64.wrap (Int.tdiv (IntKind.i64.wrap (s2.2.1 - s2.1)) 8)))), b36), r37.2))
else
((callF Try.prog 68 #[.slice u0.1 u0.2.1 u0.2.2, .int .i64 (IntKind.i64.wrap (n35 + 1)), .int .i64 s2.2.1, .int .i64 (IntKind.i64.wrap (s2.2.2.1 - 1))] r33.2).bind fun r38 =>
(asTup 0 r38.1).bind fun _ =>
some (.normal, (s2.1, n35, (IntKind.i64.wrap (s2.2.2.1 - 1)), (decide (((IntKind.i64.wrap (s2.2.1 - n35)) : Int) ≥ (IntKind.i64.wrap (Int.tdiv (IntKind.i64.wrap (s2.2.1 - s2.1)) 8)))), b36), r38.2)))))
else
(if (decide ((s2.1 : Int) > 0)) = true then
((idxA u0.1 u0.2.1 1 (IntKind.i64.wrap (s2.1 - 1))).bind fun a39 =>
(World.cell? (World.drew r13.2) a39).bind fun v40 =>
(asI .i64 v40).bind fun n41 =>
(idxA u0.1 u0.2.1 1 (IntKind.i64.wrap ((IntKind.i64.wrap (s2.2.1 - 1)) - (IntKind.i64.wrap (n10 - s2.1))))).bind fun a42 =>
(World.cell? (World.drew r13.2) a42).bind fun v43 =>
(asI .i64 v43).bind fun n44 =>
(callF Try.prog 90 #[.int .i64 n41, .int .i64 n44] (World.drew r13.2)).bind fun r45 =>
(asB r45.1).bind fun b46 =>
if (!b46) = true then
((callF Try.prog 91 #[.slice u0.1 u0.2.1 u0.2.2, .int .i64 s2.1, .int .i64 s2.2.1, .int .i64 (IntKind.i64.wrap ((IntKind.i64.wrap (s2.2.1 - 1)) - (IntKind.i64.wrap (n10 - s2.1))))] r45.2).bind fun r47 =>
(asI .i64 r47.1).bind fun n48 =>
some (.normal, (n48, s2.2.1, (IntKind.i64.wrap (s2.2.2.1 - 1)), s2.2.2.2.1, s2.2.2.2.2), r47.2))
else
((callF Try.prog 92 #[.slice u0.1 u0.2.1 u0.2.2, .int .i64 s2.1, .int .i64 s2.2.1, .int .i64 (IntKind.i64.wrap ((IntKind.i64.wrap (s2.2.1 - 1)) - (IntKind.i64.wrap (n10 - s2.1))))] r45.2).bind fun r49 =>
(asTup 2 r49.1).bind fun l50 =>
(asI .i64 (l50.getD 0 undef)).bind fun n51 =>
(asB (l50.getD 1 undef)).bind fun b52 =>
if (decide (((IntKind.i64.wrap (n51 - s2.1)) : Int) < (IntKind.i64.wrap (s2.2.1 - n51)))) = true then
((callF Try.prog 68 #[.slice u0.1 u0.2.1 u0.2.2, .int .i64 s2.1, .int .i64 n51, .int .i64 (IntKind.i64.wrap (s2.2.2.1 - 1))] r49.2).bind fun r53 =>
(asTup 0 r53.1).bind fun _ =>
some (.normal, ((IntKind.i64.wrap (n51 + 1)), s2.2.1, (IntKind.i64.wrap (s2.2.2.1 - 1)), (decide (((IntKind.i64.wrap (n51 - s2.1)) : Int) ≥ (IntKind.i64.wrap (Int.tdiv (IntKind.i64.wrap (s2.2.1 - s2.1)) 8)))), b52), r53.2))
else
((callF Try.prog 68 #[.slice u0.1 u0.2.1 u0.2.2, .int .i64 (IntKind.i64.wrap (n51 + 1)), .int .i64 s2.2.1, .int .i64 (IntKind.i64.wrap (s2.2.2.1 - 1))] r49.2).bind fun r54 =>
(asTup 0 r54.1).bind fun _ =>
some (.normal, (s2.1, n51, (IntKind.i64.wrap (s2.2.2.1 - 1)), (decide (((IntKind.i64.wrap (s2.2.1 - n51)) : Int) ≥ (IntKind.i64.wrap (Int.tdiv (IntKind.i64.wrap (s2.2.1 - s2.1)) 8)))), b52), r54.2))))
else
((callF Try.prog 92 #[.slice u0.1 u0.2.1 u0.2.2, .int .i64 s2.1, .int .i64 s2.2.1, .int .i64 (IntKind.i64.wrap ((IntKind.i64.wrap (s2.2.1 - 1)) - (IntKind.i64.wrap (n10 - s2.1))))] (World.drew r13.2)).bind fun r55 =>
(asTup 2 r55.1).bind fun l56 =>
(asI .i64 (l56.getD 0 undef)).bind fun n57 =>
(asB (l56.getD 1 undef)).bind fun b58 =>
if (decide (((IntKind.i64.wrap (n57 - s2.1)) : Int) < (IntKind.i64.wrap (s2.2.1 - n57)))) = true then
((callF Try.prog 68 #[.slice u0.1 u0.2.1 u0.2.2, .int .i64 s2.1, .int .i64 n57, .int .i64 (IntKind.i64.wrap (s2.2.2.1 - 1))] r55.2).bind fun r59 =>
(asTup 0 r59.1).bind fun _ =>
some (.normal, ((IntKind.i64.wrap (n57 + 1)), s2.2.1, (IntKind.i64.wrap (s2.2.2.1 - 1)), (decide (((IntKind.i64.wrap (n57 - s2.1)) : Int) ≥ (IntKind.i64.wrap (Int.tdiv (IntKind.i64.wrap (s2.2.1 - s2.1)) 8)))), b58), r59.2))
else
((callF Try.prog 68 #[.slice u0.1 u0.2.1 u0.2.2, .int .i64 (IntKind.i64.wrap (n57 + 1)), .int .i64 s2.2.1, .int .i64 (IntKind.i64.wrap (s2.2.2.1 - 1))] r55.2).bind fun r60 =>
(asTup 0 r60.1).bind fun _ =>
some (.normal, (s2.1, n57, (IntKind.i64.wrap (s2.2.2.1 - 1)), (decide (((IntKind.i64.wrap (s2.2.1 - n57)) : Int) ≥ (IntKind.i64.wrap (Int.tdiv (IntKind.i64.wrap (s2.2.1 - s2.1)) 8)))), b58), r60.2)))))
else
(if (decide ((s2.1 : Int) > 0)) = true then
((idxA u0.1 u0.2.1 1 (IntKind.i64.wrap (s2.1 - 1))).bind fun a61 =>
(World.cell? (World.drew r13.2) a61).bind fun v62 =>
(asI .i64 v62).bind fun n63 =>
(idxA u0.1 u0.2.1 1 (IntKind.i64.wrap ((IntKind.i64.wrap (s2.2.1 - 1)) - (IntKind.i64.wrap (n10 - s2.1))))).bind fun a64 =>
(World.cell? (World.drew r13.2) a64).bind fun v65 =>
(asI .i64 v65).bind fun n66 =>
(callF Try.prog 90 #[.int .i64 n63, .int .i64 n66] (World.drew r13.2)).bind fun r67 =>
(asB r67.1).bind fun b68 =>
if (!b68) = true then
((callF Try.prog 91 #[.slice u0.1 u0.2.1 u0.2.2, .int .i64 s2.1, .int .i64 s2.2.1, .int .i64 (IntKind.i64.wrap ((IntKind.i64.wrap (s2.2.1 - 1)) - (IntKind.i64.wrap (n10 - s2.1))))] r67.2).bind fun r69 =>
(asI .i64 r69.1).bind fun n70 =>
some (.normal, (n70, s2.2.1, (IntKind.i64.wrap (s2.2.2.1 - 1)), s2.2.2.2.1, s2.2.2.2.2), r69.2))
else
((callF Try.prog 92 #[.slice u0.1 u0.2.1 u0.2.2, .int .i64 s2.1, .int .i64 s2.2.1, .int .i64 (IntKind.i64.wrap ((IntKind.i64.wrap (s2.2.1 - 1)) - (IntKind.i64.wrap (n10 - s2.1))))] r67.2).bind fun r71 =>
(asTup 2 r71.1).bind fun l72 =>
(asI .i64 (l72.getD 0 undef)).bind fun n73 =>
(asB (l72.getD 1 undef)).bind fun b74 =>
if (decide (((IntKind.i64.wrap (n73 - s2.1)) : Int) < (IntKind.i64.wrap (s2.2.1 - n73)))) = true then
((callF Try.prog 68 #[.slice u0.1 u0.2.1 u0.2.2, .int .i64 s2.1, .int .i64 n73, .int .i64 (IntKind.i64.wrap (s2.2.2.1 - 1))] r71.2).bind fun r75 =>
(asTup 0 r75.1).bind fun _ =>
some (.normal, ((IntKind.i64.wrap (n73 + 1)), s2.2.1, (IntKind.i64.wrap (s2.2.2.1 - 1)), (decide (((IntKind.i64.wrap (n73 - s2.1)) : Int) ≥ (IntKind.i64.wrap (Int.tdiv (IntKind.i64.wrap (s2.2.1 - s2.1)) 8)))), b74), r75.2))
else
((callF Try.prog 68 #[.slice u0.1 u0.2.1 u0.2.2, .int .i64 (IntKind.i64.wrap (n73 + 1)), .int .i64 s2.2.1, .int .i64 (IntKind.i64.wrap (s2.2.2.1 - 1))] r71.2).bind fun r76 =>
(asTup 0 r76.1).bind fun _ =>
some (.normal, (s2.1, n73, (IntKind.i64.wrap (s2.2.2.1 - 1)), (decide (((IntKind.i64.wrap (s2.2.1 - n73)) : Int) ≥ (IntKind.i64.wrap (Int.tdiv (IntKind.i64.wrap (s2.2.1 - s2.1)) 8)))), b74), r76.2))))
else
((callF Try.prog 92 #[.slice u0.1 u0.2.1 u0.2.2, .int .i64 s2.1, .int .i64 s2.2.1, .int .i64 (IntKind.i64.wrap ((IntKind.i64.wrap (s2.2.1 - 1)) - (IntKind.i64.wrap (n10 - s2.1))))] (World.drew r13.2)).bind fun r77 =>
(asTup 2 r77.1).bind fun l78 =>
(asI .i64 (l78.getD 0 undef)).bind fun n79 =>
(asB (l78.getD 1 undef)).bind fun b80 =>
if (decide (((IntKind.i64.wrap (n79 - s2.1)) : Int) < (IntKind.i64.wrap (s2.2.1 - n79)))) = true then
((callF Try.prog 68 #[.slice u0.1 u0.2.1 u0.2.2, .int .i64 s2.1, .int .i64 n79, .int .i64 (IntKind.i64.wrap (s2.2.2.1 - 1))] r77.2).bind fun r81 =>
(asTup 0 r81.1).bind fun _ =>
some (.normal, ((IntKind.i64.wrap (n79 + 1)), s2.2.1, (IntKind.i64.wrap (s2.2.2.1 - 1)), (decide (((IntKind.i64.wrap (n79 - s2.1)) : Int) ≥ (IntKind.i64.wrap (Int.tdiv (IntKind.i64.wrap (s2.2.1 - s2.1)) 8)))), b80), r81.2))
else
((callF Try.prog 68 #[.slice u0.1 u0.2.1 u0.2.2, .int .i64 (IntKind.i64.wrap (n79 + 1)), .int .i64 s2.2.1, .int .i64 (IntKind.i64.wrap (s2.2.2.1 - 1))] r77.2).bind fun r82 =>
(asTup 0 r82.1).bind fun _ =>
some (.normal, (s2.1, n79, (IntKind.i64.wrap (s2.2.2.1 - 1)), (decide (((IntKind.i64.wrap (s2.2.1 - n79)) : Int) ≥ (IntKind.i64.wrap (Int.tdiv (IntKind.i64.wrap (s2.2.1 - s2.1)) 8)))), b80), r82.2)))))
else
(if s2.2.2.2.1 = true then
(if s2.2.2.2.2 = true then
(if ((n11 : Int) == 1) = true then
((callF Try.prog 89 #[.slice u0.1 u0.2.1 u0.2.2, .int .i64 s2.1, .int .i64 s2.2.1] r8.2).bind fun r84 =>
(asB r84.1).bind fun b85 =>
if b85 = true then
(some (.ret, (s2.1, s2.2.1, (IntKind.i64.wrap (s2.2.2.1 - 1)), s2.2.2.2.1, s2.2.2.2.2), r84.2))
else
(if (decide ((s2.1 : Int) > 0)) = true then
((idxA u0.1 u0.2.1 1 (IntKind.i64.wrap (s2.1 - 1))).bind fun a86 =>
(World.cell? (World.drew r84.2) a86).bind fun v87 =>
(asI .i64 v87).bind fun n88 =>
(idxA u0.1 u0.2.1 1 n10).bind fun a89 =>
(World.cell? (World.drew r84.2) a89).bind fun v90 =>
(asI .i64 v90).bind fun n91 =>
(callF Try.prog 90 #[.int .i64 n88, .int .i64 n91] (World.drew r84.2)).bind fun r92 =>
(asB r92.1).bind fun b93 =>
if (!b93) = true then
((callF Try.prog 91 #[.slice u0.1 u0.2.1 u0.2.2, .int .i64 s2.1, .int .i64 s2.2.1, .int .i64 n10] r92.2).bind fun r94 =>
(asI .i64 r94.1).bind fun n95 =>
some (.normal, (n95, s2.2.1, (IntKind.i64.wrap (s2.2.2.1 - 1)), s2.2.2.2.1, s2.2.2.2.2), r94.2))
else
((callF Try.prog 92 #[.slice u0.1 u0.2.1 u0.2.2, .int .i64 s2.1, .int .i64 s2.2.1, .int .i64 n10] r92.2).bind fun r96 =>
(asTup 2 r96.1).bind fun l97 =>
(asI .i64 (l97.getD 0 undef)).bind fun n98 =>
(asB (l97.getD 1 undef)).bind fun b99 =>
if (decide (((IntKind.i64.wrap (n98 - s2.1)) : Int) < (IntKind.i64.wrap (s2.2.1 - n98)))) = true then
((callF Try.prog 68 #[.slice u0.1 u0.2.1 u0.2.2, .int .i64 s2.1, .int .i64 n98, .int .i64 (IntKind.i64.wrap (s2.2.2.1 - 1))] r96.2).bind fun r100 =>
(asTup 0 r100.1).bind fun _ =>
some (.normal, ((IntKind.i64.wrap (n98 + 1)), s2.2.1, (IntKind.i64.wrap (s2.2.2.1 - 1)), (decide (((IntKind.i64.wrap (n98 - s2.1)) : Int) ≥ (IntKind.i64.wrap (Int.tdiv (IntKind.i64.wrap (s2.2.1 - s2.1)) 8)))), b99), r100.2))
else
((callF Try.prog 68 #[.slice u0.1 u0.2.1 u0.2.2, .int .i64 (IntKind.i64.wrap (n98 + 1)), .int .i64 s2.2.1, .int .i64 (IntKind.i64.wrap (s2.2.2.1 - 1))] r96.2).bind fun r101 =>
(asTup 0 r101.1).bind fun _ =>
some (.normal, (s2.1, n98, (IntKind.i64.wrap (s2.2.2.1 - 1)), (decide (((IntKind.i64.wrap (s2.2.1 - n98)) : Int) ≥ (IntKind.i64.wrap (Int.tdiv (IntKind.i64.wrap (s2.2.1 - s2.1)) 8)))), b99), r101.2))))
else
((callF Try.prog 92 #[.slice u0.1 u0.2.1 u0.2.2, .int .i64 s2.1, .int .i64 s2.2.1, .int .i64 n10] (World.drew r84.2)).bind fun r102 =>
(asTup 2 r102.1).bind fun l103 =>
(asI .i64 (l103.getD 0 undef)).bind fun n104 =>
(asB (l103.getD 1 undef)).bind fun b105 =>
if (decide (((IntKind.i64.wrap (n104 - s2.1)) : Int) < (IntKind.i64.wrap (s2.2.1 - n104)))) = true then
((callF Try.prog 68 #[.slice u0.1 u0.2.1 u0.2.2, .int .i64 s2.1, .int .i64 n104, .int .i64 (IntKind.i64.wrap (s2.2.2.1 - 1))] r102.2).bind fun r106 =>
(asTup 0 r106.1).bind fun _ =>
some (.normal, ((IntKind.i64.wrap (n104 + 1)), s2.2.1, (IntKind.i64.wrap (s2.2.2.1 - 1)), (decide (((IntKind.i64.wrap (n104 - s2.1)) : Int) ≥ (IntKind.i64.wrap (Int.tdiv (IntKind.i64.wrap (s2.2.1 - s2.1)) 8)))), b105), r106.2))
else
((callF Try.prog 68 #[.slice u0.1 u0.2.1 u0.2.2, .int .i64 (IntKind.i64.wrap (n104 + 1)), .int .i64 s2.2.1, .int .i64 (IntKind.i64.wrap (s2.2.2.1 - 1))] r102.2).bind fun r107 =>
(asTup 0 r107.1).bind fun _ =>
some (.normal, (s2.1, n104, (IntKind.i64.wrap (s2.2.2.1 - 1)), (decide (((IntKind.i64.wrap (s2.2.1 - n104)) : Int) ≥ (IntKind.i64.wrap (Int.tdiv (IntKind.i64.wrap (s2.2.1 - s2.1)) 8)))), b105), r107.2)))))
else
(if (decide ((s2.1 : Int) > 0)) = true then
((idxA u0.1 u0.2.1 1 (IntKind.i64.wrap (s2.1 - 1))).bind fun a108 =>
(World.cell? (World.drew r8.2) a108).bind fun v109 =>
(asI .i64 v109).bind fun n110 =>
(idxA u0.1 u0.2.1 1 n10).bind fun a111 =>
(World.cell? (World.drew r8.2) a111).bind fun v112 =>
(asI .i64 v112).bind fun n113 =>
(callF Try.prog 90 #[.int .i64 n110, .int .i64 n113] (World.drew r8.2)).bind fun r114 =>
(asB r114.1).bind fun b115 =>
if (!b115) = true then
((callF Try.prog 91 #[.slice u0.1 u0.2.1 u0.2.2, .int .i64 s2.1, .int .i64 s2.2.1, .int .i64 n10] r114.2).bind fun r116 =>
(asI .i64 r116.1).bind fun n117 =>
some (.normal, (n117, s2.2.1, (IntKind.i64.wrap (s2.2.2.1 - 1)), s2.2.2.2.1, s2.2.2.2.2), r116.2))
else
((callF Try.prog 92 #[.slice u0.1 u0.2.1 u0.2.2, .int .i64 s2.1, .int .i64 s2.2.1, .int .i64 n10] r114.2).bind fun r118 =>
(asTup 2 r118.1).bind fun l119 =>
(asI .i64 (l119.getD 0 undef)).bind fun n120 =>
(asB (l119.getD 1 undef)).bind fun b121 =>
if (decide (((IntKind.i64.wrap (n120 - s2.1)) : Int) < (IntKind.i64.wrap (s2.2.1 - n120)))) = true then
((callF Try.prog 68 #[.slice u0.1 u0.2.1 u0.2.2, .int .i64 s2.1, .int .i64 n120, .int .i64 (IntKind.i64.wrap (s2.2.2.1 - 1))] r118.2).bind fun r122 =>
(asTup 0 r122.1).bind fun _ =>
some (.normal, ((IntKind.i64.wrap (n120 + 1)), s2.2.1, (IntKind.i64.wrap (s2.2.2.1 - 1)), (decide (((IntKind.i64.wrap (n120 - s2.1)) : Int) ≥ (IntKind.i64.wrap (Int.tdiv (IntKind.i64.wrap (s2.2.1 - s2.1)) 8)))), b121), r122.2))
else
((callF Try.prog 68 #[.slice u0.1 u0.2.1 u0.2.2, .int .i64 (IntKind.i64.wrap (n120 + 1)), .int .i64 s2.2.1, .int .i64 (IntKind.i64.wrap (s2.2.2.1 - 1))] r118.2).bind fun r123 =>
(asTup 0 r123.1).bind fun _ =>
some (.normal, (s2.1, n120, (IntKind.i64.wrap (s2.2.2.1 - 1)), (decide (((IntKind.i64.wrap (s2.2.1 - n120)) : Int) ≥ (IntKind.i64.wrap (Int.tdiv (IntKind.i64.wrap (s2.2.1 - s2.1)) 8)))), b121), r123.2))))
else
((callF Try.prog 92 #[.slice u0.1 u0.2.1 u0.2.2, .int .i64 s2.1, .int .i64 s2.2.1, .int .i64 n10] (World.drew r8.2)).bind fun r124 =>
(asTup 2 r124.1).bind fun l125 =>
(asI .i64 (l125.getD 0 undef)).bind fun n126 =>
(asB (l125.getD 1 undef)).bind fun b127 =>
if (decide (((IntKind.i64.wrap (n126 - s2.1)) : Int) < (IntKind.i64.wrap (s2.2.1 - n126)))) = true then
((callF Try.prog 68 #[.slice u0.1 u0.2.1 u0.2.2, .int .i64 s2.1, .int .i64 n126, .int .i64 (IntKind.i64.wrap (s2.2.2.1 - 1))] r124.2).bind fun r128 =>
(asTup 0 r128.1).bind fun _ =>
some (.normal, ((IntKind.i64.wrap (n126 + 1)), s2.2.1, (IntKind.i64.wrap (s2.2.2.1 - 1)), (decide (((IntKind.i64.wrap (n126 - s2.1)) : Int) ≥ (IntKind.i64.wrap (Int.tdiv (IntKind.i64.wrap (s2.2.1 - s2.1)) 8)))), b127), r128.2))
else
((callF Try.prog 68 #[.slice u0.1 u0.2.1 u0.2.2, .int .i64 (IntKind.i64.wrap (n126 + 1)), .int .i64 s2.2.1, .int .i64 (IntKind.i64.wrap (s2.2.2.1 - 1))] r124.2).bind fun r129 =>
(asTup 0 r129.1).bind fun _ =>
some (.normal, (s2.1, n126, (IntKind.i64.wrap (s2.2.2.1 - 1)), (decide (((IntKind.i64.wrap (s2.2.1 - n126)) : Int) ≥ (IntKind.i64.wrap (Int.tdiv (IntKind.i64.wrap (s2.2.1 - s2.1)) 8)))), b127), r129.2)))))
else
(if (decide ((s2.1 : Int) > 0)) = true then
((idxA u0.1 u0.2.1 1 (IntKind.i64.wrap (s2.1 - 1))).bind fun a130 =>
(World.cell? (World.drew r8.2) a130).bind fun v131 =>
(asI .i64 v131).bind fun n132 =>
(idxA u0.1 u0.2.1 1 n10).bind fun a133 =>
(World.cell? (World.drew r8.2) a133).bind fun v134 =>
(asI .i64 v134).bind fun n135 =>
(callF Try.prog 90 #[.int .i64 n132, .int .i64 n135] (World.drew r8.2)).bind fun r136 =>
(asB r136.1).bind fun b137 =>
if (!b137) = true then
((callF Try.prog 91 #[.slice u0.1 u0.2.1 u0.2.2, .int .i64 s2.1, .int .i64 s2.2.1, .int .i64 n10] r136.2).bind fun r138 =>
(asI .i64 r138.1).bind fun n139 =>
some (.normal, (n139, s2.2.1, (IntKind.i64.wrap (s2.2.2.1 - 1)), s2.2.2.2.1, s2.2.2.2.2), r138.2))
else
((callF Try.prog 92 #[.slice u0.1 u0.2.1 u0.2.2, .int .i64 s2.1, .int .i64 s2.2.1, .int .i64 n10] r136.2).bind fun r140 =>
(asTup 2 r140.1).bind fun l141 =>
(asI .i64 (l141.getD 0 undef)).bind fun n142 =>
(asB (l141.getD 1 undef)).bind fun b143 =>
if (decide (((IntKind.i64.wrap (n142 - s2.1)) : Int) < (IntKind.i64.wrap (s2.2.1 - n142)))) = true then
((callF Try.prog 68 #[.slice u0.1 u0.2.1 u0.2.2, .int .i64 s2.1, .int .i64 n142, .int .i64 (IntKind.i64.wrap (s2.2.2.1 - 1))] r140.2).bind fun r144 =>
(asTup 0 r144.1).bind fun _ =>
some (.normal, ((IntKind.i64.wrap (n142 + 1)), s2.2.1, (IntKind.i64.wrap (s2.2.2.1 - 1)), (decide (((IntKind.i64.wrap (n142 - s2.1)) : Int) ≥ (IntKind.i64.wrap (Int.tdiv (IntKind.i64.wrap (s2.2.1 - s2.1)) 8)))), b143), r144.2))
else
((callF Try.prog 68 #[.slice u0.1 u0.2.1 u0.2.2, .int .i64 (IntKind.i64.wrap (n142 + 1)), .int .i64 s2.2.1, .int .i64 (IntKind.i64.wrap (s2.2.2.1 - 1))] r140.2).bind fun r145 =>
(asTup 0 r145.1).bind fun _ =>
some (.normal, (s2.1, n142, (IntKind.i64.wrap (s2.2.2.1 - 1)), (decide (((IntKind.i64.wrap (s2.2.1 - n142)) : Int) ≥ (IntKind.i64.wrap (Int.tdiv (IntKind.i64.wrap (s2.2.1 - s2.1)) 8)))), b143), r145.2))))
else
((callF Try.prog 92 #[.slice u0.1 u0.2.1 u0.2.2, .int .i64 s2.1, .int .i64 s2.2.1, .int .i64 n10] (World.drew r8.2)).bind fun r146 =>
(asTup 2 r146.1).bind fun l147 =>
(asI .i64 (l147.getD 0 undef)).bind fun n148 =>
(asB (l147.getD 1 undef)).bind fun b149 =>
if (decide (((IntKind.i64.wrap (n148 - s2.1)) : Int) < (IntKind.i64.wrap (s2.2.1 - n148)))) = true then
((callF Try.prog 68 #[.slice u0.1 u0.2.1 u0.2.2, .int .i64 s2.1, .int .i64 n148, .int .i64 (IntKind.i64.wrap (s2.2.2.1 - 1))] r146.2).bind fun r150 =>
(asTup 0 r150.1).bind fun _ =>
some (.normal, ((IntKind.i64.wrap (n148 + 1)), s2.2.1, (IntKind.i64.wrap (s2.2.2.1 - 1)), (decide (((IntKind.i64.wrap (n148 - s2.1)) : Int) ≥ (IntKind.i64.wrap (Int.tdiv (IntKind.i64.wrap (s2.2.1 - s2.1)) 8)))), b149), r150.2))
else
((callF Try.prog 68 #[.slice u0.1 u0.2.1 u0.2.2, .int .i64 (IntKind.i64.wrap (n148 + 1)), .int .i64 s2.2.1, .int .i64 (IntKind.i64.wrap (s2.2.2.1 - 1))] r146.2).bind fun r151 =>
(asTup 0 r151.1).bind fun _ =>
some (.normal, (s2.1, n148, (IntKind.i64.wrap (s2.2.2.1 - 1)), (decide (((IntKind.i64.wrap (s2.2.1 - n148)) : Int) ≥ (IntKind.i64.wrap (Int.tdiv (IntKind.i64.wrap (s2.2.1 - s2.1)) 8)))), b149), r151.2)))))
else
(if (decide ((s2.1 : Int) > 0)) = true then
((idxA u0.1 u0.2.1 1 (IntKind.i64.wrap (s2.1 - 1))).bind fun a152 =>
(World.cell? (World.drew r8.2) a152).bind fun v153 =>
(asI .i64 v153).bind fun n154 =>
(idxA u0.1 u0.2.1 1 n10).bind fun a155 =>
(World.cell? (World.drew r8.2) a155).bind fun v156 =>
(asI .i64 v156).bind fun n157 =>
(callF Try.prog 90 #[.int .i64 n154, .int .i64 n157] (World.drew r8.2)).bind fun r158 =>
(asB r158.1).bind fun b159 =>
if (!b159) = true then
((callF Try.prog 91 #[.slice u0.1 u0.2.1 u0.2.2, .int .i64 s2.1, .int .i64 s2.2.1, .int .i64 n10] r158.2).bind fun r160 =>
(asI .i64 r160.1).bind fun n161 =>
some (.normal, (n161, s2.2.1, (IntKind.i64.wrap (s2.2.2.1 - 1)), s2.2.2.2.1, s2.2.2.2.2), r160.2))
else
((callF Try.prog 92 #[.slice u0.1 u0.2.1 u0.2.2, .int .i64 s2.1, .int .i64 s2.2.1, .int .i64 n10] r158.2).bind fun r162 =>
(asTup 2 r162.1).bind fun l163 =>
(asI .i64 (l163.getD 0 undef)).bind fun n164 =>
(asB (l163.getD 1 undef)).bind fun b165 =>
if (decide (((IntKind.i64.wrap (n164 - s2.1)) : Int) < (IntKind.i64.wrap (s2.2.1 - n164)))) = true then
((callF Try.prog 68 #[.slice u0.1 u0.2.1 u0.2.2, .int .i64 s2.1, .int .i64 n164, .int .i64 (IntKind.i64.wrap (s2.2.2.1 - 1))] r162.2).bind fun r166 =>
(asTup 0 r166.1).bind fun _ =>
some (.normal, ((IntKind.i64.wrap (n164 + 1)), s2.2.1, (IntKind.i64.wrap (s2.2.2.1 - 1)), (decide (((IntKind.i64.wrap (n164 - s2.1)) : Int) ≥ (IntKind.i64.wrap (Int.tdiv (IntKind.i64.wrap (s2.2.1 - s2.1)) 8)))), b165), r166.2))
else
((callF Try.prog 68 #[.slice u0.1 u0.2.1 u0.2.2, .int .i64 (IntKind.i64.wrap (n164 + 1)), .int .i64 s2.2.1, .int .i64 (IntKind.i64.wrap (s2.2.2.1 - 1))] r162.2).bind fun r167 =>
(asTup 0 r167.1).bind fun _ =>
some (.normal, (s2.1, n164, (IntKind.i64.wrap (s2.2.2.1 - 1)), (decide (((IntKind.i64.wrap (s2.2.1 - n164)) : Int) ≥ (IntKind.i64.wrap (Int.tdiv (IntKind.i64.wrap (s2.2.1 - s2.1)) 8)))), b165), r167.2))))
else
((callF Try.prog 92 #[.slice u0.1 u0.2.1 u0.2.2, .int .i64 s2.1, .int .i64 s2.2.1, .int .i64 n10] (World.drew r8.2)).bind fun r168 =>
(asTup 2 r168.1).bind fun l169 =>
(asI .i64 (l169.getD 0 undef)).bind fun n170 =>
(asB (l169.getD 1 undef)).bind fun b171 =>
if (decide (((IntKind.i64.wrap (n170 - s2.1)) : Int) < (IntKind.i64.wrap (s2.2.1 - n170)))) = true then
((callF Try.prog 68 #[.slice u0.1 u0.2.1 u0.2.2, .int .i64 s2.1, .int .i64 n170, .int .i64 (IntKind.i64.wrap (s2.2.2.1 - 1))] r168.2).bind fun r172 =>
(asTup 0 r172.1).bind fun _ =>
some (.normal, ((IntKind.i64.wrap (n170 + 1)), s2.2.1, (IntKind.i64.wrap (s2.2.2.1 - 1)), (decide (((IntKind.i64.wrap (n170 - s2.1)) : Int) ≥ (IntKind.i64.wrap (Int.tdiv (IntKind.i64.wrap (s2.2.1 - s2.1)) 8)))), b171), r172.2))
else
((callF Try.prog 68 #[.slice u0.1 u0.2.1 u0.2.2, .int .i64 (IntKind.i64.wrap (n170 + 1)), .int .i64 s2.2.1, .int .i64 (IntKind.i64.wrap (s2.2.2.1 - 1))] r168.2).bind fun r173 =>
(asTup 0 r173.1).bind fun _ =>
some (.normal, (s2.1, n170, (IntKind.i64.wrap (s2.2.2.1 - 1)), (decide (((IntKind.i64.wrap (s2.2.1 - n170)) : Int) ≥ (IntKind.i64.wrap (Int.tdiv (IntKind.i64.wrap (s2.2.1 - s2.1)) 8)))), b171), r173.2))))))
else
((callF Try.prog 87 #[.slice u0.1 u0.2.1 u0.2.2, .int .i64 s2.1, .int .i64 s2.2.1] w3).bind fun r174 =>
(asTup 2 r174.1).bind fun l175 =>
(asI .i64 (l175.getD 0 undef)).bind fun n176 =>
(asI .i64 (l175.getD 1 undef)).bind fun n177 =>
if ((n177 : Int) == 2) = true then
((callF Try.prog 88 #[.slice u0.1 u0.2.1 u0.2.2, .int .i64 s2.1, .int .i64 s2.2.1] r174.2).bind fun r179 =>
(asTup 0 r179.1).bind fun _ =>
if s2.2.2.2.1 = true then
(if s2.2.2.2.2 = true then
((callF Try.prog 89 #[.slice u0.1 u0.2.1 u0.2.2, .int .i64 s2.1, .int .i64 s2.2.1] r179.2).bind fun r181 =>
(asB r181.1).bind fun b182 =>
if b182 = true then
(some (.ret, (s2.1, s2.2.1, s2.2.2.1, s2.2.2.2.1, s2.2.2.2.2), r181.2))
else
(if (decide ((s2.1 : Int) > 0)) = true then
((idxA u0.1 u0.2.1 1 (IntKind.i64.wrap (s2.1 - 1))).bind fun a183 =>
(World.cell? (World.drew r181.2) a183).bind fun v184 =>
(asI .i64 v184).bind fun n185 =>
(idxA u0.1 u0.2.1 1 (IntKind.i64.wrap ((IntKind.i64.wrap (s2.2.1 - 1)) - (IntKind.i64.wrap (n176 - s2.1))))).bind fun a186 =>
(World.cell? (World.drew r181.2) a186).bind fun v187 =>
(asI .i64 v187).bind fun n188 =>
(callF Try.prog 90 #[.int .i64 n185, .int .i64 n188] (World.drew r181.2)).bind fun r189 =>
(asB r189.1).bind fun b190 =>
if (!b190) = true then
((callF Try.prog 91 #[.slice u0.1 u0.2.1 u0.2.2, .int .i64 s2.1, .int .i64 s2.2.1, .int .i64 (IntKind.i64.wrap ((IntKind.i64.wrap (s2.2.1 - 1)) - (IntKind.i64.wrap (n176 - s2.1))))] r189.2).bind fun r191 =>
(asI .i64 r191.1).bind fun n192 =>
some (.normal, (n192, s2.2.1, s2.2.2.1, s2.2.2.2.1, s2.2.2.2.2), r191.2))
else
((callF Try.prog 92 #[.slice u0.1 u0.2.1 u0.2.2, .int .i64 s2.1, .int .i64 s2.2.1, .int .i64 (IntKind.i64.wrap ((IntKind.i64.wrap (s2.2.1 - 1)) - (IntKind.i64.wrap (n176 - s2.1))))] r189.2).bind fun r193 =>
(asTup 2 r193.1).bind fun l194 =>
(asI .i64 (l194.getD 0 undef)).bind fun n195 =>
(asB (l194.getD 1 undef)).bind fun b196 =>
if (decide (((IntKind.i64.wrap (n195 - s2.1)) : Int) < (IntKind.i64.wrap (s2.2.1 - n195)))) = true then
((callF Try.prog 68 #[.slice u0.1 u0.2.1 u0.2.2, .int .i64 s2.1, .int .i64 n195, .int .i64 s2.2.2.1] r193.2).bind fun r197 =>
(asTup 0 r197.1).bind fun _ =>
some (.normal, ((IntKind.i64.wrap (n195 + 1)), s2.2.1, s2.2.2.1, (decide (((IntKind.i64.wrap (n195 - s2.1)) : Int) ≥ (IntKind.i64.wrap (Int.tdiv (IntKind.i64.wrap (s2.2.1 - s2.1)) 8)))), b196), r197.2))
else
((callF Try.prog 68 #[.slice u0.1 u0.2.1 u0.2.2, .int .i64 (IntKind.i64.wrap (n195 + 1)), .int .i64 s2.2.1, .int .i64 s2.2.2.1] r193.2).bind fun r198 =>
(asTup 0 r198.1).bind fun _ =>
some (.normal, (s2.1, n195, s2.2.2.1, (decide (((IntKind.i64.wrap (s2.2.1 - n195)) : Int) ≥ (IntKind.i64.wrap (Int.tdiv (IntKind.i64.wrap (s2.2.1 - s2.1)) 8)))), b196), r198.2))))
else
((callF Try.prog 92 #[.slice u0.1 u0.2.1 u0.2.2, .int .i64 s2.1, .int .i64 s2.2.1, .int .i64 (IntKind.i64.wrap ((IntKind.i64.wrap (s2.2.1 - 1)) - (IntKind.i64.wrap (n176 - s2.1))))] (World.drew r181.2)).bind fun r199 =>
(asTup 2 r199.1).bind fun l200 =>
(asI .i64 (l200.getD 0 undef)).bind fun n201 =>
(asB (l200.getD 1 undef)).bind fun b202 =>
if (decide (((IntKind.i64.wrap (n201 - s2.1)) : Int) < (IntKind.i64.wrap (s2.2.1 - n201)))) = true then
((callF Try.prog 68 #[.slice u0.1 u0.2.1 u0.2.2, .int .i64 s2.1, .int .i64 n201, .int .i64 s2.2.2.1] r199.2).bind fun r203 =>
(asTup 0 r203.1).bind fun _ =>
some (.normal, ((IntKind.i64.wrap (n201 + 1)), s2.2.1, s2.2.2.1, (decide (((IntKind.i64.wrap (n201 - s2.1)) : Int) ≥ (IntKind.i64.wrap (Int.tdiv (IntKind.i64.wrap (s2.2.1 - s2.1)) 8)))), b202), r203.2))
else
((callF Try.prog 68 #[.slice u0.1 u0.2.1 u0.2.2, .int .i64 (IntKind.i64.wrap (n201 + 1)), .int .i64 s2.2.1, .int .i64 s2.2.2.1] r199.2).bind fun r204 =>
(asTup 0 r204.1).bind fun _ =>
some (.normal, (s2.1, n201, s2.2.2.1, (decide (((IntKind.i64.wrap (s2.2.1 - n201)) : Int) ≥ (IntKind.i64.wrap (Int.tdiv (IntKind.i64.wrap (s2.2.1 - s2.1)) 8)))), b202), r204.2)))))
else
(if (decide ((s2.1 : Int) > 0)) = true then
((idxA u0.1 u0.2.1 1 (IntKind.i64.wrap (s2.1 - 1))).bind fun a205 =>
(World.cell? (World.drew r179.2) a205).bind fun v206 =>
(asI .i64 v206).bind fun n207 =>
(idxA u0.1 u0.2.1 1 (IntKind.i64.wrap ((IntKind.i64.wrap (s2.2.1 - 1)) - (IntKind.i64.wrap (n176 - s2.1))))).bind fun a208 =>
(World.cell? (World.drew r179.2) a208).bind fun v209 =>
(asI .i64 v209).bind fun n210 =>
(callF Try.prog 90 #[.int .i64 n207, .int .i64 n210] (World.drew r179.2)).bind fun r211 =>
(asB r211.1).bind fun b212 =>
if (!b212) = true then
((callF Try.prog 91 #[.slice u0.1 u0.2.1 u0.2.2, .int .i64 s2.1, .int .i64 s2.2.1, .int .i64 (IntKind.i64.wrap ((IntKind.i64.wrap (s2.2.1 - 1)) - (IntKind.i64.wrap (n176 - s2.1))))] r211.2).bind fun r213 =>
(asI .i64 r213.1).bind fun n214 =>
some (.normal, (n214, s2.2.1, s2.2.2.1, s2.2.2.2.1, s2.2.2.2.2), r213.2))
else
((callF Try.prog 92 #[.slice u0.1 u0.2.1 u0.2.2, .int .i64 s2.1, .int .i64 s2.2.1, .int .i64 (IntKind.i64.wrap ((IntKind.i64.wrap (s2.2.1 - 1)) - (IntKind.i64.wrap (n176 - s2.1))))] r211.2).bind fun r215 =>
(asTup 2 r215.1).bind fun l216 =>
(asI .i64 (l216.getD 0 undef)).bind fun n217 =>
(asB (l216.getD 1 undef)).bind fun b218 =>
if (decide (((IntKind.i64.wrap (n217 - s2.1)) : Int) < (IntKind.i64.wrap (s2.2.1 - n217)))) = true then
((callF Try.prog 68 #[.slice u0.1 u0.2.1 u0.2.2, .int .i64 s2.1, .int .i64 n217, .int .i64 s2.2.2.1] r215.2).bind fun r219 =>
(asTup 0 r219.1).bind fun _ =>
some (.normal, ((IntKind.i64.wrap (n217 + 1)), s2.2.1, s2.2.2.1, (decide (((IntKind.i64.wrap (n217 - s2.1)) : Int) ≥ (IntKind.i64.wrap (Int.tdiv (IntKind.i64.wrap (s2.2.1 - s2.1)) 8)))), b218), r219.2))
else
((callF Try.prog 68 #[.slice u0.1 u0.2.1 u0.2.2, .int .i64 (IntKind.i64.wrap (n217 + 1)), .int .i64 s2.2.1, .int .i64 s2.2.2.1] r215.2).bind fun r220 =>
(asTup 0 r220.1).bind fun _ =>
some (.normal, (s2.1, n217, s2.2.2.1, (decide (((IntKind.i64.wrap (s2.2.1 - n217)) : Int) ≥ (IntKind.i64.wrap (Int.tdiv (IntKind.i64.wrap (s2.2.1 - s2.1)) 8)))), b218), r220.2))))
else
((callF Try.prog 92 #[.slice u0.1 u0.2.1 u0.2.2, .int .i64 s2.1, .int .i64 s2.2.1, .int .i64 (IntKind.i64.wrap ((IntKind.i64.wrap (s2.2.1 - 1)) - (IntKind.i64.wrap (n176 - s2.1))))] (World.drew r179.2)).bind fun r221 =>
(asTup 2 r221.1).bind fun l222 =>
(asI .i64 (l222.getD 0 undef)).bind fun n223 =>
(asB (l222.getD 1 undef)).bind fun b224 =>
if (decide (((IntKind.i64.wrap (n223 - s2.1)) : Int) < (IntKind.i64.wrap (s2.2.1 - n223)))) = true then
((callF Try.prog 68 #[.slice u0.1 u0.2.1 u0.2.2, .int .i64 s2.1, .int .i64 n223, .int .i64 s2.2.2.1] r221.2).bind fun r225 =>
(asTup 0 r225.1).bind fun _ =>
some (.normal, ((IntKind.i64.wrap (n223 + 1)), s2.2.1, s2.2.2.1, (decide (((IntKind.i64.wrap (n223 - s2.1)) : Int) ≥ (IntKind.i64.wrap (Int.tdiv (IntKind.i64.wrap (s2.2.1 - s2.1)) 8)))), b224), r225.2))
else
((callF Try.prog 68 #[.slice u0.1 u0.2.1 u0.2.2, .int .i64 (IntKind.i64.wrap (n223 + 1)), .int .i64 s2.2.1, .int .i64 s2.2.2.1] r221.2).bind fun r226 =>
(asTup 0 r226.1).bind fun _ =>
some (.normal, (s2.1, n223, s2.2.2.1, (decide (((IntKind.i64.wrap (s2.2.1 - n223)) : Int) ≥ (IntKind.i64.wrap (Int.tdiv (IntKind.i64.wrap (s2.2.1 - s2.1)) 8)))), b224), r226.2)))))
else
(if (decide ((s2.1 : Int) > 0)) = true then
((idxA u0.1 u0.2.1 1 (IntKind.i64.wrap (s2.1 - 1))).bind fun a227 =>
(World.cell? (World.drew r179.2) a227).bind fun v228 =>
(asI .i64 v228).bind fun n229 =>
(idxA u0.1 u0.2.1 1 (IntKind.i64.wrap ((IntKind.i64.wrap (s2.2.1 - 1)) - (IntKind.i64.wrap (n176 - s2.1))))).bind fun a230 =>
(World.cell? (World.drew r179.2) a230).bind fun v231 =>
(asI .i64 v231).bind fun n232 =>
(callF Try.prog 90 #[.int .i64 n229, .int .i64 n232] (World.drew r179.2)).bind fun r233 =>
(asB r233.1).bind fun b234 =>
if (!b234) = true then
((callF Try.prog 91 #[.slice u0.1 u0.2.1 u0.2.2, .int .i64 s2.1, .int .i64 s2.2.1, .int .i64 (IntKind.i64.wrap ((IntKind.i64.wrap (s2.2.1 - 1)) - (IntKind.i64.wrap (n176 - s2.1))))] r233.2).bind fun r235 =>
(asI .i64 r235.1).bind fun n236 =>
some (.normal, (n236, s2.2.1, s2.2.2.1, s2.2.2.2.1, s2.2.2.2.2), r235.2))
else
((callF Try.prog 92 #[.slice u0.1 u0.2.1 u0.2.2, .int .i64 s2.1, .int .i64 s2.2.1, .int .i64 (IntKind.i64.wrap ((IntKind.i64.wrap (s2.2.1 - 1)) - (IntKind.i64.wrap (n176 - s2.1))))] r233.2).bind fun r237 =>
(asTup 2 r237.1).bind fun l238 =>
(asI .i64 (l238.getD 0 undef)).bind fun n239 =>
(asB (l238.getD 1 undef)).bind fun b240 =>
if (decide (((IntKind.i64.wrap (n239 - s2.1)) : Int) < (IntKind.i64.wrap (s2.2.1 - n239)))) = true then
((callF Try.prog 68 #[.slice u0.1 u0.2.1 u0.2.2, .int .i64 s2.1, .int .i64 n239, .int .i64 s2.2.2.1] r237.2).bind fun r241 =>
(asTup 0 r241.1).bind fun _ =>
some (.normal, ((IntKind.i64.wrap (n239 + 1)), s2.2.1, s2.2.2.1, (decide (((IntKind.i64.wrap (n239 - s2.1)) : Int) ≥ (IntKind.i64.wrap (Int.tdiv (IntKind.i64.wrap (s2.2.1 - s2.1)) 8)))), b240), r241.2))
else
((callF Try.prog 68 #[.slice u0.1 u0.2.1 u0.2.2, .int .i64 (IntKind.i64.wrap (n239 + 1)), .int .i64 s2.2.1, .int .i64 s2.2.2.1] r237.2).bind fun r242 =>
(asTup 0 r242.1).bind fun _ =>
some (.normal, (s2.1, n239, s2.2.2.1, (decide (((IntKind.i64.wrap (s2.2.1 - n239)) : Int) ≥ (IntKind.i64.wrap (Int.tdiv (IntKind.i64.wrap (s2.2.1 - s2.1)) 8)))), b240), r242.2))))
else
((callF Try.prog 92 #[.slice u0.1 u0.2.1 u0.2.2, .int .i64 s2.1, .int .i64 s2.2.1, .int .i64 (IntKind.i64.wrap ((IntKind.i64.wrap (s2.2.1 - 1)) - (IntKind.i64.wrap (n176 - s2.1))))] (World.drew r179.2)).bind fun r243 =>
(asTup 2 r243.1).bind fun l244 =>
(asI .i64 (l244.getD 0 undef)).bind fun n245 =>
(asB (l244.getD 1 undef)).bind fun b246 =>
if (decide (((IntKind.i64.wrap (n245 - s2.1)) : Int) < (IntKind.i64.wrap (s2.2.1 - n245)))) = true then
((callF Try.prog 68 #[.slice u0.1 u0.2.1 u0.2.2, .int .i64 s2.1, .int .i64 n245, .int .i64 s2.2.2.1] r243.2).bind fun r247 =>
(asTup 0 r247.1).bind fun _ =>
some (.normal, ((IntKind.i64.wrap (n245 + 1)), s2.2.1, s2.2.2.1, (decide (((IntKind.i64.wrap (n245 - s2.1)) : Int) ≥ (IntKind.i64.wrap (Int.tdiv (IntKind.i64.wrap (s2.2.1 - s2.1)) 8)))), b246), r247.2))
else
((callF Try.prog 68 #[.slice u0.1 u0.2.1 u0.2.2, .int .i64 (IntKind.i64.wrap (n245 + 1)), .int .i64 s2.2.1, .int .i64 s2.2.2.1] r243.2).bind fun r248 =>
(asTup 0 r248.1).bind fun _ =>
some (.normal, (s2.1, n245, s2.2.2.1, (decide (((IntKind.i64.wrap (s2.2.1 - n245)) : Int) ≥ (IntKind.i64.wrap (Int.tdiv (IntKind.i64.wrap (s2.2.1 - s2.1)) 8)))), b246), r248.2)))))
else
(if s2.2.2.2.1 = true then
(if s2.2.2.2.2 = true then
(if ((n177 : Int) == 1) = true then
((callF Try.prog 89 #[.slice u0.1 u0.2.1 u0.2.2, .int .i64 s2.1, .int .i64 s2.2.1] r174.2).bind fun r250 =>
(asB r250.1).bind fun b251 =>
if b251 = true then
(some (.ret, (s2.1, s2.2.1, s2.2.2.1, s2.2.2.2.1, s2.2.2.2.2), r250.2))
else
(if (decide ((s2.1 : Int) > 0)) = true then
((idxA u0.1 u0.2.1 1 (IntKind.i64.wrap (s2.1 - 1))).bind fun a252 =>
(World.cell? (World.drew r250.2) a252).bind fun v253 =>
(asI .i64 v253).bind fun n254 =>
(idxA u0.1 u0.2.1 1 n176).bind fun a255 =>
(World.cell? (World.drew r250.2) a255).bind fun v256 =>
(asI .i64 v256).bind fun n257 =>
(callF Try.prog 90 #[.int .i64 n254, .int .i64 n257] (World.drew r250.2)).bind fun r258 =>
(asB r258.1).bind fun b259 =>
if (!b259) = true then
((callF Try.prog 91 #[.slice u0.1 u0.2.1 u0.2.2, .int .i64 s2.1, .int .i64 s2.2.1, .int .i64 n176] r258.2).bind fun r260 =>
(asI .i64 r260.1).bind fun n261 =>
some (.normal, (n261, s2.2.1, s2.2.2.1, s2.2.2.2.1, s2.2.2.2.2), r260.2))
else
((callF Try.prog 92 #[.slice u0.1 u0.2.1 u0.2.2, .int .i64 s2.1, .int .i64 s2.2.1, .int .i64 n176] r258.2).bind fun r262 =>
(asTup 2 r262.1).bind fun l263 =>
(asI .i64 (l263.getD 0 undef)).bind fun n264 =>
(asB (l263.getD 1 undef)).bind fun b265 =>
if (decide (((IntKind.i64.wrap (n264 - s2.1)) : Int) < (IntKind.i64.wrap (s2.2.1 - n264)))) = true then
((callF Try.prog 68 #[.slice u0.1 u0.2.1 u0.2.2, .int .i64 s2.1, .int .i64 n264, .int .i64 s2.2.2.1] r262.2).bind fun r266 =>
(asTup 0 r266.1).bind fun _ =>
some (.normal, ((IntKind.i64.wrap (n264 + 1)), s2.2.1, s2.2.2.1, (decide (((IntKind.i64.wrap (n264 - s2.1)) : Int) ≥ (IntKind.i64.wrap (Int.tdiv (IntKind.i64.wrap (s2.2.1 - s2.1)) 8)))), b265), r266.2))
else
((callF Try.prog 68 #[.slice u0.1 u0.2.1 u0.2.2, .int .i64 (IntKind.i64.wrap (n264 + 1)), .int .i64 s2.2.1, .int .i64 s2.2.2.1] r262.2).bind fun r267 =>
(asTup 0 r267.1).bind fun _ =>
some (.normal, (s2.1, n264, s2.2.2.1, (decide (((IntKind.i64.wrap (s2.2.1 - n264)) : Int) ≥ (IntKind.i64.wrap (Int.tdiv (IntKind.i64.wrap (s2.2.1 - s2.1)) 8)))), b265), r267.2))))
else
((callF Try.prog 92 #[.slice u0.1 u0.2.1 u0.2.2, .int .i64 s2.1, .int .i64 s2.2.1, .int .i64 n176] (World.drew r250.2)).bind fun r268 =>
(asTup 2 r268.1).bind fun l269 =>
(asI .i64 (l269.getD 0 undef)).bind fun n270 =>
(asB (l269.getD 1 undef)).bind fun b271 =>
if (decide (((IntKind.i64.wrap (n270 - s2.1)) : Int) < (IntKind.i64.wrap (s2.2.1 - n270)))) = true then
((callF Try.prog 68 #[.slice u0.1 u0.2.1 u0.2.2, .int .i64 s2.1, .int .i64 n270, .int .i64 s2.2.2.1] r268.2).bind fun r272 =>
(asTup 0 r272.1).bind fun _ =>
some (.normal, ((IntKind.i64.wrap (n270 + 1)), s2.2.1, s2.2.2.1, (decide (((IntKind.i64.wrap (n270 - s2.1)) : Int) ≥ (IntKind.i64.wrap (Int.tdiv (IntKind.i64.wrap (s2.2.1 - s2.1)) 8)))), b271), r272.2))
else
((callF Try.prog 68 #[.slice u0.1 u0.2.1 u0.2.2, .int .i64 (IntKind.i64.wrap (n270 + 1)), .int .i64 s2.2.1, .int .i64 s2.2.2.1] r268.2).bind fun r273 =>
(asTup 0 r273.1).bind fun _ =>
some (.normal, (s2.1, n270, s2.2.2.1, (decide (((IntKind.i64.wrap (s2.2.1 - n270)) : Int) ≥ (IntKind.i64.wrap (Int.tdiv (IntKind.i64.wrap (s2.2.1 - s2.1)) 8)))), b271), r273.2)))))
else
(if (decide ((s2.1 : Int) > 0)) = true then
((idxA u0.1 u0.2.1 1 (IntKind.i64.wrap (s2.1 - 1))).bind fun a274 =>
(World.cell? (World.drew r174.2) a274).bind fun v275 =>
(asI .i64 v275).bind fun n276 =>
(idxA u0.1 u0.2.1 1 n176).bind fun a277 =>
(World.cell? (World.drew r174.2) a277).bind fun v278 =>
(asI .i64 v278).bind fun n279 =>
(callF Try.prog 90 #[.int .i64 n276, .int .i64 n279] (World.drew r174.2)).bind fun r280 =>
(asB r280.1).bind fun b281 =>
if (!b281) = true then
((callF Try.prog 91 #[.slice u0.1 u0.2.1 u0.2.2, .int .i64 s2.1, .int .i64 s2.2.1, .int .i64 n176] r280.2).bind fun r282 =>
(asI .i64 r282.1).bind fun n283 =>
some (.normal, (n283, s2.2.1, s2.2.2.1, s2.2.2.2.1, s2.2.2.2.2), r282.2))
else
((callF Try.prog 92 #[.slice u0.1 u0.2.1 u0.2.2, .int .i64 s2.1, .int .i64 s2.2.1, .int .i64 n176] r280.2).bind fun r284 =>
(asTup 2 r284.1).bind fun l285 =>
(asI .i64 (l285.getD 0 undef)).bind fun n286 =>
(asB (l285.getD 1 undef)).bind fun b287 =>
if (decide (((IntKind.i64.wrap (n286 - s2.1)) : Int) < (IntKind.i64.wrap (s2.2.1 - n286)))) = true then
((callF Try.prog 68 #[.slice u0.1 u0.2.1 u0.2.2, .int .i64 s2.1, .int .i64 n286, .int .i64 s2.2.2.1] r284.2).bind fun r288 =>
(asTup 0 r288.1).bind fun _ =>
some (.normal, ((IntKind.i64.wrap (n286 + 1)), s2.2.1, s2.2.2.1, (decide (((IntKind.i64.wrap (n286 - s2.1)) : Int) ≥ (IntKind.i64.wrap (Int.tdiv (IntKind.i64.wrap (s2.2.1 - s2.1)) 8)))), b287), r288.2))
else
((callF Try.prog 68 #[.slice u0.1 u0.2.1 u0.2.2, .int .i64 (IntKind.i64.wrap (n286 + 1)), .int .i64 s2.2.1, .int .i64 s2.2.2.1] r284.2).bind fun r289 =>
(asTup 0 r289.1).bind fun _ =>
some (.normal, (s2.1, n286, s2.2.2.1, (decide (((IntKind.i64.wrap (s2.2.1 - n286)) : Int) ≥ (IntKind.i64.wrap (Int.tdiv (IntKind.i64.wrap (s2.2.1 - s2.1)) 8)))), b287), r289.2))))
else
((callF Try.prog 92 #[.slice u0.1 u0.2.1 u0.2.2, .int .i64 s2.1, .int .i64 s2.2.1, .int .i64 n176] (World.drew r174.2)).bind fun r290 =>
(asTup 2 r290.1).bind fun l291 =>
(asI .i64 (l291.getD 0 undef)).bind fun n292 =>
(asB (l291.getD 1 undef)).bind fun b293 =>
if (decide (((IntKind.i64.wrap (n292 - s2.1)) : Int) < (IntKind.i64.wrap (s2.2.1 - n292)))) = true then
((callF Try.prog 68 #[.slice u0.1 u0.2.1 u0.2.2, .int .i64 s2.1, .int .i64 n292, .int .i64 s2.2.2.1] r290.2).bind fun r294 =>
(asTup 0 r294.1).bind fun _ =>
some (.normal, ((IntKind.i64.wrap (n292 + 1)), s2.2.1, s2.2.2.1, (decide (((IntKind.i64.wrap (n292 - s2.1)) : Int) ≥ (IntKind.i64.wrap (Int.tdiv (IntKind.i64.wrap (s2.2.1 - s2.1)) 8)))), b293), r294.2))
else
((callF Try.prog 68 #[.slice u0.1 u0.2.1 u0.2.2, .int .i64 (IntKind.i64.wrap (n292 + 1)), .int .i64 s2.2.1, .int .i64 s2.2.2.1] r290.2).bind fun r295 =>
(asTup 0 r295.1).bind fun _ =>
some (.normal, (s2.1, n292, s2.2.2.1, (decide (((IntKind.i64.wrap (s2.2.1 - n292)) : Int) ≥ (IntKind.i64.wrap (Int.tdiv (IntKind.i64.wrap (s2.2.1 - s2.1)) 8)))), b293), r295.2)))))
else
(if (decide ((s2.1 : Int) > 0)) = true then
((idxA u0.1 u0.2.1 1 (IntKind.i64.wrap (s2.1 - 1))).bind fun a296 =>
(World.cell? (World.drew r174.2) a296).bind fun v297 =>
(asI .i64 v297).bind fun n298 =>
(idxA u0.1 u0.2.1 1 n176).bind fun a299 =>
(World.cell? (World.drew r174.2) a299).bind fun v300 =>
(asI .i64 v300).bind fun n301 =>
(callF Try.prog 90 #[.int .i64 n298, .int .i64 n301] (World.drew r174.2)).bind fun r302 =>
(asB r302.1).bind fun b303 =>
if (!b303) = true then
((callF Try.prog 91 #[.slice u0.1 u0.2.1 u0.2.2, .int .i64 s2.1, .int .i64 s2.2.1, .int .i64 n176] r302.2).bind fun r304 =>
(asI .i64 r304.1).bind fun n305 =>
some (.normal, (n305, s2.2.1, s2.2.2.1, s2.2.2.2.1, s2.2.2.2.2), r304.2))
else
((callF Try.prog 92 #[.slice u0.1 u0.2.1 u0.2.2, .int .i64 s2.1, .int .i64 s2.2.1, .int .i64 n176] r302.2).bind fun r306 =>
(asTup 2 r306.1).bind fun l307 =>
(asI .i64 (l307.getD 0 undef)).bind fun n308 =>
(asB (l307.getD 1 undef)).bind fun b309 =>
if (decide (((IntKind.i64.wrap (n308 - s2.1)) : Int) < (IntKind.i64.wrap (s2.2.1 - n308)))) = true then
((callF Try.prog 68 #[.slice u0.1 u0.2.1 u0.2.2, .int .i64 s2.1, .int .i64 n308, .int .i64 s2.2.2.1] r306.2).bind fun r310 =>
(asTup 0 r310.1).bind fun _ =>
some (.normal, ((IntKind.i64.wrap (n308 + 1)), s2.2.1, s2.2.2.1, (decide (((IntKind.i64.wrap (n308 - s2.1)) : Int) ≥ (IntKind.i64.wrap (Int.tdiv (IntKind.i64.wrap (s2.2.1 - s2.1)) 8)))), b309), r310.2))
else
((callF Try.prog 68 #[.slice u0.1 u0.2.1 u0.2.2, .int .i64 (IntKind.i64.wrap (n308 + 1)), .int .i64 s2.2.1, .int .i64 s2.2.2.1] r306.2).bind fun r311 =>
(asTup 0 r311.1).bind fun _ =>
some (.normal, (s2.1, n308, s2.2.2.1, (decide (((IntKind.i64.wrap (s2.2.1 - n308)) : Int) ≥ (IntKind.i64.wrap (Int.tdiv (IntKind.i64.wrap (s2.2.1 - s2.1)) 8)))), b309), r311.2))))
else
((callF Try.prog 92 #[.slice u0.1 u0.2.1 u0.2.2, .int .i64 s2.1, .int .i64 s2.2.1, .int .i64 n176] (World.drew r174.2)).bind fun r312 =>
(asTup 2 r312.1).bind fun l313 =>
(asI .i64 (l313.getD 0 undef)).bind fun n314 =>
(asB (l313.getD 1 undef)).bind fun b315 =>
if (decide (((IntKind.i64.wrap (n314 - s2.1)) : Int) < (IntKind.i64.wrap (s2.2.1 - n314)))) = true then
((callF Try.prog 68 #[.slice u0.1 u0.2.1 u0.2.2, .int .i64 s2.1, .int .i64 n314, .int .i64 s2.2.2.1] r312.2).bind fun r316 =>
(asTup 0 r316.1).bind fun _ =>
some (.normal, ((IntKind.i64.wrap (n314 + 1)), s2.2.1, s2.2.2.1, (decide (((IntKind.i64.wrap (n314 - s2.1)) : Int) ≥ (IntKind.i64.wrap (Int.tdiv (IntKind.i64.wrap (s2.2.1 - s2.1)) 8)))), b315), r316.2))
else
((callF Try.prog 68 #[.slice u0.1 u0.2.1 u0.2.2, .int .i64 (IntKind.i64.wrap (n314 + 1)), .int .i64 s2.2.1, .int .i64 s2.2.2.1] r312.2).bind fun r317 =>
(asTup 0 r317.1).bind fun _ =>
some (.normal, (s2.1, n314, s2.2.2.1, (decide (((IntKind.i64.wrap (s2.2.1 - n314)) : Int) ≥ (IntKind.i64.wrap (Int.tdiv (IntKind.i64.wrap (s2.2.1 - s2.1)) 8)))), b315), r317.2)))))
else
(if (decide ((s2.1 : Int) > 0)) = true then
((idxA u0.1 u0.2.1 1 (IntKind.i64.wrap (s2.1 - 1))).bind fun a318 =>
(World.cell? (World.drew r174.2) a318).bind fun v319 =>
(asI .i64 v319).bind fun n320 =>
(idxA u0.1 u0.2.1 1 n176).bind fun a321 =>
(World.cell? (World.drew r174.2) a321).bind fun v322 =>
(asI .i64 v322).bind fun n323 =>
(callF Try.prog 90 #[.int .i64 n320, .int .i64 n323] (World.drew r174.2)).bind fun r324 =>
(asB r324.1).bind fun b325 =>
if (!b325) = true then
((callF Try.prog 91 #[.slice u0.1 u0.2.1 u0.2.2, .int .i64 s2.1, .int .i64 s2.2.1, .int .i64 n176] r324.2).bind fun r326 =>
(asI .i64 r326.1).bind fun n327 =>
some (.normal, (n327, s2.2.1, s2.2.2.1, s2.2.2.2.1, s2.2.2.2.2), r326.2))
else
((callF Try.prog 92 #[.slice u0.1 u0.2.1 u0.2.2, .int .i64 s2.1, .int .i64 s2.2.1, .int .i64 n176] r324.2).bind fun r328 =>
(asTup 2 r328.1).bind fun l329 =>
(asI .i64 (l329.getD 0 undef)).bind fun n330 =>
(asB (l329.getD 1 undef)).bind fun b331 =>
if (decide (((IntKind.i64.wrap (n330 - s2.1)) : Int) < (IntKind.i64.wrap (s2.2.1 - n330)))) = true then
((callF Try.prog 68 #[.slice u0.1 u0.2.1 u0.2.2, .int .i64 s2.1, .int .i64 n330, .int .i64 s2.2.2.1] r328.2).bind fun r332 =>
(asTup 0 r332.1).bind fun _ =>
some (.normal, ((IntKind.i64.wrap (n330 + 1)), s2.2.1, s2.2.2.1, (decide (((IntKind.i64.wrap (n330 - s2.1)) : Int) ≥ (IntKind.i64.wrap (Int.tdiv (IntKind.i64.wrap (s2.2.1 - s2.1)) 8)))), b331), r332.2))
else
((callF Try.prog 68 #[.slice u0.1 u0.2.1 u0.2.2, .int .i64 (IntKind.i64.wrap (n330 + 1)), .int .i64 s2.2.1, .int .i64 s2.2.2.1] r328.2).bind fun r333 =>
(asTup 0 r333.1).bind fun _ =>
some (.normal, (s2.1, n330, s2.2.2.1, (decide (((IntKind.i64.wrap (s2.2.1 - n330)) : Int) ≥ (IntKind.i64.wrap (Int.tdiv (IntKind.i64.wrap (s2.2.1 - s2.1)) 8)))), b331), r333.2))))
else
((callF Try.prog 92 #[.slice u0.1 u0.2.1 u0.2.2, .int .i64 s2.1, .int .i64 s2.2.1, .int .i64 n176] (World.drew r174.2)).bind fun r334 =>
(asTup 2 r334.1).bind fun l335 =>
(asI .i64 (l335.getD 0 undef)).bind fun n336 =>
(asB (l335.getD 1 undef)).bind fun b337 =>
if (decide (((IntKind.i64.wrap (n336 - s2.1)) : Int) < (IntKind.i64.wrap (s2.2.1 - n336)))) = true then
((callF Try.prog 68 #[.slice u0.1 u0.2.1 u0.2.2, .int .i64 s2.1, .int .i64 n336, .int .i64 s2.2.2.1] r334.2).bind fun r338 =>
(asTup 0 r338.1).bind fun _ =>
some (.normal, ((IntKind.i64.wrap (n336 + 1)), s2.2.1, s2.2.2.1, (decide (((IntKind.i64.wrap (n336 - s2.1)) : Int) ≥ (IntKind.i64.wrap (Int.tdiv (IntKind.i64.wrap (s2.2.1 - s2.1)) 8)))), b337), r338.2))
else
((callF Try.prog 68 #[.slice u0.1 u0.2.1 u0.2.2, .int .i64 (IntKind.i64.wrap (n336 + 1)), .int .i64 s2.2.1, .int .i64 s2.2.2.1] r334.2).bind fun r339 =>
(asTup 0 r339.1).bind fun _ =>
some (.normal, (s2.1, n336, s2.2.2.1, (decide (((IntKind.i64.wrap (s2.2.1 - n336)) : Int) ≥ (IntKind.i64.wrap (Int.tdiv (IntKind.i64.wrap (s2.2.1 - s2.1)) 8)))), b337), r339.2))))))))

noncomputable def g68_K340  : Exit → Env → World → Option (Value × World) :=
  retK Try.prog Try.f68.results.toList

noncomputable def g68_K341  : Exit → Env → World → Option (Value × World) :=
  blkK 0 g68_K340

/-- the loop, from a state on -/
noncomputable def g68_l1 (u0 : Option Addr × Nat × Nat) (s : Int × Int × Int × Bool × Bool) (w : World) : Option (Value × World) :=
  loopM Try.prog 134 68 g68_ann (cAt [1, 1, 0, 0] (bodyOf Try.f68)) [0, 1, 1] g68_K341 ((g68_l1_cs u0) ++ sputs [(1, .i .i64), (2, .i .i64), (3, .i .i64), (8, .b), (9, .b)] s) w

/-- behind the loop, left by ret -/
noncomputable def g68_l1_ret  (t342 : Int × Int × Int × Bool × Bool) (w343 : World) : Option (Value × World) :=
some (.tuple #[], w343)

noncomputable def g68 (u0 : Option Addr × Nat × Nat) (u1 : Int) (u2 : Int) (u3 : Int) (w0 : World) : Option (Value × World) :=
g68_l1 u0 (u1, u2, u3, true, true) w0

theorem g68_eq (u0 : Option Addr × Nat × Nat) (u1 : Int) (u2 : Int) (u3 : Int) (w0 : World) : evFn Try.prog 68 g68_ann #[.slice u0.1 u0.2.1 u0.2.2, .int .i64 u1, .int .i64 u2, .int .i64 u3] w0 = g68 u0 u1 u2 u3 w0 := by kernel_rfl

theorem g68_call {u0 : Option Addr × Nat × Nat} {u1 : Int} {u2 : Int} {u3 : Int} {w0 : World} {r : Value × World} (h : g68 u0 u1 u2 u3 w0 = some r) : callF Try.prog 68 #[.slice u0.1 u0.2.1 u0.2.2, .int .i64 u1, .int .i64 u2, .int .i64 u3] w0 = some r :=
  callF_of_evFn (ann := g68_ann) Try.call68 (by kernel_rfl) ((g68_eq u0 u1 u2 u3 w0).trans h)

theorem g68_l1_ret_of {u0 : Option Addr × Nat × Nat} {s t : Int × Int × Int × Bool × Bool} {w w' : World} (h : loopS (g68_l1_b u0) s w = some (.ret, t, w')) : g68_l1 u0 s w = g68_l1_ret t w' := by
  have h1 : g68_l1 u0 s w = loopM Try.prog 134 68 g68_ann (cAt [1, 1, 0, 0] (bodyOf Try.f68)) [0, 1, 1] g68_K341 ((g68_l1_cs u0) ++ sputs [(1, .i .i64), (2, .i .i64), (3, .i .i64), (8, .b), (9, .b)] s) w := by kernel_rfl
  have h2 : loopM Try.prog 134 68 g68_ann (cAt [1, 1, 0, 0] (bodyOf Try.f68)) [0, 1, 1] g68_K341 ((g68_l1_cs u0) ++ sputs [(1, .i .i64), (2, .i .i64), (3, .i .i64), (8, .b), (9, .b)] s) w = g68_K341 (.ret) (puts 134 ((g68_l1_cs u0) ++ sputs [(1, .i .i64), (2, .i .i64), (3, .i .i64), (8, .b), (9, .b)] t)) w' :=
    loop_rule (P := Try.prog) (N := 134) (f := 68) (ann := g68_ann) (body := (cAt [1, 1, 0, 0] (bodyOf Try.f68))) (pt := [0, 1, 1]) (K := g68_K341) (g68_l1_cs u0) [(1, .i .i64), (2, .i .i64), (3, .i .i64), (8, .b), (9, .b)] (b := g68_l1_b u0) (fun s w => by kernel_rfl) (by kernel_rfl) (by kernel_rfl) (by kernel_rfl) h
  have h3 : g68_K341 (.ret) (puts 134 ((g68_l1_cs u0) ++ sputs [(1, .i .i64), (2, .i .i64), (3, .i .i64), (8, .b), (9, .b)] t)) w' = g68_l1_ret t w' := by kernel_rfl
  exact h1.trans (h2.trans h3)

/-! 69: math/bits.Len (x: uint) -/
def g69_ann : List (List Nat × List Nat) := []

noncomputable def g69 (u0 : Int) (w0 : World) : Option (Value × World) :=
(callF Try.prog 94 #[.int .u64 u0] w0).bind fun r1 =>
(asI .i64 r1.1).bind fun n2 =>
some (.int .i64 n2, r1.2)

theorem g69_eq (u0 : Int) (w0 : World) : evFn Try.prog 69 g69_ann #[.int .u64 u0] w0 = g69 u0 w0 := by kernel_rfl

theorem g69_call {u0 : Int} {w0 : World} {r : Value × World} (h : g69 u0 w0 = some r) : callF Try.prog 69 #[.int .u64 u0] w0 = some r :=
  callF_of_evFn (ann := g69_ann) Try.call69 (by kernel_rfl) ((g69_eq u0 w0).trans h)

/-! 84: slices.insertionSortOrdered[int] (data: []int, a: int, b: int) -/
def g84_ann : List (List Nat × List Nat) := [([0, 1], [0, 1, 2, 6]), ([0, 1, 0, 0, 1, 0, 0, 1], [0, 1, 2, 6, 7])]

def g84_l1_cs (u0 : Option Addr × Nat × Nat) (u1 : Int) (u2 : Int) : List (Nat × Value) := ([(0, .slice u0.1 u0.2.1 u0.2.2), (1, .int .i64 u1), (2, .int .i64 u2)] : List (Nat × Value))

def g84_l4_cs (u0 : Option Addr × Nat × Nat) (u1 : Int) (u2 : Int) (s2 : Int) : List (Nat × Value) := ([(0, .slice u0.1 u0.2.1 u0.2.2), (1, .int .i64 u1), (2, .int .i64 u2), (6, .int .i64 s2)] : List (Nat × Value))

/-- the round of a loop (slices.insertionSortOrdered[int]) -/
noncomputable def g84_l4_b (u1 : Int) (u0 : Option Addr × Nat × Nat) (u2 : Int) (s2 : Int) (s5 : Int) (w6 : World) : Option (Exit × (Int) × World) :=
if (decide ((s5 : Int) > u1)) = true then
((idxA u0.1 u0.2.1 1 s5).bind fun a7 =>
(World.cell? (World.drew w6) a7).bind fun v8 =>
(asI .i64 v8).bind fun n9 =>
(idxA u0.1 u0.2.1 1 (IntKind.i64.wrap (s5 - 1))).bind fun a10 =>
(World.cell? (World.drew w6) a10).bind fun v11 =>
(asI .i64 v11).bind fun n12 =>
(callF Try.prog 90 #[.int .i64 n9, .int .i64 n12] (World.drew w6)).bind fun r13 =>
(asB r13.1).bind fun b14 =>
if b14 = true then
((idxA u0.1 u0.2.1 1 (IntKind.i64.wrap (s5 - 1))).bind fun a15 =>
(World.cell? (World.drew r13.2) a15).bind fun v16 =>
(asI .i64 v16).bind fun n17 =>
(idxA u0.1 u0.2.1 1 s5).bind fun a18 =>
(World.cell? (World.drew r13.2) a18).bind fun v19 =>
(asI .i64 v19).bind fun n20 =>
(idxA u0.1 u0.2.1 1 s5).bind fun a21 =>
(st1 (World.drew r13.2) a21 (.int .i64 n17)).bind fun w22 =>
(idxA u0.1 u0.2.1 1 (IntKind.i64.wrap (s5 - 1))).bind fun a23 =>
(st1 w22 a23 (.int .i64 n20)).bind fun w24 =>
some (.normal, (IntKind.i64.wrap (s5 - 1)), w24))
else
(some ((.exit 2), s5, r13.2)))
else
(some ((.exit 2), s5, (World.drew w6)))

noncomputable def g84_K25 (u0 : Option Addr × Nat × Nat) (u1 : Int) (u2 : Int) : Exit → Env → World → Option (Exit × (Int) × World) :=
  fun e ρ w => ((List.map (·.1) (g84_l1_cs u0 u1 u2)).mapM ρ).bind fun _ => loopK [(6, .i .i64)] e ρ w

noncomputable def g84_K26 (u0 : Option Addr × Nat × Nat) (u1 : Int) (u2 : Int) : Exit → Env → World → Option (Exit × (Int) × World) :=
  seqK (ev Try.prog 49 84 g84_ann (cAt [1, 0, 0, 1, 1] (bodyOf Try.f84)) [1, 1, 0, 0, 1] (g84_K25 u0 u1 u2)) (g84_K25 u0 u1 u2)

noncomputable def g84_K27 (u0 : Option Addr × Nat × Nat) (u1 : Int) (u2 : Int) : Exit → Env → World → Option (Exit × (Int) × World) :=
  blkK 1 (g84_K26 u0 u1 u2)

noncomputable def g84_K28 (u0 : Option Addr × Nat × Nat) (u1 : Int) (u2 : Int) : Exit → Env → World → Option (Exit × (Int) × World) :=
  blkK 2 (g84_K27 u0 u1 u2)

/-- the loop, from a state on -/
noncomputable def g84_l4 (u0 : Option Addr × Nat × Nat) (u1 : Int) (u2 : Int) (s2 : Int) (s : Int) (w : World) : Option (Exit × (Int) × World) :=
  loopM Try.prog 49 84 g84_ann (cAt [1, 0, 0, 1, 0, 0, 1, 0, 0] (bodyOf Try.f84)) [0, 1, 0, 0, 1, 0, 0, 1] (g84_K28 u0 u1 u2) ((g84_l4_cs u0 u1 u2 s2) ++ sputs [(7, .i .i64)] s) w

/-- behind the loop, left by x2 -/
noncomputable def g84_l4_x2 (s2 : Int) (t29 : Int) (w30 : World) : Option (Exit × (Int) × World) :=
some (.normal, (IntKind.i64.wrap (s2 + 1)), w30)

/-- the round of a loop (slices.insertionSortOrdered[int]) -/
noncomputable def g84_l1_b (u2 : Int) (u0 : Option Addr × Nat × Nat) (u1 : Int) (s2 : Int) (w3 : World) : Option (Exit × (Int) × World) :=
if (decide ((s2 : Int) < u2)) = true then
(g84_l4 u0 u1 u2 s2 s2 w3)
else
(some ((.exit 0), s2, w3))

noncomputable def g84_K31  : Exit → Env → World → Option (Value × World) :=
  retK Try.prog Try.f84.results.toList

noncomputable def g84_K32  : Exit → Env → World → Option (Value × World) :=
  blkK 0 g84_K31

/-- the loop, from a state on -/
noncomputable def g84_l1 (u0 : Option Addr × Nat × Nat) (u1 : Int) (u2 : Int) (s : Int) (w : World) : Option (Value × World) :=
  loopM Try.prog 49 84 g84_ann (cAt [1, 0, 0] (bodyOf Try.f84)) [0, 1] g84_K32 ((g84_l1_cs u0 u1 u2) ++ sputs [(6, .i .i64)] s) w

/-- behind the loop, left by x0 -/
noncomputable def g84_l1_x0  (t33 : Int) (w34 : World) : Option (Value × World) :=
some (.tuple #[], w34)

noncomputable def g84 (u0 : Option Addr × Nat × Nat) (u1 : Int) (u2 : Int) (w0 : World) : Option (Value × World) :=
g84_l1 u0 u1 u2 (IntKind.i64.wrap (u1 + 1)) w0

theorem g84_eq (u0 : Option Addr × Nat × Nat) (u1 : Int) (u2 : Int) (w0 : World) : evFn Try.prog 84 g84_ann #[.slice u0.1 u0.2.1 u0.2.2, .int .i64 u1, .int .i64 u2] w0 = g84 u0 u1 u2 w0 := by kernel_rfl

theorem g84_call {u0 : Option Addr × Nat × Nat} {u1 : Int} {u2 : Int} {w0 : World} {r : Value × World} (h : g84 u0 u1 u2 w0 = some r) : callF Try.prog 84 #[.slice u0.1 u0.2.1 u0.2.2, .int .i64 u1, .int .i64 u2] w0 = some r :=
  callF_of_evFn (ann := g84_ann) Try.call84 (by kernel_rfl) ((g84_eq u0 u1 u2 w0).trans h)

theorem g84_l4_x2_of {u0 : Option Addr × Nat × Nat} {u1 : Int} {u2 : Int} {s2 : Int} {s t : Int} {w w' : World} (h : loopS (g84_l4_b u1 u0 u2 s2) s w = some (.exit 2, t, w')) : g84_l4 u0 u1 u2 s2 s w = g84_l4_x2 s2 t w' := by
  have h1 : g84_l4 u0 u1 u2 s2 s w = loopM Try.prog 49 84 g84_ann (cAt [1, 0, 0, 1, 0, 0, 1, 0, 0] (bodyOf Try.f84)) [0, 1, 0, 0, 1, 0, 0, 1] (g84_K28 u0 u1 u2) ((g84_l4_cs u0 u1 u2 s2) ++ sputs [(7, .i .i64)] s) w := by kernel_rfl
  have h2 : loopM Try.prog 49 84 g84_ann (cAt [1, 0, 0, 1, 0, 0, 1, 0, 0] (bodyOf Try.f84)) [0, 1, 0, 0, 1, 0, 0, 1] (g84_K28 u0 u1 u2) ((g84_l4_cs u0 u1 u2 s2) ++ sputs [(7, .i .i64)] s) w = (g84_K28 u0 u1 u2) (.exit 2) (puts 49 ((g84_l4_cs u0 u1 u2 s2) ++ sputs [(7, .i .i64)] t)) w' :=
    loop_rule (P := Try.prog) (N := 49) (f := 84) (ann := g84_ann) (body := (cAt [1, 0, 0, 1, 0, 0, 1, 0, 0] (bodyOf Try.f84))) (pt := [0, 1, 0, 0, 1, 0, 0, 1]) (K := (g84_K28 u0 u1 u2)) (g84_l4_cs u0 u1 u2 s2) [(7, .i .i64)] (b := g84_l4_b u1 u0 u2 s2) (fun s w => by kernel_rfl) (by kernel_rfl) (by kernel_rfl) (by kernel_rfl) h
  have h3 : (g84_K28 u0 u1 u2) (.exit 2) (puts 49 ((g84_l4_cs u0 u1 u2 s2) ++ sputs [(7, .i .i64)] t)) w' = g84_l4_x2 s2 t w' := by kernel_rfl
  exact h1.trans (h2.trans h3)

theorem g84_l1_x0_of {u0 : Option Addr × Nat × Nat} {u1 : Int} {u2 : Int} {s t : Int} {w w' : World} (h : loopS (g84_l1_b u2 u0 u1) s w = some (.exit 0, t, w')) : g84_l1 u0 u1 u2 s w = g84_l1_x0 t w' := by
  have h1 : g84_l1 u0 u1 u2 s w = loopM Try.prog 49 84 g84_ann (cAt [1, 0, 0] (bodyOf Try.f84)) [0, 1] g84_K32 ((g84_l1_cs u0 u1 u2) ++ sputs [(6, .i .i64)] s) w := by kernel_rfl
  have h2 : loopM Try.prog 49 84 g84_ann (cAt [1, 0, 0] (bodyOf Try.f84)) [0, 1] g84_K32 ((g84_l1_cs u0 u1 u2) ++ sputs [(6, .i .i64)] s) w = g84_K32 (.exit 0) (puts 49 ((g84_l1_cs u0 u1 u2) ++ sputs [(6, .i .i64)] t)) w' :=
    loop_rule (P := Try.prog) (N := 49) (f := 84) (ann := g84_ann) (body := (cAt [1, 0, 0] (bodyOf Try.f84))) (pt := [0, 1]) (K := g84_K32) (g84_l1_cs u0 u1 u2) [(6, .i .i64)] (b := g84_l1_b u2 u0 u1) (fun s w => by kernel_rfl) (by kernel_rfl) (by kernel_rfl) (by kernel_rfl) h
  have h3 : g84_K32 (.exit 0) (puts 49 ((g84_l1_cs u0 u1 u2) ++ sputs [(6, .i .i64)] t)) w' = g84_l1_x0 t w' := by kernel_rfl
  exact h1.trans (h2.trans h3)

/-! 85: slices.heapSortOrdered[int] (data: []int, a: int, b: int) -/
def g85_ann : List (List Nat × List Nat) := [([0, 1, 0, 1, 1, 1], [0, 6, 7, 8, 9]), ([0, 1, 1, 1, 1, 1], [0, 6, 7, 10])]

def g85_l1_cs (u0 : Option Addr × Nat × Nat) (u1 : Int) (u2 : Int) : List (Nat × Value) := ([(0, .slice u0.1 u0.2.1 u0.2.2), (6, .int .i64 u1), (7, .int .i64 0), (8, .int .i64 (IntKind.i64.wrap (u2 - u1)))] : List (Nat × Value))

/-- the round of a loop (slices.heapSortOrdered[int]) -/
noncomputable def g85_l1_b (u0 : Option Addr × Nat × Nat) (u2 : Int) (u1 : Int) (s2 : Int) (w3 : World) : Option (Exit × (Int) × World) :=
if (decide ((s2 : Int) ≥ 0)) = true then
((callF Try.prog 101 #[.slice u0.1 u0.2.1 u0.2.2, .int .i64 s2, .int .i64 (IntKind.i64.wrap (u2 - u1)), .int .i64 u1] w3).bind fun r4 =>
(asTup 0 r4.1).bind fun _ =>
some (.normal, (IntKind.i64.wrap (s2 - 1)), r4.2))
else
(some ((.exit 0), s2, w3))

noncomputable def g85_K5  : Exit → Env → World → Option (Value × World) :=
  retK Try.prog Try.f85.results.toList

noncomputable def g85_K6  : Exit → Env → World → Option (Value × World) :=
  seqK (ev Try.prog 56 85 g85_ann (cAt [1, 1, 1, 1] (bodyOf Try.f85)) [1, 1, 1, 1] g85_K5) g85_K5

noncomputable def g85_K7  : Exit → Env → World → Option (Value × World) :=
  blkK 0 g85_K6

/-- the loop, from a state on -/
noncomputable def g85_l1 (u0 : Option Addr × Nat × Nat) (u1 : Int) (u2 : Int) (s : Int) (w : World) : Option (Value × World) :=
  loopM Try.prog 56 85 g85_ann (cAt [1, 1, 1, 0, 1, 0, 0] (bodyOf Try.f85)) [0, 1, 0, 1, 1, 1] g85_K7 ((g85_l1_cs u0 u1 u2) ++ sputs [(9, .i .i64)] s) w

def g85_l10_cs (u0 : Option Addr × Nat × Nat) (u1 : Int) : List (Nat × Value) := ([(0, .slice u0.1 u0.2.1 u0.2.2), (6, .int .i64 u1), (7, .int .i64 0)] : List (Nat × Value))

/-- the round of a loop (slices.heapSortOrdered[int]) -/
noncomputable def g85_l10_b (u0 : Option Addr × Nat × Nat) (u1 : Int) (s11 : Int) (w12 : World) : Option (Exit × (Int) × World) :=
if (decide ((s11 : Int) ≥ 0)) = true then
((idxA u0.1 u0.2.1 1 (IntKind.i64.wrap (u1 + s11))).bind fun a13 =>
(World.cell? (World.drew w12) a13).bind fun v14 =>
(asI .i64 v14).bind fun n15 =>
(idxA u0.1 u0.2.1 1 u1).bind fun a16 =>
(World.cell? (World.drew w12) a16).bind fun v17 =>
(asI .i64 v17).bind fun n18 =>
(idxA u0.1 u0.2.1 1 u1).bind fun a19 =>
(st1 (World.drew w12) a19 (.int .i64 n15)).bind fun w20 =>
(idxA u0.1 u0.2.1 1 (IntKind.i64.wrap (u1 + s11))).bind fun a21 =>
(st1 w20 a21 (.int .i64 n18)).bind fun w22 =>
(callF Try.prog 101 #[.slice u0.1 u0.2.1 u0.2.2, .int .i64 0, .int .i64 s11, .int .i64 u1] w22).bind fun r23 =>
(asTup 0 r23.1).bind fun _ =>
some (.normal, (IntKind.i64.wrap (s11 - 1)), r23.2))
else
(some ((.exit 2), s11, w12))

noncomputable def g85_K24  : Exit → Env → World → Option (Value × World) :=
  blkK 2 g85_K5

/-- the loop, from a state on -/
noncomputable def g85_l10 (u0 : Option Addr × Nat × Nat) (u1 : Int) (s : Int) (w : World) : Option (Value × World) :=
  loopM Try.prog 56 85 g85_ann (cAt [1, 1, 1, 1, 1, 0, 0] (bodyOf Try.f85)) [0, 1, 1, 1, 1, 1] g85_K24 ((g85_l10_cs u0 u1) ++ sputs [(10, .i .i64)] s) w

/-- behind the loop, left by x2 -/
noncomputable def g85_l10_x2  (t25 : Int) (w26 : World) : Option (Value × World) :=
some (.tuple #[], w26)

/-- behind the loop, left by x0 -/
noncomputable def g85_l1_x0 (u0 : Option Addr × Nat × Nat) (u1 : Int) (u2 : Int) (t8 : Int) (w9 : World) : Option (Value × World) :=
g85_l10 u0 u1 (IntKind.i64.wrap ((IntKind.i64.wrap (u2 - u1)) - 1)) w9

noncomputable def g85 (u0 : Option Addr × Nat × Nat) (u1 : Int) (u2 : Int) (w0 : World) : Option (Value × World) :=
g85_l1 u0 u1 u2 (IntKind.i64.wrap (Int.tdiv (IntKind.i64.wrap ((IntKind.i64.wrap (u2 - u1)) - 1)) 2)) w0

theorem g85_eq (u0 : Option Addr × Nat × Nat) (u1 : Int) (u2 : Int) (w0 : World) : evFn Try.prog 85 g85_ann #[.slice u0.1 u0.2.1 u0.2.2, .int .i64 u1, .int .i64 u2] w0 = g85 u0 u1 u2 w0 := by kernel_rfl

theorem g85_call {u0 : Option Addr × Nat × Nat} {u1 : Int} {u2 : Int} {w0 : World} {r : Value × World} (h : g85 u0 u1 u2 w0 = some r) : callF Try.prog 85 #[.slice u0.1 u0.2.1 u0.2.2, .int .i64 u1, .int .i64 u2] w0 = some r :=
  callF_of_evFn (ann := g85_ann) Try.call85 (by kernel_rfl) ((g85_eq u0 u1 u2 w0).trans h)

theorem g85_l10_x2_of {u0 : Option Addr × Nat × Nat} {u1 : Int} {s t : Int} {w w' : World} (h : loopS (g85_l10_b u0 u1) s w = some (.exit 2, t, w')) : g85_l10 u0 u1 s w = g85_l10_x2 t w' := by
  have h1 : g85_l10 u0 u1 s w = loopM Try.prog 56 85 g85_ann (cAt [1, 1, 1, 1, 1, 0, 0] (bodyOf Try.f85)) [0, 1, 1, 1, 1, 1] g85_K24 ((g85_l10_cs u0 u1) ++ sputs [(10, .i .i64)] s) w := by kernel_rfl
  have h2 : loopM Try.prog 56 85 g85_ann (cAt [1, 1, 1, 1, 1, 0, 0] (bodyOf Try.f85)) [0, 1, 1, 1, 1, 1] g85_K24 ((g85_l10_cs u0 u1) ++ sputs [(10, .i .i64)] s) w = g85_K24 (.exit 2) (puts 56 ((g85_l10_cs u0 u1) ++ sputs [(10, .i .i64)] t)) w' :=
    loop_rule (P := Try.prog) (N := 56) (f := 85) (ann := g85_ann) (body := (cAt [1, 1, 1, 1, 1, 0, 0] (bodyOf Try.f85))) (pt := [0, 1, 1, 1, 1, 1]) (K := g85_K24) (g85_l10_cs u0 u1) [(10, .i .i64)] (b := g85_l10_b u0 u1) (fun s w => by kernel_rfl) (by kernel_rfl) (by kernel_rfl) (by kernel_rfl) h
  have h3 : g85_K24 (.exit 2) (puts 56 ((g85_l10_cs u0 u1) ++ sputs [(10, .i .i64)] t)) w' = g85_l10_x2 t w' := by kernel_rfl
  exact h1.trans (h2.trans h3)

theorem g85_l1_x0_of {u0 : Option Addr × Nat × Nat} {u1 : Int} {u2 : Int} {s t : Int} {w w' : World} (h : loopS (g85_l1_b u0 u2 u1) s w = some (.exit 0, t, w')) : g85_l1 u0 u1 u2 s w = g85_l1_x0 u0 u1 u2 t w' := by
  have h1 : g85_l1 u0 u1 u2 s w = loopM Try.prog 56 85 g85_ann (cAt [1, 1, 1, 0, 1, 0, 0] (bodyOf Try.f85)) [0, 1, 0, 1, 1, 1] g85_K7 ((g85_l1_cs u0 u1 u2) ++ sputs [(9, .i .i64)] s) w := by kernel_rfl
  have h2 : loopM Try.prog 56 85 g85_ann (cAt [1, 1, 1, 0, 1, 0, 0] (bodyOf Try.f85)) [0, 1, 0, 1, 1, 1] g85_K7 ((g85_l1_cs u0 u1 u2) ++ sputs [(9, .i .i64)] s) w = g85_K7 (.exit 0) (puts 56 ((g85_l1_cs u0 u1 u2) ++ sputs [(9, .i .i64)] t)) w' :=
    loop_rule (P := Try.prog) (N := 56) (f := 85) (ann := g85_ann) (body := (cAt [1, 1, 1, 0, 1, 0, 0] (bodyOf Try.f85))) (pt := [0, 1, 0, 1, 1, 1]) (K := g85_K7) (g85_l1_cs u0 u1 u2) [(9, .i .i64)] (b := g85_l1_b u0 u2 u1) (fun s w => by kernel_rfl) (by kernel_rfl) (by kernel_rfl) (by kernel_rfl) h
  have h3 : g85_K7 (.exit 0) (puts 56 ((g85_l1_cs u0 u1 u2) ++ sputs [(9, .i .i64)] t)) w' = g85_l1_x0 u0 u1 u2 t w' := by kernel_rfl
  exact h1.trans (h2.trans h3)

/-! 86: slices.breakPatternsOrdered[int] (data: []int, a: int, b: int) -/
def g86_ann : List (List Nat × List Nat) := [([0, 1, 1, 1, 0, 1, 1], [0, 1, 6, 7, 8, 9])]

def g86_l4_cs (u0 : Option Addr × Nat × Nat) (u1 : Int) (u2 : Int) (w0 : World) (n3 : Int) : List (Nat × Value) := ([(0, .slice u0.1 u0.2.1 u0.2.2), (1, .int .i64 u1), (6, .int .i64 (IntKind.i64.wrap (u2 - u1))), (7, .pointer (some (⟨w0.heap.size, 0, none⟩))), (8, .int .u64 n3)] : List (Nat × Value))

/-- the round of a loop (slices.breakPatternsOrdered[int]) -/
noncomputable def g86_l4_b (u1 : Int) (u2 : Int) (w0 : World) (n3 : Int) (u0 : Option Addr × Nat × Nat) (s5 : Int) (w6 : World) : Option (Exit × (Int) × World) :=
if (decide ((s5 : Int) ≤ (IntKind.i64.wrap ((IntKind.i64.wrap (u1 + (IntKind.i64.wrap ((IntKind.i64.wrap (Int.tdiv (IntKind.i64.wrap (u2 - u1)) 4)) * 2)))) + 1)))) = true then
((callF Try.prog 103 #[.pointer (some (⟨w0.heap.size, 0, none⟩))] w6).bind fun r7 =>
(asI .u64 r7.1).bind fun n8 =>
if (decide (((IntKind.i64.wrap (IntKind.u64.wrap ((BitVec.ofInt 64 n8 &&& BitVec.ofInt 64 (IntKind.u64.wrap (n3 - 1))).toNat : Nat))) : Int) ≥ (IntKind.i64.wrap (u2 - u1)))) = true then
((idxA u0.1 u0.2.1 1 (IntKind.i64.wrap (u1 + (IntKind.i64.wrap ((IntKind.i64.wrap (IntKind.u64.wrap ((BitVec.ofInt 64 n8 &&& BitVec.ofInt 64 (IntKind.u64.wrap (n3 - 1))).toNat : Nat))) - (IntKind.i64.wrap (u2 - u1))))))).bind fun a10 =>
(World.cell? (World.drew r7.2) a10).bind fun v11 =>
(asI .i64 v11).bind fun n12 =>
(idxA u0.1 u0.2.1 1 s5).bind fun a13 =>
(World.cell? (World.drew r7.2) a13).bind fun v14 =>
(asI .i64 v14).bind fun n15 =>
(idxA u0.1 u0.2.1 1 s5).bind fun a16 =>
(st1 (World.drew r7.2) a16 (.int .i64 n12)).bind fun w17 =>
(idxA u0.1 u0.2.1 1 (IntKind.i64.wrap (u1 + (IntKind.i64.wrap ((IntKind.i64.wrap (IntKind.u64.wrap ((BitVec.ofInt 64 n8 &&& BitVec.ofInt 64 (IntKind.u64.wrap (n3 - 1))).toNat : Nat))) - (IntKind.i64.wrap (u2 - u1))))))).bind fun a18 =>
(st1 w17 a18 (.int .i64 n15)).bind fun w19 =>
some (.normal, (IntKind.i64.wrap (s5 + 1)), w19))
else
((idxA u0.1 u0.2.1 1 (IntKind.i64.wrap (u1 + (IntKind.i64.wrap (IntKind.u64.wrap ((BitVec.ofInt 64 n8 &&& BitVec.ofInt 64 (IntKind.u64.wrap (n3 - 1))).toNat : Nat)))))).bind fun a20 =>
(World.cell? (World.drew r7.2) a20).bind fun v21 =>
(asI .i64 v21).bind fun n22 =>
(idxA u0.1 u0.2.1 1 s5).bind fun a23 =>
(World.cell? (World.drew r7.2) a23).bind fun v24 =>
(asI .i64 v24).bind fun n25 =>
(idxA u0.1 u0.2.1 1 s5).bind fun a26 =>
(st1 (World.drew r7.2) a26 (.int .i64 n22)).bind fun w27 =>
(idxA u0.1 u0.2.1 1 (IntKind.i64.wrap (u1 + (IntKind.i64.wrap (IntKind.u64.wrap ((BitVec.ofInt 64 n8 &&& BitVec.ofInt 64 (IntKind.u64.wrap (n3 - 1))).toNat : Nat)))))).bind fun a28 =>
(st1 w27 a28 (.int .i64 n25)).bind fun w29 =>
some (.normal, (IntKind.i64.wrap (s5 + 1)), w29)))
else
(some ((.exit 0), s5, w6))

noncomputable def g86_K30  : Exit → Env → World → Option (Value × World) :=
  retK Try.prog Try.f86.results.toList

noncomputable def g86_K31  : Exit → Env → World → Option (Value × World) :=
  blkK 0 g86_K30

/-- the loop, from a state on -/
noncomputable def g86_l4 (u0 : Option Addr × Nat × Nat) (u1 : Int) (u2 : Int) (w0 : World) (n3 : Int) (s : Int) (w : World) : Option (Value × World) :=
  loopM Try.prog 65 86 g86_ann (cAt [1, 1, 0, 1, 1, 1, 0, 0] (bodyOf Try.f86)) [0, 1, 1, 1, 0, 1, 1] g86_K31 ((g86_l4_cs u0 u1 u2 w0 n3) ++ sputs [(9, .i .i64)] s) w

/-- behind the loop, left by x0 -/
noncomputable def g86_l4_x0  (t32 : Int) (w33 : World) : Option (Value × World) :=
some (.tuple #[], w33)

noncomputable def g86 (u0 : Option Addr × Nat × Nat) (u1 : Int) (u2 : Int) (w0 : World) : Option (Value × World) :=
if (decide (((IntKind.i64.wrap (u2 - u1)) : Int) ≥ 8)) = true then
((st1 (World.alloc w0 (.cells #[.int .u64 0] 155)) (⟨w0.heap.size, 0, none⟩) (.int .u64 (IntKind.u64.wrap (IntKind.i64.wrap (u2 - u1))))).bind fun w1 =>
(callF Try.prog 102 #[.int .i64 (IntKind.i64.wrap (u2 - u1))] w1).bind fun r2 =>
(asI .u64 r2.1).bind fun n3 =>
g86_l4 u0 u1 u2 w0 n3 (IntKind.i64.wrap ((IntKind.i64.wrap (u1 + (IntKind.i64.wrap ((IntKind.i64.wrap (Int.tdiv (IntKind.i64.wrap (u2 - u1)) 4)) * 2)))) - 1)) r2.2)
else
(some (.tuple #[], w0))

theorem g86_eq (u0 : Option Addr × Nat × Nat) (u1 : Int) (u2 : Int) (w0 : World) : evFn Try.prog 86 g86_ann #[.slice u0.1 u0.2.1 u0.2.2, .int .i64 u1, .int .i64 u2] w0 = g86 u0 u1 u2 w0 := by kernel_rfl

theorem g86_call {u0 : Option Addr × Nat × Nat} {u1 : Int} {u2 : Int} {w0 : World} {r : Value × World} (h : g86 u0 u1 u2 w0 = some r) : callF Try.prog 86 #[.slice u0.1 u0.2.1 u0.2.2, .int .i64 u1, .int .i64 u2] w0 = some r :=
  callF_of_evFn (ann := g86_ann) Try.call86 (by kernel_rfl) ((g86_eq u0 u1 u2 w0).trans h)

theorem g86_l4_x0_of {u0 : Option Addr × Nat × Nat} {u1 : Int} {u2 : Int} {w0 : World} {n3 : Int} {s t : Int} {w w' : World} (h : loopS (g86_l4_b u1 u2 w0 n3 u0) s w = some (.exit 0, t, w')) : g86_l4 u0 u1 u2 w0 n3 s w = g86_l4_x0 t w' := by
  have h1 : g86_l4 u0 u1 u2 w0 n3 s w = loopM Try.prog 65 86 g86_ann (cAt [1, 1, 0, 1, 1, 1, 0, 0] (bodyOf Try.f86)) [0, 1, 1, 1, 0, 1, 1] g86_K31 ((g86_l4_cs u0 u1 u2 w0 n3) ++ sputs [(9, .i .i64)] s) w := by kernel_rfl
  have h2 : loopM Try.prog 65 86 g86_ann (cAt [1, 1, 0, 1, 1, 1, 0, 0] (bodyOf Try.f86)) [0, 1, 1, 1, 0, 1, 1] g86_K31 ((g86_l4_cs u0 u1 u2 w0 n3) ++ sputs [(9, .i .i64)] s) w = g86_K31 (.exit 0) (puts 65 ((g86_l4_cs u0 u1 u2 w0 n3) ++ sputs [(9, .i .i64)] t)) w' :=
    loop_rule (P := Try.prog) (N := 65) (f := 86) (ann := g86_ann) (body := (cAt [1, 1, 0, 1, 1, 1, 0, 0] (bodyOf Try.f86))) (pt := [0, 1, 1, 1, 0, 1, 1]) (K := g86_K31) (g86_l4_cs u0 u1 u2 w0 n3) [(9, .i .i64)] (b := g86_l4_b u1 u2 w0 n3 u0) (fun s w => by kernel_rfl) (by kernel_rfl) (by kernel_rfl) (by kernel_rfl) h
  have h3 : g86_K31 (.exit 0) (puts 65 ((g86_l4_cs u0 u1 u2 w0 n3) ++ sputs [(9, .i .i64)] t)) w' = g86_l4_x0 t w' := by kernel_rfl
  exact h1.trans (h2.trans h3)

/-! 87: slices.choosePivotOrdered[int] (data: []int, a: int, b: int) -/
def g87_ann : List (List Nat × List Nat) := []

noncomputable def g87_j1 (w0 : World) (x15 : Int) (w16 : World) : Option (Value × World) :=
(World.cell? w16 (⟨w0.heap.size, 0, none⟩)).bind fun v17 =>
(asI .i64 v17).bind fun n18 =>
if ((n18 : Int) == 0) = true then
(some (.tuple #[.int .i64 x15, .int .i64 1], w16))
else
(if ((n18 : Int) == 12) = true then
(some (.tuple #[.int .i64 x15, .int .i64 2], w16))
else
(some (.tuple #[.int .i64 x15, .int .i64 0], w16)))

noncomputable def g87_j2 (u0 : Option Addr × Nat × Nat) (w0 : World) (x9 : Int) (x10 : Int) (x11 : Int) (w12 : World) : Option (Value × World) :=
(callF Try.prog 105 #[.slice u0.1 u0.2.1 u0.2.2, .int .i64 x9, .int .i64 x10, .int .i64 x11, .pointer (some (⟨w0.heap.size, 0, none⟩))] w12).bind fun r13 =>
(asI .i64 r13.1).bind fun n14 =>
g87_j1 w0 n14 r13.2

noncomputable def g87 (u0 : Option Addr × Nat × Nat) (u1 : Int) (u2 : Int) (w0 : World) : Option (Value × World) :=
if (decide (((IntKind.i64.wrap (u2 - u1)) : Int) ≥ 8)) = true then
(if (decide (((IntKind.i64.wrap (u2 - u1)) : Int) ≥ 50)) = true then
((callF Try.prog 104 #[.slice u0.1 u0.2.1 u0.2.2, .int .i64 (IntKind.i64.wrap (u1 + (IntKind.i64.wrap ((IntKind.i64.wrap (Int.tdiv (IntKind.i64.wrap (u2 - u1)) 4)) * 1)))), .pointer (some (⟨w0.heap.size, 0, none⟩))] (World.alloc w0 (.cells #[.int .i64 0] 3))).bind fun r3 =>
(asI .i64 r3.1).bind fun n4 =>
(callF Try.prog 104 #[.slice u0.1 u0.2.1 u0.2.2, .int .i64 (IntKind.i64.wrap (u1 + (IntKind.i64.wrap ((IntKind.i64.wrap (Int.tdiv (IntKind.i64.wrap (u2 - u1)) 4)) * 2)))), .pointer (some (⟨w0.heap.size, 0, none⟩))] r3.2).bind fun r5 =>
(asI .i64 r5.1).bind fun n6 =>
(callF Try.prog 104 #[.slice u0.1 u0.2.1 u0.2.2, .int .i64 (IntKind.i64.wrap (u1 + (IntKind.i64.wrap ((IntKind.i64.wrap (Int.tdiv (IntKind.i64.wrap (u2 - u1)) 4)) * 3)))), .pointer (some (⟨w0.heap.size, 0, none⟩))] r5.2).bind fun r7 =>
(asI .i64 r7.1).bind fun n8 =>
g87_j2 u0 w0 n4 n6 n8 r7.2)
else
(g87_j2 u0 w0 (IntKind.i64.wrap (u1 + (IntKind.i64.wrap ((IntKind.i64.wrap (Int.tdiv (IntKind.i64.wrap (u2 - u1)) 4)) * 1)))) (IntKind.i64.wrap (u1 + (IntKind.i64.wrap ((IntKind.i64.wrap (Int.tdiv (IntKind.i64.wrap (u2 - u1)) 4)) * 2)))) (IntKind.i64.wrap (u1 + (IntKind.i64.wrap ((IntKind.i64.wrap (Int.tdiv (IntKind.i64.wrap (u2 - u1)) 4)) * 3)))) (World.alloc w0 (.cells #[.int .i64 0] 3))))
else
(g87_j1 w0 (IntKind.i64.wrap (u1 + (IntKind.i64.wrap ((IntKind.i64.wrap (Int.tdiv (IntKind.i64.wrap (u2 - u1)) 4)) * 2)))) (World.alloc w0 (.cells #[.int .i64 0] 3)))

theorem g87_eq (u0 : Option Addr × Nat × Nat) (u1 : Int) (u2 : Int) (w0 : World) : evFn Try.prog 87 g87_ann #[.slice u0.1 u0.2.1 u0.2.2, .int .i64 u1, .int .i64 u2] w0 = g87 u0 u1 u2 w0 := by kernel_rfl

theorem g87_call {u0 : Option Addr × Nat × Nat} {u1 : Int} {u2 : Int} {w0 : World} {r : Value × World} (h : g87 u0 u1 u2 w0 = some r) : callF Try.prog 87 #[.slice u0.1 u0.2.1 u0.2.2, .int .i64 u1, .int .i64 u2] w0 = some r :=
  callF_of_evFn (ann := g87_ann) Try.call87 (by kernel_rfl) ((g87_eq u0 u1 u2 w0).trans h)

/-! 88: slices.reverseRangeOrdered[int] (data: []int, a: int, b: int) -/
def g88_ann : List (List Nat × List Nat) := [([0, 1, 1], [0, 6, 7])]

def g88_l1_cs (u0 : Option Addr × Nat × Nat) : List (Nat × Value) := ([(0, .slice u0.1 u0.2.1 u0.2.2)] : List (Nat × Value))

/-- the round of a loop (slices.reverseRangeOrdered[int]) -/
noncomputable def g88_l1_b (u0 : Option Addr × Nat × Nat) (s2 : Int × Int) (w3 : World) : Option (Exit × (Int × Int) × World) :=
if (decide ((s2.1 : Int) < s2.2)) = true then
((idxA u0.1 u0.2.1 1 s2.2).bind fun a4 =>
(World.cell? (World.drew w3) a4).bind fun v5 =>
(asI .i64 v5).bind fun n6 =>
(idxA u0.1 u0.2.1 1 s2.1).bind fun a7 =>
(World.cell? (World.drew w3) a7).bind fun v8 =>
(asI .i64 v8).bind fun n9 =>
(idxA u0.1 u0.2.1 1 s2.1).bind fun a10 =>
(st1 (World.drew w3) a10 (.int .i64 n6)).bind fun w11 =>
(idxA u0.1 u0.2.1 1 s2.2).bind fun a12 =>
(st1 w11 a12 (.int .i64 n9)).bind fun w13 =>
some (.normal, ((IntKind.i64.wrap (s2.1 + 1)), (IntKind.i64.wrap (s2.2 - 1))), w13))
else
(some ((.exit 0), (s2.1, s2.2), w3))

noncomputable def g88_K14  : Exit → Env → World → Option (Value × World) :=
  retK Try.prog Try.f88.results.toList

noncomputable def g88_K15  : Exit → Env → World → Option (Value × World) :=
  blkK 0 g88_K14

/-- the loop, from a state on -/
noncomputable def g88_l1 (u0 : Option Addr × Nat × Nat) (s : Int × Int) (w : World) : Option (Value × World) :=
  loopM Try.prog 32 88 g88_ann (cAt [1, 1, 0, 0] (bodyOf Try.f88)) [0, 1, 1] g88_K15 ((g88_l1_cs u0) ++ sputs [(6, .i .i64), (7, .i .i64)] s) w

/-- behind the loop, left by x0 -/
noncomputable def g88_l1_x0  (t16 : Int × Int) (w17 : World) : Option (Value × World) :=
some (.tuple #[], w17)

noncomputable def g88 (u0 : Option Addr × Nat × Nat) (u1 : Int) (u2 : Int) (w0 : World) : Option (Value × World) :=
g88_l1 u0 (u1, (IntKind.i64.wrap (u2 - 1))) w0

theorem g88_eq (u0 : Option Addr × Nat × Nat) (u1 : Int) (u2 : Int) (w0 : World) : evFn Try.prog 88 g88_ann #[.slice u0.1 u0.2.1 u0.2.2, .int .i64 u1, .int .i64 u2] w0 = g88 u0 u1 u2 w0 := by kernel_rfl

theorem g88_call {u0 : Option Addr × Nat × Nat} {u1 : Int} {u2 : Int} {w0 : World} {r : Value × World} (h : g88 u0 u1 u2 w0 = some r) : callF Try.prog 88 #[.slice u0.1 u0.2.1 u0.2.2, .int .i64 u1, .int .i64 u2] w0 = some r :=
  callF_of_evFn (ann := g88_ann) Try.call88 (by kernel_rfl) ((g88_eq u0 u1 u2 w0).trans h)

theorem g88_l1_x0_of {u0 : Option Addr × Nat × Nat} {s t : Int × Int} {w w' : World} (h : loopS (g88_l1_b u0) s w = some (.exit 0, t, w')) : g88_l1 u0 s w = g88_l1_x0 t w' := by
  have h1 : g88_l1 u0 s w = loopM Try.prog 32 88 g88_ann (cAt [1, 1, 0, 0] (bodyOf Try.f88)) [0, 1, 1] g88_K15 ((g88_l1_cs u0) ++ sputs [(6, .i .i64), (7, .i .i64)] s) w := by kernel_rfl
  have h2 : loopM Try.prog 32 88 g88_ann (cAt [1, 1, 0, 0] (bodyOf Try.f88)) [0, 1, 1] g88_K15 ((g88_l1_cs u0) ++ sputs [(6, .i .i64), (7, .i .i64)] s) w = g88_K15 (.exit 0) (puts 32 ((g88_l1_cs u0) ++ sputs [(6, .i .i64), (7, .i .i64)] t)) w' :=
    loop_rule (P := Try.prog) (N := 32) (f := 88) (ann := g88_ann) (body := (cAt [1, 1, 0, 0] (bodyOf Try.f88))) (pt := [0, 1, 1]) (K := g88_K15) (g88_l1_cs u0) [(6, .i .i64), (7, .i .i64)] (b := g88_l1_b u0) (fun s w => by kernel_rfl) (by kernel_rfl) (by kernel_rfl) (by kernel_rfl) h
  have h3 : g88_K15 (.exit 0) (puts 32 ((g88_l1_cs u0) ++ sputs [(6, .i .i64), (7, .i .i64)] t)) w' = g88_l1_x0 t w' := by kernel_rfl
  exact h1.trans (h2.trans h3)

/-! 89: slices.partialInsertionSortOrdered[int] (data: []int, a: int, b: int) -/
def g89_ann : List (List Nat × List Nat) := [([0, 1, 0, 1, 1], [0, 1, 2, 6, 7, 8]), ([0, 0, 0, 0, 1, 0, 0, 1, 0, 1, 1], [0, 1, 2, 6, 8, 7]), ([0, 1, 0, 1, 0, 1, 1, 1, 1, 0, 0, 1, 0, 0, 1, 0, 1, 1], [0, 1, 2, 6, 7, 8, 9]), ([0, 1, 0, 1, 1, 1, 1, 1, 1, 0, 0, 1, 0, 0, 1, 0, 1, 1], [0, 1, 2, 6, 7, 8, 10]), ([0, 1, 0, 1, 1, 1, 1, 1, 1, 0, 0, 1, 0, 0, 1, 0, 1, 1], [0, 1, 2, 6, 7, 8, 10])]

def g89_l1_cs (u0 : Option Addr × Nat × Nat) (u1 : Int) (u2 : Int) : List (Nat × Value) := ([(0, .slice u0.1 u0.2.1 u0.2.2), (1, .int .i64 u1), (2, .int .i64 u2)] : List (Nat × Value))

def g89_l4_cs (u0 : Option Addr × Nat × Nat) (u1 : Int) (u2 : Int) (s2 : Bool × Int × Int) : List (Nat × Value) := ([(0, .slice u0.1 u0.2.1 u0.2.2), (1, .int .i64 u1), (2, .int .i64 u2), (6, .bool s2.1), (8, .int .i64 s2.2.2)] : List (Nat × Value))

/-- the round of a loop (slices.partialInsertionSortOrdered[int]) -/
noncomputable def g89_l4_b (u2 : Int) (u0 : Option Addr × Nat × Nat) (u1 : Int) (s2 : Bool × Int × Int) (s5 : Int) (w6 : World) : Option (Exit × (Int) × World) :=
if (decide ((s5 : Int) < u2)) = true then
((idxA u0.1 u0.2.1 1 s5).bind fun a7 =>
(World.cell? (World.drew w6) a7).bind fun v8 =>
(asI .i64 v8).bind fun n9 =>
(idxA u0.1 u0.2.1 1 (IntKind.i64.wrap (s5 - 1))).bind fun a10 =>
(World.cell? (World.drew w6) a10).bind fun v11 =>
(asI .i64 v11).bind fun n12 =>
(callF Try.prog 90 #[.int .i64 n9, .int .i64 n12] (World.drew w6)).bind fun r13 =>
(asB r13.1).bind fun b14 =>
if (!b14) = true then
(some (.normal, (IntKind.i64.wrap (s5 + 1)), r13.2))
else
(some ((.exit 2), s5, r13.2)))
else
(some ((.exit 2), s5, (World.drew w6)))

noncomputable def g89_K15 (u0 : Option Addr × Nat × Nat) (u1 : Int) (u2 : Int) : Exit → Env → World → Option (Exit × (Bool × Int × Int) × World) :=
  fun e ρ w => ((List.map (·.1) (g89_l1_cs u0 u1 u2)).mapM ρ).bind fun _ => loopK [(6, .b), (7, .i .i64), (8, .i .i64)] e ρ w

noncomputable def g89_K16 (u0 : Option Addr × Nat × Nat) (u1 : Int) (u2 : Int) : Exit → Env → World → Option (Exit × (Bool × Int × Int) × World) :=
  seqK (ev Try.prog 133 89 g89_ann (cAt [1, 1, 0, 1, 0, 0, 1, 1] (bodyOf Try.f89)) [1, 1, 0, 0, 1, 0, 1, 1] (g89_K15 u0 u1 u2)) (g89_K15 u0 u1 u2)

noncomputable def g89_K17 (u0 : Option Addr × Nat × Nat) (u1 : Int) (u2 : Int) : Exit → Env → World → Option (Exit × (Bool × Int × Int) × World) :=
  blkK 1 (g89_K16 u0 u1 u2)

noncomputable def g89_K18 (u0 : Option Addr × Nat × Nat) (u1 : Int) (u2 : Int) : Exit → Env → World → Option (Exit × (Bool × Int × Int) × World) :=
  seqK (ev Try.prog 133 89 g89_ann (cAt [1, 1, 0, 1, 0, 0, 1, 0, 0, 1] (bodyOf Try.f89)) [1, 0, 0, 1, 0, 0, 1, 0, 1, 1] (g89_K17 u0 u1 u2)) (g89_K17 u0 u1 u2)

noncomputable def g89_K19 (u0 : Option Addr × Nat × Nat) (u1 : Int) (u2 : Int) : Exit → Env → World → Option (Exit × (Bool × Int × Int) × World) :=
  blkK 2 (g89_K18 u0 u1 u2)

/-- the loop, from a state on -/
noncomputable def g89_l4 (u0 : Option Addr × Nat × Nat) (u1 : Int) (u2 : Int) (s2 : Bool × Int × Int) (s : Int) (w : World) : Option (Exit × (Bool × Int × Int) × World) :=
  loopM Try.prog 133 89 g89_ann (cAt [1, 1, 0, 1, 0, 0, 1, 0, 0, 0, 0, 0] (bodyOf Try.f89)) [0, 0, 0, 0, 1, 0, 0, 1, 0, 1, 1] (g89_K19 u0 u1 u2) ((g89_l4_cs u0 u1 u2 s2) ++ sputs [(7, .i .i64)] s) w

def g89_l32_cs (u0 : Option Addr × Nat × Nat) (u1 : Int) (u2 : Int) (s2 : Bool × Int × Int) (t20 : Int) : List (Nat × Value) := ([(0, .slice u0.1 u0.2.1 u0.2.2), (1, .int .i64 u1), (2, .int .i64 u2), (6, .bool s2.1), (7, .int .i64 t20), (8, .int .i64 s2.2.2)] : List (Nat × Value))

/-- the round of a loop (slices.partialInsertionSortOrdered[int]) -/
noncomputable def g89_l32_b (u0 : Option Addr × Nat × Nat) (u1 : Int) (u2 : Int) (s2 : Bool × Int × Int) (t20 : Int) (s33 : Int) (w34 : World) : Option (Exit × (Int) × World) :=
if (decide ((s33 : Int) ≥ 1)) = true then
((idxA u0.1 u0.2.1 1 s33).bind fun a35 =>
(World.cell? (World.drew w34) a35).bind fun v36 =>
(asI .i64 v36).bind fun n37 =>
(idxA u0.1 u0.2.1 1 (IntKind.i64.wrap (s33 - 1))).bind fun a38 =>
(World.cell? (World.drew w34) a38).bind fun v39 =>
(asI .i64 v39).bind fun n40 =>
(callF Try.prog 90 #[.int .i64 n37, .int .i64 n40] (World.drew w34)).bind fun r41 =>
(asB r41.1).bind fun b42 =>
if (!b42) = true then
(some ((.exit 4), s33, r41.2))
else
((idxA u0.1 u0.2.1 1 (IntKind.i64.wrap (s33 - 1))).bind fun a43 =>
(World.cell? (World.drew r41.2) a43).bind fun v44 =>
(asI .i64 v44).bind fun n45 =>
(idxA u0.1 u0.2.1 1 s33).bind fun a46 =>
(World.cell? (World.drew r41.2) a46).bind fun v47 =>
(asI .i64 v47).bind fun n48 =>
(idxA u0.1 u0.2.1 1 s33).bind fun a49 =>
(st1 (World.drew r41.2) a49 (.int .i64 n45)).bind fun w50 =>
(idxA u0.1 u0.2.1 1 (IntKind.i64.wrap (s33 - 1))).bind fun a51 =>
(st1 w50 a51 (.int .i64 n48)).bind fun w52 =>
some (.normal, (IntKind.i64.wrap (s33 - 1)), w52)))
else
(some ((.exit 4), s33, w34))

noncomputable def g89_K53 (u0 : Option Addr × Nat × Nat) (u1 : Int) (u2 : Int) : Exit → Env → World → Option (Exit × (Bool × Int × Int) × World) :=
  seqK (ev Try.prog 133 89 g89_ann (cAt [1, 1, 0, 1, 0, 0, 1, 0, 0, 1, 1, 1, 1, 1] (bodyOf Try.f89)) [1, 1, 1, 1, 1, 0, 0, 1, 0, 0, 1, 0, 1, 1] (g89_K17 u0 u1 u2)) (g89_K17 u0 u1 u2)

noncomputable def g89_K54 (u0 : Option Addr × Nat × Nat) (u1 : Int) (u2 : Int) : Exit → Env → World → Option (Exit × (Bool × Int × Int) × World) :=
  blkK 4 (g89_K53 u0 u1 u2)

/-- the loop, from a state on -/
noncomputable def g89_l32 (u0 : Option Addr × Nat × Nat) (u1 : Int) (u2 : Int) (s2 : Bool × Int × Int) (t20 : Int) (s : Int) (w : World) : Option (Exit × (Bool × Int × Int) × World) :=
  loopM Try.prog 133 89 g89_ann (cAt [1, 1, 0, 1, 0, 0, 1, 0, 0, 1, 1, 1, 1, 0, 1, 0, 1, 0, 0] (bodyOf Try.f89)) [0, 1, 0, 1, 0, 1, 1, 1, 1, 0, 0, 1, 0, 0, 1, 0, 1, 1] (g89_K54 u0 u1 u2) ((g89_l32_cs u0 u1 u2 s2 t20) ++ sputs [(9, .i .i64)] s) w

def g89_l57_cs (u0 : Option Addr × Nat × Nat) (u1 : Int) (u2 : Int) (s2 : Bool × Int × Int) (t20 : Int) : List (Nat × Value) := ([(0, .slice u0.1 u0.2.1 u0.2.2), (1, .int .i64 u1), (2, .int .i64 u2), (6, .bool s2.1), (7, .int .i64 t20), (8, .int .i64 s2.2.2)] : List (Nat × Value))

/-- the round of a loop (slices.partialInsertionSortOrdered[int]) -/
noncomputable def g89_l57_b (u2 : Int) (u0 : Option Addr × Nat × Nat) (u1 : Int) (s2 : Bool × Int × Int) (t20 : Int) (s58 : Int) (w59 : World) : Option (Exit × (Int) × World) :=
if (decide ((s58 : Int) < u2)) = true then
((idxA u0.1 u0.2.1 1 s58).bind fun a60 =>
(World.cell? (World.drew w59) a60).bind fun v61 =>
(asI .i64 v61).bind fun n62 =>
(idxA u0.1 u0.2.1 1 (IntKind.i64.wrap (s58 - 1))).bind fun a63 =>
(World.cell? (World.drew w59) a63).bind fun v64 =>
(asI .i64 v64).bind fun n65 =>
(callF Try.prog 90 #[.int .i64 n62, .int .i64 n65] (World.drew w59)).bind fun r66 =>
(asB r66.1).bind fun b67 =>
if (!b67) = true then
(some ((.exit 6), s58, r66.2))
else
((idxA u0.1 u0.2.1 1 (IntKind.i64.wrap (s58 - 1))).bind fun a68 =>
(World.cell? (World.drew r66.2) a68).bind fun v69 =>
(asI .i64 v69).bind fun n70 =>
(idxA u0.1 u0.2.1 1 s58).bind fun a71 =>
(World.cell? (World.drew r66.2) a71).bind fun v72 =>
(asI .i64 v72).bind fun n73 =>
(idxA u0.1 u0.2.1 1 s58).bind fun a74 =>
(st1 (World.drew r66.2) a74 (.int .i64 n70)).bind fun w75 =>
(idxA u0.1 u0.2.1 1 (IntKind.i64.wrap (s58 - 1))).bind fun a76 =>
(st1 w75 a76 (.int .i64 n73)).bind fun w77 =>
some (.normal, (IntKind.i64.wrap (s58 + 1)), w77)))
else
(some ((.exit 6), s58, w59))

noncomputable def g89_K78 (u0 : Option Addr × Nat × Nat) (u1 : Int) (u2 : Int) : Exit → Env → World → Option (Exit × (Bool × Int × Int) × World) :=
  blkK 6 (g89_K17 u0 u1 u2)

/-- the loop, from a state on -/
noncomputable def g89_l57 (u0 : Option Addr × Nat × Nat) (u1 : Int) (u2 : Int) (s2 : Bool × Int × Int) (t20 : Int) (s : Int) (w : World) : Option (Exit × (Bool × Int × Int) × World) :=
  loopM Try.prog 133 89 g89_ann (cAt [1, 1, 0, 1, 0, 0, 1, 0, 0, 1, 1, 1, 1, 1, 1, 0, 1, 0, 0] (bodyOf Try.f89)) [0, 1, 0, 1, 1, 1, 1, 1, 1, 0, 0, 1, 0, 0, 1, 0, 1, 1] (g89_K78 u0 u1 u2) ((g89_l57_cs u0 u1 u2 s2 t20) ++ sputs [(10, .i .i64)] s) w

/-- behind the loop, left by x6 -/
noncomputable def g89_l57_x6 (s2 : Bool × Int × Int) (t20 : Int) (t79 : Int) (w80 : World) : Option (Exit × (Bool × Int × Int) × World) :=
some (.normal, (s2.1, t20, (IntKind.i64.wrap (s2.2.2 + 1))), w80)

/-- behind the loop, left by x4 -/
noncomputable def g89_l32_x4 (u2 : Int) (t20 : Int) (u0 : Option Addr × Nat × Nat) (u1 : Int) (s2 : Bool × Int × Int) (t55 : Int) (w56 : World) : Option (Exit × (Bool × Int × Int) × World) :=
if (decide (((IntKind.i64.wrap (u2 - t20)) : Int) ≥ 2)) = true then
(g89_l57 u0 u1 u2 s2 t20 (IntKind.i64.wrap (t20 + 1)) w56)
else
(some (.normal, (s2.1, t20, (IntKind.i64.wrap (s2.2.2 + 1))), w56))

def g89_l81_cs (u0 : Option Addr × Nat × Nat) (u1 : Int) (u2 : Int) (s2 : Bool × Int × Int) (t20 : Int) : List (Nat × Value) := ([(0, .slice u0.1 u0.2.1 u0.2.2), (1, .int .i64 u1), (2, .int .i64 u2), (6, .bool s2.1), (7, .int .i64 t20), (8, .int .i64 s2.2.2)] : List (Nat × Value))

/-- the round of a loop (slices.partialInsertionSortOrdered[int]) -/
noncomputable def g89_l81_b (u2 : Int) (u0 : Option Addr × Nat × Nat) (u1 : Int) (s2 : Bool × Int × Int) (t20 : Int) (s82 : Int) (w83 : World) : Option (Exit × (Int) × World) :=
if (decide ((s82 : Int) < u2)) = true then
((idxA u0.1 u0.2.1 1 s82).bind fun a84 =>
(World.cell? (World.drew w83) a84).bind fun v85 =>
(asI .i64 v85).bind fun n86 =>
(idxA u0.1 u0.2.1 1 (IntKind.i64.wrap (s82 - 1))).bind fun a87 =>
(World.cell? (World.drew w83) a87).bind fun v88 =>
(asI .i64 v88).bind fun n89 =>
(callF Try.prog 90 #[.int .i64 n86, .int .i64 n89] (World.drew w83)).bind fun r90 =>
(asB r90.1).bind fun b91 =>
if (!b91) = true then
(some ((.exit 6), s82, r90.2))
else
((idxA u0.1 u0.2.1 1 (IntKind.i64.wrap (s82 - 1))).bind fun a92 =>
(World.cell? (World.drew r90.2) a92).bind fun v93 =>
(asI .i64 v93).bind fun n94 =>
(idxA u0.1 u0.2.1 1 s82).bind fun a95 =>
(World.cell? (World.drew r90.2) a95).bind fun v96 =>
(asI .i64 v96).bind fun n97 =>
(idxA u0.1 u0.2.1 1 s82).bind fun a98 =>
(st1 (World.drew r90.2) a98 (.int .i64 n94)).bind fun w99 =>
(idxA u0.1 u0.2.1 1 (IntKind.i64.wrap (s82 - 1))).bind fun a100 =>
(st1 w99 a100 (.int .i64 n97)).bind fun w101 =>
some (.normal, (IntKind.i64.wrap (s82 + 1)), w101)))
else
(some ((.exit 6), s82, w83))

noncomputable def g89_K102 (u0 : Option Addr × Nat × Nat) (u1 : Int) (u2 : Int) : Exit → Env → World → Option (Exit × (Bool × Int × Int) × World) :=
  blkK 6 (g89_K17 u0 u1 u2)

/-- the loop, from a state on -/
noncomputable def g89_l81 (u0 : Option Addr × Nat × Nat) (u1 : Int) (u2 : Int) (s2 : Bool × Int × Int) (t20 : Int) (s : Int) (w : World) : Option (Exit × (Bool × Int × Int) × World) :=
  loopM Try.prog 133 89 g89_ann (cAt [1, 1, 0, 1, 0, 0, 1, 0, 0, 1, 1, 1, 1, 1, 1, 0, 1, 0, 0] (bodyOf Try.f89)) [0, 1, 0, 1, 1, 1, 1, 1, 1, 0, 0, 1, 0, 0, 1, 0, 1, 1] (g89_K102 u0 u1 u2) ((g89_l81_cs u0 u1 u2 s2 t20) ++ sputs [(10, .i .i64)] s) w

/-- behind the loop, left by x6 -/
noncomputable def g89_l81_x6 (s2 : Bool × Int × Int) (t20 : Int) (t103 : Int) (w104 : World) : Option (Exit × (Bool × Int × Int) × World) :=
some (.normal, (s2.1, t20, (IntKind.i64.wrap (s2.2.2 + 1))), w104)

/-- behind the loop, left by x2 -/
noncomputable def g89_l4_x2 (u2 : Int) (s2 : Bool × Int × Int) (u1 : Int) (u0 : Option Addr × Nat × Nat) (t20 : Int) (w21 : World) : Option (Exit × (Bool × Int × Int) × World) :=
if ((t20 : Int) == u2) = true then
(some (.ret, (true, t20, s2.2.2), w21))
else
(if (decide (((IntKind.i64.wrap (u2 - u1)) : Int) < 50)) = true then
(some (.ret, (false, t20, s2.2.2), w21))
else
((idxA u0.1 u0.2.1 1 (IntKind.i64.wrap (t20 - 1))).bind fun a22 =>
(World.cell? (World.drew w21) a22).bind fun v23 =>
(asI .i64 v23).bind fun n24 =>
(idxA u0.1 u0.2.1 1 t20).bind fun a25 =>
(World.cell? (World.drew w21) a25).bind fun v26 =>
(asI .i64 v26).bind fun n27 =>
(idxA u0.1 u0.2.1 1 t20).bind fun a28 =>
(st1 (World.drew w21) a28 (.int .i64 n24)).bind fun w29 =>
(idxA u0.1 u0.2.1 1 (IntKind.i64.wrap (t20 - 1))).bind fun a30 =>
(st1 w29 a30 (.int .i64 n27)).bind fun w31 =>
if (decide (((IntKind.i64.wrap (t20 - u1)) : Int) ≥ 2)) = true then
(g89_l32 u0 u1 u2 s2 t20 (IntKind.i64.wrap (t20 - 1)) w31)
else
(if (decide (((IntKind.i64.wrap (u2 - t20)) : Int) ≥ 2)) = true then
(g89_l81 u0 u1 u2 s2 t20 (IntKind.i64.wrap (t20 + 1)) w31)
else
(some (.normal, (s2.1, t20, (IntKind.i64.wrap (s2.2.2 + 1))), w31)))))

/-- the round of a loop (slices.partialInsertionSortOrdered[int]) -/
noncomputable def g89_l1_b (u0 : Option Addr × Nat × Nat) (u1 : Int) (u2 : Int) (s2 : Bool × Int × Int) (w3 : World) : Option (Exit × (Bool × Int × Int) × World) :=
if (decide ((s2.2.2 : Int) < 5)) = true then
(g89_l4 u0 u1 u2 s2 s2.2.1 w3)
else
(some ((.exit 0), (s2.1, s2.2.1, s2.2.2), w3))

noncomputable def g89_K105  : Exit → Env → World → Option (Value × World) :=
  retK Try.prog Try.f89.results.toList

noncomputable def g89_K106  : Exit → Env → World → Option (Value × World) :=
  seqK (ev Try.prog 133 89 g89_ann (cAt [1, 1, 1] (bodyOf Try.f89)) [1, 1, 1] g89_K105) g89_K105

noncomputable def g89_K107  : Exit → Env → World → Option (Value × World) :=
  blkK 0 g89_K106

/-- the loop, from a state on -/
noncomputable def g89_l1 (u0 : Option Addr × Nat × Nat) (u1 : Int) (u2 : Int) (s : Bool × Int × Int) (w : World) : Option (Value × World) :=
  loopM Try.prog 133 89 g89_ann (cAt [1, 1, 0, 1, 0, 0] (bodyOf Try.f89)) [0, 1, 0, 1, 1] g89_K107 ((g89_l1_cs u0 u1 u2) ++ sputs [(6, .b), (7, .i .i64), (8, .i .i64)] s) w

/-- behind the loop, left by x0 -/
noncomputable def g89_l1_x0  (t108 : Bool × Int × Int) (w109 : World) : Option (Value × World) :=
some (.bool false, w109)

/-- behind the loop, left by ret -/
noncomputable def g89_l1_ret  (t110 : Bool × Int × Int) (w111 : World) : Option (Value × World) :=
some (.bool t110.1, w111)

noncomputable def g89 (u0 : Option Addr × Nat × Nat) (u1 : Int) (u2 : Int) (w0 : World) : Option (Value × World) :=
g89_l1 u0 u1 u2 (false, (IntKind.i64.wrap (u1 + 1)), 0) w0

theorem g89_eq (u0 : Option Addr × Nat × Nat) (u1 : Int) (u2 : Int) (w0 : World) : evFn Try.prog 89 g89_ann #[.slice u0.1 u0.2.1 u0.2.2, .int .i64 u1, .int .i64 u2] w0 = g89 u0 u1 u2 w0 := by kernel_rfl

theorem g89_call {u0 : Option Addr × Nat × Nat} {u1 : Int} {u2 : Int} {w0 : World} {r : Value × World} (h : g89 u0 u1 u2 w0 = some r) : callF Try.prog 89 #[.slice u0.1 u0.2.1 u0.2.2, .int .i64 u1, .int .i64 u2] w0 = some r :=
  callF_of_evFn (ann := g89_ann) Try.call89 (by kernel_rfl) ((g89_eq u0 u1 u2 w0).trans h)

theorem g89_l57_x6_of {u0 : Option Addr × Nat × Nat} {u1 : Int} {u2 : Int} {s2 : Bool × Int × Int} {t20 : Int} {s t : Int} {w w' : World} (h : loopS (g89_l57_b u2 u0 u1 s2 t20) s w = some (.exit 6, t, w')) : g89_l57 u0 u1 u2 s2 t20 s w = g89_l57_x6 s2 t20 t w' := by
  have h1 : g89_l57 u0 u1 u2 s2 t20 s w = loopM Try.prog 133 89 g89_ann (cAt [1, 1, 0, 1, 0, 0, 1, 0, 0, 1, 1, 1, 1, 1, 1, 0, 1, 0, 0] (bodyOf Try.f89)) [0, 1, 0, 1, 1, 1, 1, 1, 1, 0, 0, 1, 0, 0, 1, 0, 1, 1] (g89_K78 u0 u1 u2) ((g89_l57_cs u0 u1 u2 s2 t20) ++ sputs [(10, .i .i64)] s) w := by kernel_rfl
  have h2 : loopM Try.prog 133 89 g89_ann (cAt [1, 1, 0, 1, 0, 0, 1, 0, 0, 1, 1, 1, 1, 1, 1, 0, 1, 0, 0] (bodyOf Try.f89)) [0, 1, 0, 1, 1, 1, 1, 1, 1, 0, 0, 1, 0, 0, 1, 0, 1, 1] (g89_K78 u0 u1 u2) ((g89_l57_cs u0 u1 u2 s2 t20) ++ sputs [(10, .i .i64)] s) w = (g89_K78 u0 u1 u2) (.exit 6) (puts 133 ((g89_l57_cs u0 u1 u2 s2 t20) ++ sputs [(10, .i .i64)] t)) w' :=
    loop_rule (P := Try.prog) (N := 133) (f := 89) (ann := g89_ann) (body := (cAt [1, 1, 0, 1, 0, 0, 1, 0, 0, 1, 1, 1, 1, 1, 1, 0, 1, 0, 0] (bodyOf Try.f89))) (pt := [0, 1, 0, 1, 1, 1, 1, 1, 1, 0, 0, 1, 0, 0, 1, 0, 1, 1]) (K := (g89_K78 u0 u1 u2)) (g89_l57_cs u0 u1 u2 s2 t20) [(10, .i .i64)] (b := g89_l57_b u2 u0 u1 s2 t20) (fun s w => by kernel_rfl) (by kernel_rfl) (by kernel_rfl) (by kernel_rfl) h
  have h3 : (g89_K78 u0 u1 u2) (.exit 6) (puts 133 ((g89_l57_cs u0 u1 u2 s2 t20) ++ sputs [(10, .i .i64)] t)) w' = g89_l57_x6 s2 t20 t w' := by kernel_rfl
  exact h1.trans (h2.trans h3)

theorem g89_l32_x4_of {u0 : Option Addr × Nat × Nat} {u1 : Int} {u2 : Int} {s2 : Bool × Int × Int} {t20 : Int} {s t : Int} {w w' : World} (h : loopS (g89_l32_b u0 u1 u2 s2 t20) s w = some (.exit 4, t, w')) : g89_l32 u0 u1 u2 s2 t20 s w = g89_l32_x4 u2 t20 u0 u1 s2 t w' := by
  have h1 : g89_l32 u0 u1 u2 s2 t20 s w = loopM Try.prog 133 89 g89_ann (cAt [1, 1, 0, 1, 0, 0, 1, 0, 0, 1, 1, 1, 1, 0, 1, 0, 1, 0, 0] (bodyOf Try.f89)) [0, 1, 0, 1, 0, 1, 1, 1, 1, 0, 0, 1, 0, 0, 1, 0, 1, 1] (g89_K54 u0 u1 u2) ((g89_l32_cs u0 u1 u2 s2 t20) ++ sputs [(9, .i .i64)] s) w := by kernel_rfl
  have h2 : loopM Try.prog 133 89 g89_ann (cAt [1, 1, 0, 1, 0, 0, 1, 0, 0, 1, 1, 1, 1, 0, 1, 0, 1, 0, 0] (bodyOf Try.f89)) [0, 1, 0, 1, 0, 1, 1, 1, 1, 0, 0, 1, 0, 0, 1, 0, 1, 1] (g89_K54 u0 u1 u2) ((g89_l32_cs u0 u1 u2 s2 t20) ++ sputs [(9, .i .i64)] s) w = (g89_K54 u0 u1 u2) (.exit 4) (puts 133 ((g89_l32_cs u0 u1 u2 s2 t20) ++ sputs [(9, .i .i64)] t)) w' :=
    loop_rule (P := Try.prog) (N := 133) (f := 89) (ann := g89_ann) (body := (cAt [1, 1, 0, 1, 0, 0, 1, 0, 0, 1, 1, 1, 1, 0, 1, 0, 1, 0, 0] (bodyOf Try.f89))) (pt := [0, 1, 0, 1, 0, 1, 1, 1, 1, 0, 0, 1, 0, 0, 1, 0, 1, 1]) (K := (g89_K54 u0 u1 u2)) (g89_l32_cs u0 u1 u2 s2 t20) [(9, .i .i64)] (b := g89_l32_b u0 u1 u2 s2 t20) (fun s w => by kernel_rfl) (by kernel_rfl) (by kernel_rfl) (by kernel_rfl) h
  have h3 : (g89_K54 u0 u1 u2) (.exit 4) (puts 133 ((g89_l32_cs u0 u1 u2 s2 t20) ++ sputs [(9, .i .i64)] t)) w' = g89_l32_x4 u2 t20 u0 u1 s2 t w' := by kernel_rfl
  exact h1.trans (h2.trans h3)

theorem g89_l81_x6_of {u0 : Option Addr × Nat × Nat} {u1 : Int} {u2 : Int} {s2 : Bool × Int × Int} {t20 : Int} {s t : Int} {w w' : World} (h : loopS (g89_l81_b u2 u0 u1 s2 t20) s w = some (.exit 6, t, w')) : g89_l81 u0 u1 u2 s2 t20 s w = g89_l81_x6 s2 t20 t w' := by
  have h1 : g89_l81 u0 u1 u2 s2 t20 s w = loopM Try.prog 133 89 g89_ann (cAt [1, 1, 0, 1, 0, 0, 1, 0, 0, 1, 1, 1, 1, 1, 1, 0, 1, 0, 0] (bodyOf Try.f89)) [0, 1, 0, 1, 1, 1, 1, 1, 1, 0, 0, 1, 0, 0, 1, 0, 1, 1] (g89_K102 u0 u1 u2) ((g89_l81_cs u0 u1 u2 s2 t20) ++ sputs [(10, .i .i64)] s) w := by kernel_rfl
  have h2 : loopM Try.prog 133 89 g89_ann (cAt [1, 1, 0, 1, 0, 0, 1, 0, 0, 1, 1, 1, 1, 1, 1, 0, 1, 0, 0] (bodyOf Try.f89)) [0, 1, 0, 1, 1, 1, 1, 1, 1, 0, 0, 1, 0, 0, 1, 0, 1, 1] (g89_K102 u0 u1 u2) ((g89_l81_cs u0 u1 u2 s2 t20) ++ sputs [(10, .i .i64)] s) w = (g89_K102 u0 u1 u2) (.exit 6) (puts 133 ((g89_l81_cs u0 u1 u2 s2 t20) ++ sputs [(10, .i .i64)] t)) w' :=
    loop_rule (P := Try.prog) (N := 133) (f := 89) (ann := g89_ann) (body := (cAt [1, 1, 0, 1, 0, 0, 1, 0, 0, 1, 1, 1, 1, 1, 1, 0, 1, 0, 0] (bodyOf Try.f89))) (pt := [0, 1, 0, 1, 1, 1, 1, 1, 1, 0, 0, 1, 0, 0, 1, 0, 1, 1]) (K := (g89_K102 u0 u1 u2)) (g89_l81_cs u0 u1 u2 s2 t20) [(10, .i .i64)] (b := g89_l81_b u2 u0 u1 s2 t20) (fun s w => by kernel_rfl) (by kernel_rfl) (by kernel_rfl) (by kernel_rfl) h
  have h3 : (g89_K102 u0 u1 u2) (.exit 6) (puts 133 ((g89_l81_cs u0 u1 u2 s2 t20) ++ sputs [(10, .i .i64)] t)) w' = g89_l81_x6 s2 t20 t w' := by kernel_rfl
  exact h1.trans (h2.trans h3)

theorem g89_l4_x2_of {u0 : Option Addr × Nat × Nat} {u1 : Int} {u2 : Int} {s2 : Bool × Int × Int} {s t : Int} {w w' : World} (h : loopS (g89_l4_b u2 u0 u1 s2) s w = some (.exit 2, t, w')) : g89_l4 u0 u1 u2 s2 s w = g89_l4_x2 u2 s2 u1 u0 t w' := by
  have h1 : g89_l4 u0 u1 u2 s2 s w = loopM Try.prog 133 89 g89_ann (cAt [1, 1, 0, 1, 0, 0, 1, 0, 0, 0, 0, 0] (bodyOf Try.f89)) [0, 0, 0, 0, 1, 0, 0, 1, 0, 1, 1] (g89_K19 u0 u1 u2) ((g89_l4_cs u0 u1 u2 s2) ++ sputs [(7, .i .i64)] s) w := by kernel_rfl
  have h2 : loopM Try.prog 133 89 g89_ann (cAt [1, 1, 0, 1, 0, 0, 1, 0, 0, 0, 0, 0] (bodyOf Try.f89)) [0, 0, 0, 0, 1, 0, 0, 1, 0, 1, 1] (g89_K19 u0 u1 u2) ((g89_l4_cs u0 u1 u2 s2) ++ sputs [(7, .i .i64)] s) w = (g89_K19 u0 u1 u2) (.exit 2) (puts 133 ((g89_l4_cs u0 u1 u2 s2) ++ sputs [(7, .i .i64)] t)) w' :=
    loop_rule (P := Try.prog) (N := 133) (f := 89) (ann := g89_ann) (body := (cAt [1, 1, 0, 1, 0, 0, 1, 0, 0, 0, 0, 0] (bodyOf Try.f89))) (pt := [0, 0, 0, 0, 1, 0, 0, 1, 0, 1, 1]) (K := (g89_K19 u0 u1 u2)) (g89_l4_cs u0 u1 u2 s2) [(7, .i .i64)] (b := g89_l4_b u2 u0 u1 s2) (fun s w => by kernel_rfl) (by kernel_rfl) (by kernel_rfl) (by kernel_rfl) h
  have h3 : (g89_K19 u0 u1 u2) (.exit 2) (puts 133 ((g89_l4_cs u0 u1 u2 s2) ++ sputs [(7, .i .i64)] t)) w' = g89_l4_x2 u2 s2 u1 u0 t w' := by kernel_rfl
  exact h1.trans (h2.trans h3)

theorem g89_l1_x0_of {u0 : Option Addr × Nat × Nat} {u1 : Int} {u2 : Int} {s t : Bool × Int × Int} {w w' : World} (h : loopS (g89_l1_b u0 u1 u2) s w = some (.exit 0, t, w')) : g89_l1 u0 u1 u2 s w = g89_l1_x0 t w' := by
  have h1 : g89_l1 u0 u1 u2 s w = loopM Try.prog 133 89 g89_ann (cAt [1, 1, 0, 1, 0, 0] (bodyOf Try.f89)) [0, 1, 0, 1, 1] g89_K107 ((g89_l1_cs u0 u1 u2) ++ sputs [(6, .b), (7, .i .i64), (8, .i .i64)] s) w := by kernel_rfl
  have h2 : loopM Try.prog 133 89 g89_ann (cAt [1, 1, 0, 1, 0, 0] (bodyOf Try.f89)) [0, 1, 0, 1, 1] g89_K107 ((g89_l1_cs u0 u1 u2) ++ sputs [(6, .b), (7, .i .i64), (8, .i .i64)] s) w = g89_K107 (.exit 0) (puts 133 ((g89_l1_cs u0 u1 u2) ++ sputs [(6, .b), (7, .i .i64), (8, .i .i64)] t)) w' :=
    loop_rule (P := Try.prog) (N := 133) (f := 89) (ann := g89_ann) (body := (cAt [1, 1, 0, 1, 0, 0] (bodyOf Try.f89))) (pt := [0, 1, 0, 1, 1]) (K := g89_K107) (g89_l1_cs u0 u1 u2) [(6, .b), (7, .i .i64), (8, .i .i64)] (b := g89_l1_b u0 u1 u2) (fun s w => by kernel_rfl) (by kernel_rfl) (by kernel_rfl) (by kernel_rfl) h
  have h3 : g89_K107 (.exit 0) (puts 133 ((g89_l1_cs u0 u1 u2) ++ sputs [(6, .b), (7, .i .i64), (8, .i .i64)] t)) w' = g89_l1_x0 t w' := by kernel_rfl
  exact h1.trans (h2.trans h3)

theorem g89_l1_ret_of {u0 : Option Addr × Nat × Nat} {u1 : Int} {u2 : Int} {s t : Bool × Int × Int} {w w' : World} (h : loopS (g89_l1_b u0 u1 u2) s w = some (.ret, t, w')) : g89_l1 u0 u1 u2 s w = g89_l1_ret t w' := by
  have h1 : g89_l1 u0 u1 u2 s w = loopM Try.prog 133 89 g89_ann (cAt [1, 1, 0, 1, 0, 0] (bodyOf Try.f89)) [0, 1, 0, 1, 1] g89_K107 ((g89_l1_cs u0 u1 u2) ++ sputs [(6, .b), (7, .i .i64), (8, .i .i64)] s) w := by kernel_rfl
  have h2 : loopM Try.prog 133 89 g89_ann (cAt [1, 1, 0, 1, 0, 0] (bodyOf Try.f89)) [0, 1, 0, 1, 1] g89_K107 ((g89_l1_cs u0 u1 u2) ++ sputs [(6, .b), (7, .i .i64), (8, .i .i64)] s) w = g89_K107 (.ret) (puts 133 ((g89_l1_cs u0 u1 u2) ++ sputs [(6, .b), (7, .i .i64), (8, .i .i64)] t)) w' :=
    loop_rule (P := Try.prog) (N := 133) (f := 89) (ann := g89_ann) (body := (cAt [1, 1, 0, 1, 0, 0] (bodyOf Try.f89))) (pt := [0, 1, 0, 1, 1]) (K := g89_K107) (g89_l1_cs u0 u1 u2) [(6, .b), (7, .i .i64), (8, .i .i64)] (b := g89_l1_b u0 u1 u2) (fun s w => by kernel_rfl) (by kernel_rfl) (by kernel_rfl) (by kernel_rfl) h
  have h3 : g89_K107 (.ret) (puts 133 ((g89_l1_cs u0 u1 u2) ++ sputs [(6, .b), (7, .i .i64), (8, .i .i64)] t)) w' = g89_l1_ret t w' := by kernel_rfl
  exact h1.trans (h2.trans h3)

/-! 90: cmp.Less[int] (x: int, y: int) -/
def g90_ann : List (List Nat × List Nat) := []

noncomputable def g90 (u0 : Int) (u1 : Int) (w0 : World) : Option (Value × World) :=
(callF Try.prog 106 #[.int .i64 u0] w0).bind fun r1 =>
(asB r1.1).bind fun b2 =>
if b2 = true then
((callF Try.prog 106 #[.int .i64 u1] r1.2).bind fun r3 =>
(asB r3.1).bind fun b4 =>
if (!b4) = true then
(some (.bool true, r3.2))
else
(some (.bool (decide ((u0 : Int) < u1)), r3.2)))
else
(some (.bool (decide ((u0 : Int) < u1)), r1.2))

theorem g90_eq (u0 : Int) (u1 : Int) (w0 : World) : evFn Try.prog 90 g90_ann #[.int .i64 u0, .int .i64 u1] w0 = g90 u0 u1 w0 := by kernel_rfl

theorem g90_call {u0 : Int} {u1 : Int} {w0 : World} {r : Value × World} (h : g90 u0 u1 w0 = some r) : callF Try.prog 90 #[.int .i64 u0, .int .i64 u1] w0 = some r :=
  callF_of_evFn (ann := g90_ann) Try.call90 (by kernel_rfl) ((g90_eq u0 u1 w0).trans h)

/-! 91: slices.partitionEqualOrdered[int] (data: []int, a: int, b: int, pivot: int) -/
def g91_ann : List (List Nat × List Nat) := [([0, 0, 1, 1, 1], [0, 1, 9, 10]), ([0, 0, 0, 0, 0, 0, 1, 1, 1], [0, 1, 10, 9]), ([0, 0, 1, 0, 0, 0, 0, 1, 1, 1], [0, 1, 9, 10])]

def g91_l11_cs (u0 : Option Addr × Nat × Nat) (u1 : Int) : List (Nat × Value) := ([(0, .slice u0.1 u0.2.1 u0.2.2), (1, .int .i64 u1)] : List (Nat × Value))

def g91_l14_cs (u0 : Option Addr × Nat × Nat) (u1 : Int) (s12 : Int × Int) : List (Nat × Value) := ([(0, .slice u0.1 u0.2.1 u0.2.2), (1, .int .i64 u1), (10, .int .i64 s12.2)] : List (Nat × Value))

/-- the round of a loop (slices.partitionEqualOrdered[int]) -/
noncomputable def g91_l14_b (s12 : Int × Int) (u0 : Option Addr × Nat × Nat) (u1 : Int) (s15 : Int) (w16 : World) : Option (Exit × (Int) × World) :=
if (decide ((s15 : Int) ≤ s12.2)) = true then
((idxA u0.1 u0.2.1 1 u1).bind fun a17 =>
(World.cell? (World.drew w16) a17).bind fun v18 =>
(asI .i64 v18).bind fun n19 =>
(idxA u0.1 u0.2.1 1 s15).bind fun a20 =>
(World.cell? (World.drew w16) a20).bind fun v21 =>
(asI .i64 v21).bind fun n22 =>
(callF Try.prog 90 #[.int .i64 n19, .int .i64 n22] (World.drew w16)).bind fun r23 =>
(asB r23.1).bind fun b24 =>
if (!b24) = true then
(some (.normal, (IntKind.i64.wrap (s15 + 1)), r23.2))
else
(some ((.exit 2), s15, r23.2)))
else
(some ((.exit 2), s15, (World.drew w16)))

noncomputable def g91_K25 (u0 : Option Addr × Nat × Nat) (u1 : Int) : Exit → Env → World → Option (Exit × (Int × Int) × World) :=
  fun e ρ w => ((List.map (·.1) (g91_l11_cs u0 u1)).mapM ρ).bind fun _ => loopK [(9, .i .i64), (10, .i .i64)] e ρ w

noncomputable def g91_K26 (u0 : Option Addr × Nat × Nat) (u1 : Int) : Exit → Env → World → Option (Exit × (Int × Int) × World) :=
  blkK 1 (g91_K25 u0 u1)

noncomputable def g91_K27 (u0 : Option Addr × Nat × Nat) (u1 : Int) : Exit → Env → World → Option (Exit × (Int × Int) × World) :=
  seqK (ev Try.prog 84 91 g91_ann (cAt [1, 1, 1, 0, 0, 0, 0, 1] (bodyOf Try.f91)) [1, 0, 0, 0, 0, 1, 1, 1] (g91_K26 u0 u1)) (g91_K26 u0 u1)

noncomputable def g91_K28 (u0 : Option Addr × Nat × Nat) (u1 : Int) : Exit → Env → World → Option (Exit × (Int × Int) × World) :=
  blkK 2 (g91_K27 u0 u1)

/-- the loop, from a state on -/
noncomputable def g91_l14 (u0 : Option Addr × Nat × Nat) (u1 : Int) (s12 : Int × Int) (s : Int) (w : World) : Option (Exit × (Int × Int) × World) :=
  loopM Try.prog 84 91 g91_ann (cAt [1, 1, 1, 0, 0, 0, 0, 0, 0, 0] (bodyOf Try.f91)) [0, 0, 0, 0, 0, 0, 1, 1, 1] (g91_K28 u0 u1) ((g91_l14_cs u0 u1 s12) ++ sputs [(9, .i .i64)] s) w

def g91_l31_cs (u0 : Option Addr × Nat × Nat) (u1 : Int) (t29 : Int) : List (Nat × Value) := ([(0, .slice u0.1 u0.2.1 u0.2.2), (1, .int .i64 u1), (9, .int .i64 t29)] : List (Nat × Value))

/-- the round of a loop (slices.partitionEqualOrdered[int]) -/
noncomputable def g91_l31_b (t29 : Int) (u0 : Option Addr × Nat × Nat) (u1 : Int) (s32 : Int) (w33 : World) : Option (Exit × (Int) × World) :=
if (decide ((t29 : Int) ≤ s32)) = true then
((idxA u0.1 u0.2.1 1 u1).bind fun a34 =>
(World.cell? (World.drew w33) a34).bind fun v35 =>
(asI .i64 v35).bind fun n36 =>
(idxA u0.1 u0.2.1 1 s32).bind fun a37 =>
(World.cell? (World.drew w33) a37).bind fun v38 =>
(asI .i64 v38).bind fun n39 =>
(callF Try.prog 90 #[.int .i64 n36, .int .i64 n39] (World.drew w33)).bind fun r40 =>
(asB r40.1).bind fun b41 =>
if b41 = true then
(some (.normal, (IntKind.i64.wrap (s32 - 1)), r40.2))
else
(some ((.exit 4), s32, r40.2)))
else
(some ((.exit 4), s32, (World.drew w33)))

noncomputable def g91_K42 (u0 : Option Addr × Nat × Nat) (u1 : Int) : Exit → Env → World → Option (Exit × (Int × Int) × World) :=
  seqK (ev Try.prog 84 91 g91_ann (cAt [1, 1, 1, 0, 0, 0, 0, 1, 1] (bodyOf Try.f91)) [1, 1, 0, 0, 0, 0, 1, 1, 1] (g91_K26 u0 u1)) (g91_K26 u0 u1)

noncomputable def g91_K43 (u0 : Option Addr × Nat × Nat) (u1 : Int) : Exit → Env → World → Option (Exit × (Int × Int) × World) :=
  blkK 4 (g91_K42 u0 u1)

/-- the loop, from a state on -/
noncomputable def g91_l31 (u0 : Option Addr × Nat × Nat) (u1 : Int) (t29 : Int) (s : Int) (w : World) : Option (Exit × (Int × Int) × World) :=
  loopM Try.prog 84 91 g91_ann (cAt [1, 1, 1, 0, 0, 0, 0, 1, 0, 0, 0] (bodyOf Try.f91)) [0, 0, 1, 0, 0, 0, 0, 1, 1, 1] (g91_K43 u0 u1) ((g91_l31_cs u0 u1 t29) ++ sputs [(10, .i .i64)] s) w

/-- behind the loop, left by x4 -/
noncomputable def g91_l31_x4 (t29 : Int) (u0 : Option Addr × Nat × Nat) (t44 : Int) (w45 : World) : Option (Exit × (Int × Int) × World) :=
if (decide ((t29 : Int) > t44)) = true then
(some ((.exit 0), (t29, t44), w45))
else
((idxA u0.1 u0.2.1 1 t44).bind fun a46 =>
(World.cell? (World.drew w45) a46).bind fun v47 =>
(asI .i64 v47).bind fun n48 =>
(idxA u0.1 u0.2.1 1 t29).bind fun a49 =>
(World.cell? (World.drew w45) a49).bind fun v50 =>
(asI .i64 v50).bind fun n51 =>
(idxA u0.1 u0.2.1 1 t29).bind fun a52 =>
(st1 (World.drew w45) a52 (.int .i64 n48)).bind fun w53 =>
(idxA u0.1 u0.2.1 1 t44).bind fun a54 =>
(st1 w53 a54 (.int .i64 n51)).bind fun w55 =>
some (.normal, ((IntKind.i64.wrap (t29 + 1)), (IntKind.i64.wrap (t44 - 1))), w55))

/-- behind the loop, left by x2 -/
noncomputable def g91_l14_x2 (u0 : Option Addr × Nat × Nat) (u1 : Int) (s12 : Int × Int) (t29 : Int) (w30 : World) : Option (Exit × (Int × Int) × World) :=
g91_l31 u0 u1 t29 s12.2 w30

/-- the round of a loop (slices.partitionEqualOrdered[int]) -/
noncomputable def g91_l11_b (u0 : Option Addr × Nat × Nat) (u1 : Int) (s12 : Int × Int) (w13 : World) : Option (Exit × (Int × Int) × World) :=
g91_l14 u0 u1 s12 s12.1 w13

noncomputable def g91_K56  : Exit → Env → World → Option (Value × World) :=
  retK Try.prog Try.f91.results.toList

noncomputable def g91_K57  : Exit → Env → World → Option (Value × World) :=
  seqK (ev Try.prog 84 91 g91_ann (cAt [1, 1, 1, 1] (bodyOf Try.f91)) [1, 1, 1, 1] g91_K56) g91_K56

noncomputable def g91_K58  : Exit → Env → World → Option (Value × World) :=
  blkK 0 g91_K57

/-- the loop, from a state on -/
noncomputable def g91_l11 (u0 : Option Addr × Nat × Nat) (u1 : Int) (s : Int × Int) (w : World) : Option (Value × World) :=
  loopM Try.prog 84 91 g91_ann (cAt [1, 1, 1, 0, 0, 0] (bodyOf Try.f91)) [0, 0, 1, 1, 1] g91_K58 ((g91_l11_cs u0 u1) ++ sputs [(9, .i .i64), (10, .i .i64)] s) w

/-- behind the loop, left by x0 -/
noncomputable def g91_l11_x0  (t59 : Int × Int) (w60 : World) : Option (Value × World) :=
some (.int .i64 t59.1, w60)

noncomputable def g91 (u0 : Option Addr × Nat × Nat) (u1 : Int) (u2 : Int) (u3 : Int) (w0 : World) : Option (Value × World) :=
(idxA u0.1 u0.2.1 1 u3).bind fun a1 =>
(World.cell? (World.drew w0) a1).bind fun v2 =>
(asI .i64 v2).bind fun n3 =>
(idxA u0.1 u0.2.1 1 u1).bind fun a4 =>
(World.cell? (World.drew w0) a4).bind fun v5 =>
(asI .i64 v5).bind fun n6 =>
(idxA u0.1 u0.2.1 1 u1).bind fun a7 =>
(st1 (World.drew w0) a7 (.int .i64 n3)).bind fun w8 =>
(idxA u0.1 u0.2.1 1 u3).bind fun a9 =>
(st1 w8 a9 (.int .i64 n6)).bind fun w10 =>
g91_l11 u0 u1 ((IntKind.i64.wrap (u1 + 1)), (IntKind.i64.wrap (u2 - 1))) w10

theorem g91_eq (u0 : Option Addr × Nat × Nat) (u1 : Int) (u2 : Int) (u3 : Int) (w0 : World) : evFn Try.prog 91 g91_ann #[.slice u0.1 u0.2.1 u0.2.2, .int .i64 u1, .int .i64 u2, .int .i64 u3] w0 = g91 u0 u1 u2 u3 w0 := by kernel_rfl

theorem g91_call {u0 : Option Addr × Nat × Nat} {u1 : Int} {u2 : Int} {u3 : Int} {w0 : World} {r : Value × World} (h : g91 u0 u1 u2 u3 w0 = some r) : callF Try.prog 91 #[.slice u0.1 u0.2.1 u0.2.2, .int .i64 u1, .int .i64 u2, .int .i64 u3] w0 = some r :=
  callF_of_evFn (ann := g91_ann) Try.call91 (by kernel_rfl) ((g91_eq u0 u1 u2 u3 w0).trans h)

theorem g91_l31_x4_of {u0 : Option Addr × Nat × Nat} {u1 : Int} {t29 : Int} {s t : Int} {w w' : World} (h : loopS (g91_l31_b t29 u0 u1) s w = some (.exit 4, t, w')) : g91_l31 u0 u1 t29 s w = g91_l31_x4 t29 u0 t w' := by
  have h1 : g91_l31 u0 u1 t29 s w = loopM Try.prog 84 91 g91_ann (cAt [1, 1, 1, 0, 0, 0, 0, 1, 0, 0, 0] (bodyOf Try.f91)) [0, 0, 1, 0, 0, 0, 0, 1, 1, 1] (g91_K43 u0 u1) ((g91_l31_cs u0 u1 t29) ++ sputs [(10, .i .i64)] s) w := by kernel_rfl
  have h2 : loopM Try.prog 84 91 g91_ann (cAt [1, 1, 1, 0, 0, 0, 0, 1, 0, 0, 0] (bodyOf Try.f91)) [0, 0, 1, 0, 0, 0, 0, 1, 1, 1] (g91_K43 u0 u1) ((g91_l31_cs u0 u1 t29) ++ sputs [(10, .i .i64)] s) w = (g91_K43 u0 u1) (.exit 4) (puts 84 ((g91_l31_cs u0 u1 t29) ++ sputs [(10, .i .i64)] t)) w' :=
    loop_rule (P := Try.prog) (N := 84) (f := 91) (ann := g91_ann) (body := (cAt [1, 1, 1, 0, 0, 0, 0, 1, 0, 0, 0] (bodyOf Try.f91))) (pt := [0, 0, 1, 0, 0, 0, 0, 1, 1, 1]) (K := (g91_K43 u0 u1)) (g91_l31_cs u0 u1 t29) [(10, .i .i64)] (b := g91_l31_b t29 u0 u1) (fun s w => by kernel_rfl) (by kernel_rfl) (by kernel_rfl) (by kernel_rfl) h
  have h3 : (g91_K43 u0 u1) (.exit 4) (puts 84 ((g91_l31_cs u0 u1 t29) ++ sputs [(10, .i .i64)] t)) w' = g91_l31_x4 t29 u0 t w' := by kernel_rfl
  exact h1.trans (h2.trans h3)

theorem g91_l14_x2_of {u0 : Option Addr × Nat × Nat} {u1 : Int} {s12 : Int × Int} {s t : Int} {w w' : World} (h : loopS (g91_l14_b s12 u0 u1) s w = some (.exit 2, t, w')) : g91_l14 u0 u1 s12 s w = g91_l14_x2 u0 u1 s12 t w' := by
  have h1 : g91_l14 u0 u1 s12 s w = loopM Try.prog 84 91 g91_ann (cAt [1, 1, 1, 0, 0, 0, 0, 0, 0, 0] (bodyOf Try.f91)) [0, 0, 0, 0, 0, 0, 1, 1, 1] (g91_K28 u0 u1) ((g91_l14_cs u0 u1 s12) ++ sputs [(9, .i .i64)] s) w := by kernel_rfl
  have h2 : loopM Try.prog 84 91 g91_ann (cAt [1, 1, 1, 0, 0, 0, 0, 0, 0, 0] (bodyOf Try.f91)) [0, 0, 0, 0, 0, 0, 1, 1, 1] (g91_K28 u0 u1) ((g91_l14_cs u0 u1 s12) ++ sputs [(9, .i .i64)] s) w = (g91_K28 u0 u1) (.exit 2) (puts 84 ((g91_l14_cs u0 u1 s12) ++ sputs [(9, .i .i64)] t)) w' :=
    loop_rule (P := Try.prog) (N := 84) (f := 91) (ann := g91_ann) (body := (cAt [1, 1, 1, 0, 0, 0, 0, 0, 0, 0] (bodyOf Try.f91))) (pt := [0, 0, 0, 0, 0, 0, 1, 1, 1]) (K := (g91_K28 u0 u1)) (g91_l14_cs u0 u1 s12) [(9, .i .i64)] (b := g91_l14_b s12 u0 u1) (fun s w => by kernel_rfl) (by kernel_rfl) (by kernel_rfl) (by kernel_rfl) h
  have h3 : (g91_K28 u0 u1) (.exit 2) (puts 84 ((g91_l14_cs u0 u1 s12) ++ sputs [(9, .i .i64)] t)) w' = g91_l14_x2 u0 u1 s12 t w' := by kernel_rfl
  exact h1.trans (h2.trans h3)

theorem g91_l11_x0_of {u0 : Option Addr × Nat × Nat} {u1 : Int} {s t : Int × Int} {w w' : World} (h : loopS (g91_l11_b u0 u1) s w = some (.exit 0, t, w')) : g91_l11 u0 u1 s w = g91_l11_x0 t w' := by
  have h1 : g91_l11 u0 u1 s w = loopM Try.prog 84 91 g91_ann (cAt [1, 1, 1, 0, 0, 0] (bodyOf Try.f91)) [0, 0, 1, 1, 1] g91_K58 ((g91_l11_cs u0 u1) ++ sputs [(9, .i .i64), (10, .i .i64)] s) w := by kernel_rfl
  have h2 : loopM Try.prog 84 91 g91_ann (cAt [1, 1, 1, 0, 0, 0] (bodyOf Try.f91)) [0, 0, 1, 1, 1] g91_K58 ((g91_l11_cs u0 u1) ++ sputs [(9, .i .i64), (10, .i .i64)] s) w = g91_K58 (.exit 0) (puts 84 ((g91_l11_cs u0 u1) ++ sputs [(9, .i .i64), (10, .i .i64)] t)) w' :=
    loop_rule (P := Try.prog) (N := 84) (f := 91) (ann := g91_ann) (body := (cAt [1, 1, 1, 0, 0, 0] (bodyOf Try.f91))) (pt := [0, 0, 1, 1, 1]) (K := g91_K58) (g91_l11_cs u0 u1) [(9, .i .i64), (10, .i .i64)] (b := g91_l11_b u0 u1) (fun s w => by kernel_rfl) (by kernel_rfl) (by kernel_rfl) (by kernel_rfl) h
  have h3 : g91_K58 (.exit 0) (puts 84 ((g91_l11_cs u0 u1) ++ sputs [(9, .i .i64), (10, .i .i64)] t)) w' = g91_l11_x0 t w' := by kernel_rfl
  exact h1.trans (h2.trans h3)

/-! 92: slices.partitionOrdered[int] (data: []int, a: int, b: int, pivot: int) -/
def g92_ann : List (List Nat × List Nat) := [([0, 0, 1, 1, 1], [0, 1, 11, 10]), ([0, 0, 1, 1, 1, 1], [0, 1, 10, 11]), ([0, 0, 1, 1, 1, 1, 1, 1, 1, 1, 1], [0, 1, 10, 11]), ([0, 0, 0, 0, 0, 0, 1, 1, 1, 1, 1, 1, 1, 1, 1], [0, 1, 11, 10]), ([0, 0, 1, 0, 0, 0, 0, 1, 1, 1, 1, 1, 1, 1, 1, 1], [0, 1, 10, 11])]

def g92_l11_cs (u0 : Option Addr × Nat × Nat) (u1 : Int) (u2 : Int) : List (Nat × Value) := ([(0, .slice u0.1 u0.2.1 u0.2.2), (1, .int .i64 u1), (11, .int .i64 (IntKind.i64.wrap (u2 - 1)))] : List (Nat × Value))

/-- the round of a loop (slices.partitionOrdered[int]) -/
noncomputable def g92_l11_b (u2 : Int) (u0 : Option Addr × Nat × Nat) (u1 : Int) (s12 : Int) (w13 : World) : Option (Exit × (Int) × World) :=
if (decide ((s12 : Int) ≤ (IntKind.i64.wrap (u2 - 1)))) = true then
((idxA u0.1 u0.2.1 1 s12).bind fun a14 =>
(World.cell? (World.drew w13) a14).bind fun v15 =>
(asI .i64 v15).bind fun n16 =>
(idxA u0.1 u0.2.1 1 u1).bind fun a17 =>
(World.cell? (World.drew w13) a17).bind fun v18 =>
(asI .i64 v18).bind fun n19 =>
(callF Try.prog 90 #[.int .i64 n16, .int .i64 n19] (World.drew w13)).bind fun r20 =>
(asB r20.1).bind fun b21 =>
if b21 = true then
(some (.normal, (IntKind.i64.wrap (s12 + 1)), r20.2))
else
(some ((.exit 0), s12, r20.2)))
else
(some ((.exit 0), s12, (World.drew w13)))

noncomputable def g92_K22  : Exit → Env → World → Option (Value × World) :=
  retK Try.prog Try.f92.results.toList

noncomputable def g92_K23  : Exit → Env → World → Option (Value × World) :=
  seqK (ev Try.prog 168 92 g92_ann (cAt [1, 1, 1, 1] (bodyOf Try.f92)) [1, 1, 1, 1] g92_K22) g92_K22

noncomputable def g92_K24  : Exit → Env → World → Option (Value × World) :=
  blkK 0 g92_K23

/-- the loop, from a state on -/
noncomputable def g92_l11 (u0 : Option Addr × Nat × Nat) (u1 : Int) (u2 : Int) (s : Int) (w : World) : Option (Value × World) :=
  loopM Try.prog 168 92 g92_ann (cAt [1, 1, 1, 0, 0, 0] (bodyOf Try.f92)) [0, 0, 1, 1, 1] g92_K24 ((g92_l11_cs u0 u1 u2) ++ sputs [(10, .i .i64)] s) w

def g92_l27_cs (u0 : Option Addr × Nat × Nat) (u1 : Int) (t25 : Int) : List (Nat × Value) := ([(0, .slice u0.1 u0.2.1 u0.2.2), (1, .int .i64 u1), (10, .int .i64 t25)] : List (Nat × Value))

/-- the round of a loop (slices.partitionOrdered[int]) -/
noncomputable def g92_l27_b (t25 : Int) (u0 : Option Addr × Nat × Nat) (u1 : Int) (s28 : Int) (w29 : World) : Option (Exit × (Int) × World) :=
if (decide ((t25 : Int) ≤ s28)) = true then
((idxA u0.1 u0.2.1 1 s28).bind fun a30 =>
(World.cell? (World.drew w29) a30).bind fun v31 =>
(asI .i64 v31).bind fun n32 =>
(idxA u0.1 u0.2.1 1 u1).bind fun a33 =>
(World.cell? (World.drew w29) a33).bind fun v34 =>
(asI .i64 v34).bind fun n35 =>
(callF Try.prog 90 #[.int .i64 n32, .int .i64 n35] (World.drew w29)).bind fun r36 =>
(asB r36.1).bind fun b37 =>
if (!b37) = true then
(some (.normal, (IntKind.i64.wrap (s28 - 1)), r36.2))
else
(some ((.exit 2), s28, r36.2)))
else
(some ((.exit 2), s28, (World.drew w29)))

noncomputable def g92_K38  : Exit → Env → World → Option (Value × World) :=
  seqK (ev Try.prog 168 92 g92_ann (cAt [1, 1, 1, 1, 1] (bodyOf Try.f92)) [1, 1, 1, 1, 1] g92_K22) g92_K22

noncomputable def g92_K39  : Exit → Env → World → Option (Value × World) :=
  blkK 2 g92_K38

/-- the loop, from a state on -/
noncomputable def g92_l27 (u0 : Option Addr × Nat × Nat) (u1 : Int) (t25 : Int) (s : Int) (w : World) : Option (Value × World) :=
  loopM Try.prog 168 92 g92_ann (cAt [1, 1, 1, 1, 0, 0, 0] (bodyOf Try.f92)) [0, 0, 1, 1, 1, 1] g92_K39 ((g92_l27_cs u0 u1 t25) ++ sputs [(11, .i .i64)] s) w

def g92_l62_cs (u0 : Option Addr × Nat × Nat) (u1 : Int) : List (Nat × Value) := ([(0, .slice u0.1 u0.2.1 u0.2.2), (1, .int .i64 u1)] : List (Nat × Value))

def g92_l65_cs (u0 : Option Addr × Nat × Nat) (u1 : Int) (s63 : Int × Int) : List (Nat × Value) := ([(0, .slice u0.1 u0.2.1 u0.2.2), (1, .int .i64 u1), (11, .int .i64 s63.2)] : List (Nat × Value))

/-- the round of a loop (slices.partitionOrdered[int]) -/
noncomputable def g92_l65_b (s63 : Int × Int) (u0 : Option Addr × Nat × Nat) (u1 : Int) (s66 : Int) (w67 : World) : Option (Exit × (Int) × World) :=
if (decide ((s66 : Int) ≤ s63.2)) = true then
((idxA u0.1 u0.2.1 1 s66).bind fun a68 =>
(World.cell? (World.drew w67) a68).bind fun v69 =>
(asI .i64 v69).bind fun n70 =>
(idxA u0.1 u0.2.1 1 u1).bind fun a71 =>
(World.cell? (World.drew w67) a71).bind fun v72 =>
(asI .i64 v72).bind fun n73 =>
(callF Try.prog 90 #[.int .i64 n70, .int .i64 n73] (World.drew w67)).bind fun r74 =>
(asB r74.1).bind fun b75 =>
if b75 = true then
(some (.normal, (IntKind.i64.wrap (s66 + 1)), r74.2))
else
(some ((.exit 6), s66, r74.2)))
else
(some ((.exit 6), s66, (World.drew w67)))

noncomputable def g92_K76 (u0 : Option Addr × Nat × Nat) (u1 : Int) : Exit → Env → World → Option (Exit × (Int × Int) × World) :=
  fun e ρ w => ((List.map (·.1) (g92_l62_cs u0 u1)).mapM ρ).bind fun _ => loopK [(10, .i .i64), (11, .i .i64)] e ρ w

noncomputable def g92_K77 (u0 : Option Addr × Nat × Nat) (u1 : Int) : Exit → Env → World → Option (Exit × (Int × Int) × World) :=
  blkK 5 (g92_K76 u0 u1)

noncomputable def g92_K78 (u0 : Option Addr × Nat × Nat) (u1 : Int) : Exit → Env → World → Option (Exit × (Int × Int) × World) :=
  seqK (ev Try.prog 168 92 g92_ann (cAt [1, 1, 1, 1, 1, 1, 1, 1, 1, 0, 0, 0, 0, 1] (bodyOf Try.f92)) [1, 0, 0, 0, 0, 1, 1, 1, 1, 1, 1, 1, 1, 1] (g92_K77 u0 u1)) (g92_K77 u0 u1)

noncomputable def g92_K79 (u0 : Option Addr × Nat × Nat) (u1 : Int) : Exit → Env → World → Option (Exit × (Int × Int) × World) :=
  blkK 6 (g92_K78 u0 u1)

/-- the loop, from a state on -/
noncomputable def g92_l65 (u0 : Option Addr × Nat × Nat) (u1 : Int) (s63 : Int × Int) (s : Int) (w : World) : Option (Exit × (Int × Int) × World) :=
  loopM Try.prog 168 92 g92_ann (cAt [1, 1, 1, 1, 1, 1, 1, 1, 1, 0, 0, 0, 0, 0, 0, 0] (bodyOf Try.f92)) [0, 0, 0, 0, 0, 0, 1, 1, 1, 1, 1, 1, 1, 1, 1] (g92_K79 u0 u1) ((g92_l65_cs u0 u1 s63) ++ sputs [(10, .i .i64)] s) w

def g92_l82_cs (u0 : Option Addr × Nat × Nat) (u1 : Int) (t80 : Int) : List (Nat × Value) := ([(0, .slice u0.1 u0.2.1 u0.2.2), (1, .int .i64 u1), (10, .int .i64 t80)] : List (Nat × Value))

/-- the round of a loop (slices.partitionOrdered[int]) -/
noncomputable def g92_l82_b (t80 : Int) (u0 : Option Addr × Nat × Nat) (u1 : Int) (s83 : Int) (w84 : World) : Option (Exit × (Int) × World) :=
if (decide ((t80 : Int) ≤ s83)) = true then
((idxA u0.1 u0.2.1 1 s83).bind fun a85 =>
(World.cell? (World.drew w84) a85).bind fun v86 =>
(asI .i64 v86).bind fun n87 =>
(idxA u0.1 u0.2.1 1 u1).bind fun a88 =>
(World.cell? (World.drew w84) a88).bind fun v89 =>
(asI .i64 v89).bind fun n90 =>
(callF Try.prog 90 #[.int .i64 n87, .int .i64 n90] (World.drew w84)).bind fun r91 =>
(asB r91.1).bind fun b92 =>
if (!b92) = true then
(some (.normal, (IntKind.i64.wrap (s83 - 1)), r91.2))
else
(some ((.exit 8), s83, r91.2)))
else
(some ((.exit 8), s83, (World.drew w84)))

noncomputable def g92_K93 (u0 : Option Addr × Nat × Nat) (u1 : Int) : Exit → Env → World → Option (Exit × (Int × Int) × World) :=
  seqK (ev Try.prog 168 92 g92_ann (cAt [1, 1, 1, 1, 1, 1, 1, 1, 1, 0, 0, 0, 0, 1, 1] (bodyOf Try.f92)) [1, 1, 0, 0, 0, 0, 1, 1, 1, 1, 1, 1, 1, 1, 1] (g92_K77 u0 u1)) (g92_K77 u0 u1)

noncomputable def g92_K94 (u0 : Option Addr × Nat × Nat) (u1 : Int) : Exit → Env → World → Option (Exit × (Int × Int) × World) :=
  blkK 8 (g92_K93 u0 u1)

/-- the loop, from a state on -/
noncomputable def g92_l82 (u0 : Option Addr × Nat × Nat) (u1 : Int) (t80 : Int) (s : Int) (w : World) : Option (Exit × (Int × Int) × World) :=
  loopM Try.prog 168 92 g92_ann (cAt [1, 1, 1, 1, 1, 1, 1, 1, 1, 0, 0, 0, 0, 1, 0, 0, 0] (bodyOf Try.f92)) [0, 0, 1, 0, 0, 0, 0, 1, 1, 1, 1, 1, 1, 1, 1, 1] (g92_K94 u0 u1) ((g92_l82_cs u0 u1 t80) ++ sputs [(11, .i .i64)] s) w

/-- behind the loop, left by x8 -/
noncomputable def g92_l82_x8 (t80 : Int) (u0 : Option Addr × Nat × Nat) (t95 : Int) (w96 : World) : Option (Exit × (Int × Int) × World) :=
if (decide ((t80 : Int) > t95)) = true then
(some ((.exit 4), (t80, t95), w96))
else
((idxA u0.1 u0.2.1 1 t95).bind fun a97 =>
(World.cell? (World.drew w96) a97).bind fun v98 =>
(asI .i64 v98).bind fun n99 =>
(idxA u0.1 u0.2.1 1 t80).bind fun a100 =>
(World.cell? (World.drew w96) a100).bind fun v101 =>
(asI .i64 v101).bind fun n102 =>
(idxA u0.1 u0.2.1 1 t80).bind fun a103 =>
(st1 (World.drew w96) a103 (.int .i64 n99)).bind fun w104 =>
(idxA u0.1 u0.2.1 1 t95).bind fun a105 =>
(st1 w104 a105 (.int .i64 n102)).bind fun w106 =>
some (.normal, ((IntKind.i64.wrap (t80 + 1)), (IntKind.i64.wrap (t95 - 1))), w106))

/-- behind the loop, left by x6 -/
noncomputable def g92_l65_x6 (u0 : Option Addr × Nat × Nat) (u1 : Int) (s63 : Int × Int) (t80 : Int) (w81 : World) : Option (Exit × (Int × Int) × World) :=
g92_l82 u0 u1 t80 s63.2 w81

/-- the round of a loop (slices.partitionOrdered[int]) -/
noncomputable def g92_l62_b (u0 : Option Addr × Nat × Nat) (u1 : Int) (s63 : Int × Int) (w64 : World) : Option (Exit × (Int × Int) × World) :=
g92_l65 u0 u1 s63 s63.1 w64

noncomputable def g92_K107  : Exit → Env → World → Option (Value × World) :=
  seqK (ev Try.prog 168 92 g92_ann (cAt [1, 1, 1, 1, 1, 1, 1, 1, 1, 1] (bodyOf Try.f92)) [1, 1, 1, 1, 1, 1, 1, 1, 1, 1] g92_K22) g92_K22

noncomputable def g92_K108  : Exit → Env → World → Option (Value × World) :=
  blkK 4 g92_K107

/-- the loop, from a state on -/
noncomputable def g92_l62 (u0 : Option Addr × Nat × Nat) (u1 : Int) (s : Int × Int) (w : World) : Option (Value × World) :=
  loopM Try.prog 168 92 g92_ann (cAt [1, 1, 1, 1, 1, 1, 1, 1, 1, 0, 0, 0] (bodyOf Try.f92)) [0, 0, 1, 1, 1, 1, 1, 1, 1, 1, 1] g92_K108 ((g92_l62_cs u0 u1) ++ sputs [(10, .i .i64), (11, .i .i64)] s) w

/-- behind the loop, left by x4 -/
noncomputable def g92_l62_x4 (u0 : Option Addr × Nat × Nat) (u1 : Int) (t109 : Int × Int) (w110 : World) : Option (Value × World) :=
(idxA u0.1 u0.2.1 1 u1).bind fun a111 =>
(World.cell? (World.drew w110) a111).bind fun v112 =>
(asI .i64 v112).bind fun n113 =>
(idxA u0.1 u0.2.1 1 t109.2).bind fun a114 =>
(World.cell? (World.drew w110) a114).bind fun v115 =>
(asI .i64 v115).bind fun n116 =>
(idxA u0.1 u0.2.1 1 t109.2).bind fun a117 =>
(st1 (World.drew w110) a117 (.int .i64 n113)).bind fun w118 =>
(idxA u0.1 u0.2.1 1 u1).bind fun a119 =>
(st1 w118 a119 (.int .i64 n116)).bind fun w120 =>
some (.tuple #[.int .i64 t109.2, .bool false], w120)

/-- behind the loop, left by x2 -/
noncomputable def g92_l27_x2 (t25 : Int) (u0 : Option Addr × Nat × Nat) (u1 : Int) (t40 : Int) (w41 : World) : Option (Value × World) :=
if (decide ((t25 : Int) > t40)) = true then
((idxA u0.1 u0.2.1 1 u1).bind fun a42 =>
(World.cell? (World.drew w41) a42).bind fun v43 =>
(asI .i64 v43).bind fun n44 =>
(idxA u0.1 u0.2.1 1 t40).bind fun a45 =>
(World.cell? (World.drew w41) a45).bind fun v46 =>
(asI .i64 v46).bind fun n47 =>
(idxA u0.1 u0.2.1 1 t40).bind fun a48 =>
(st1 (World.drew w41) a48 (.int .i64 n44)).bind fun w49 =>
(idxA u0.1 u0.2.1 1 u1).bind fun a50 =>
(st1 w49 a50 (.int .i64 n47)).bind fun w51 =>
some (.tuple #[.int .i64 t40, .bool true], w51))
else
((idxA u0.1 u0.2.1 1 t40).bind fun a52 =>
(World.cell? (World.drew w41) a52).bind fun v53 =>
(asI .i64 v53).bind fun n54 =>
(idxA u0.1 u0.2.1 1 t25).bind fun a55 =>
(World.cell? (World.drew w41) a55).bind fun v56 =>
(asI .i64 v56).bind fun n57 =>
(idxA u0.1 u0.2.1 1 t25).bind fun a58 =>
(st1 (World.drew w41) a58 (.int .i64 n54)).bind fun w59 =>
(idxA u0.1 u0.2.1 1 t40).bind fun a60 =>
(st1 w59 a60 (.int .i64 n57)).bind fun w61 =>
g92_l62 u0 u1 ((IntKind.i64.wrap (t25 + 1)), (IntKind.i64.wrap (t40 - 1))) w61)

/-- behind the loop, left by x0 -/
noncomputable def g92_l11_x0 (u0 : Option Addr × Nat × Nat) (u1 : Int) (u2 : Int) (t25 : Int) (w26 : World) : Option (Value × World) :=
g92_l27 u0 u1 t25 (IntKind.i64.wrap (u2 - 1)) w26

noncomputable def g92 (u0 : Option Addr × Nat × Nat) (u1 : Int) (u2 : Int) (u3 : Int) (w0 : World) : Option (Value × World) :=
(idxA u0.1 u0.2.1 1 u3).bind fun a1 =>
(World.cell? (World.drew w0) a1).bind fun v2 =>
(asI .i64 v2).bind fun n3 =>
(idxA u0.1 u0.2.1 1 u1).bind fun a4 =>
(World.cell? (World.drew w0) a4).bind fun v5 =>
(asI .i64 v5).bind fun n6 =>
(idxA u0.1 u0.2.1 1 u1).bind fun a7 =>
(st1 (World.drew w0) a7 (.int .i64 n3)).bind fun w8 =>
(idxA u0.1 u0.2.1 1 u3).bind fun a9 =>
(st1 w8 a9 (.int .i64 n6)).bind fun w10 =>
g92_l11 u0 u1 u2 (IntKind.i64.wrap (u1 + 1)) w10

theorem g92_eq (u0 : Option Addr × Nat × Nat) (u1 : Int) (u2 : Int) (u3 : Int) (w0 : World) : evFn Try.prog 92 g92_ann #[.slice u0.1 u0.2.1 u0.2.2, .int .i64 u1, .int .i64 u2, .int .i64 u3] w0 = g92 u0 u1 u2 u3 w0 := by kernel_rfl

theorem g92_call {u0 : Option Addr × Nat × Nat} {u1 : Int} {u2 : Int} {u3 : Int} {w0 : World} {r : Value × World} (h : g92 u0 u1 u2 u3 w0 = some r) : callF Try.prog 92 #[.slice u0.1 u0.2.1 u0.2.2, .int .i64 u1, .int .i64 u2, .int .i64 u3] w0 = some r :=
  callF_of_evFn (ann := g92_ann) Try.call92 (by kernel_rfl) ((g92_eq u0 u1 u2 u3 w0).trans h)

theorem g92_l82_x8_of {u0 : Option Addr × Nat × Nat} {u1 : Int} {t80 : Int} {s t : Int} {w w' : World} (h : loopS (g92_l82_b t80 u0 u1) s w = some (.exit 8, t, w')) : g92_l82 u0 u1 t80 s w = g92_l82_x8 t80 u0 t w' := by
  have h1 : g92_l82 u0 u1 t80 s w = loopM Try.prog 168 92 g92_ann (cAt [1, 1, 1, 1, 1, 1, 1, 1, 1, 0, 0, 0, 0, 1, 0, 0, 0] (bodyOf Try.f92)) [0, 0, 1, 0, 0, 0, 0, 1, 1, 1, 1, 1, 1, 1, 1, 1] (g92_K94 u0 u1) ((g92_l82_cs u0 u1 t80) ++ sputs [(11, .i .i64)] s) w := by kernel_rfl
  have h2 : loopM Try.prog 168 92 g92_ann (cAt [1, 1, 1, 1, 1, 1, 1, 1, 1, 0, 0, 0, 0, 1, 0, 0, 0] (bodyOf Try.f92)) [0, 0, 1, 0, 0, 0, 0, 1, 1, 1, 1, 1, 1, 1, 1, 1] (g92_K94 u0 u1) ((g92_l82_cs u0 u1 t80) ++ sputs [(11, .i .i64)] s) w = (g92_K94 u0 u1) (.exit 8) (puts 168 ((g92_l82_cs u0 u1 t80) ++ sputs [(11, .i .i64)] t)) w' :=
    loop_rule (P := Try.prog) (N := 168) (f := 92) (ann := g92_ann) (body := (cAt [1, 1, 1, 1, 1, 1, 1, 1, 1, 0, 0, 0, 0, 1, 0, 0, 0] (bodyOf Try.f92))) (pt := [0, 0, 1, 0, 0, 0, 0, 1, 1, 1, 1, 1, 1, 1, 1, 1]) (K := (g92_K94 u0 u1)) (g92_l82_cs u0 u1 t80) [(11, .i .i64)] (b := g92_l82_b t80 u0 u1) (fun s w => by kernel_rfl) (by kernel_rfl) (by kernel_rfl) (by kernel_rfl) h
  have h3 : (g92_K94 u0 u1) (.exit 8) (puts 168 ((g92_l82_cs u0 u1 t80) ++ sputs [(11, .i .i64)] t)) w' = g92_l82_x8 t80 u0 t w' := by kernel_rfl
  exact h1.trans (h2.trans h3)

theorem g92_l65_x6_of {u0 : Option Addr × Nat × Nat} {u1 : Int} {s63 : Int × Int} {s t : Int} {w w' : World} (h : loopS (g92_l65_b s63 u0 u1) s w = some (.exit 6, t, w')) : g92_l65 u0 u1 s63 s w = g92_l65_x6 u0 u1 s63 t w' := by
  have h1 : g92_l65 u0 u1 s63 s w = loopM Try.prog 168 92 g92_ann (cAt [1, 1, 1, 1, 1, 1, 1, 1, 1, 0, 0, 0, 0, 0, 0, 0] (bodyOf Try.f92)) [0, 0, 0, 0, 0, 0, 1, 1, 1, 1, 1, 1, 1, 1, 1] (g92_K79 u0 u1) ((g92_l65_cs u0 u1 s63) ++ sputs [(10, .i .i64)] s) w := by kernel_rfl
  have h2 : loopM Try.prog 168 92 g92_ann (cAt [1, 1, 1, 1, 1, 1, 1, 1, 1, 0, 0, 0, 0, 0, 0, 0] (bodyOf Try.f92)) [0, 0, 0, 0, 0, 0, 1, 1, 1, 1, 1, 1, 1, 1, 1] (g92_K79 u0 u1) ((g92_l65_cs u0 u1 s63) ++ sputs [(10, .i .i64)] s) w = (g92_K79 u0 u1) (.exit 6) (puts 168 ((g92_l65_cs u0 u1 s63) ++ sputs [(10, .i .i64)] t)) w' :=
    loop_rule (P := Try.prog) (N := 168) (f := 92) (ann := g92_ann) (body := (cAt [1, 1, 1, 1, 1, 1, 1, 1, 1, 0, 0, 0, 0, 0, 0, 0] (bodyOf Try.f92))) (pt := [0, 0, 0, 0, 0, 0, 1, 1, 1, 1, 1, 1, 1, 1, 1]) (K := (g92_K79 u0 u1)) (g92_l65_cs u0 u1 s63) [(10, .i .i64)] (b := g92_l65_b s63 u0 u1) (fun s w => by kernel_rfl) (by kernel_rfl) (by kernel_rfl) (by kernel_rfl) h
  have h3 : (g92_K79 u0 u1) (.exit 6) (puts 168 ((g92_l65_cs u0 u1 s63) ++ sputs [(10, .i .i64)] t)) w' = g92_l65_x6 u0 u1 s63 t w' := by kernel_rfl
  exact h1.trans (h2.trans h3)

theorem g92_l62_x4_of {u0 : Option Addr × Nat × Nat} {u1 : Int} {s t : Int × Int} {w w' : World} (h : loopS (g92_l62_b u0 u1) s w = some (.exit 4, t, w')) : g92_l62 u0 u1 s w = g92_l62_x4 u0 u1 t w' := by
  have h1 : g92_l62 u0 u1 s w = loopM Try.prog 168 92 g92_ann (cAt [1, 1, 1, 1, 1, 1, 1, 1, 1, 0, 0, 0] (bodyOf Try.f92)) [0, 0, 1, 1, 1, 1, 1, 1, 1, 1, 1] g92_K108 ((g92_l62_cs u0 u1) ++ sputs [(10, .i .i64), (11, .i .i64)] s) w := by kernel_rfl
  have h2 : loopM Try.prog 168 92 g92_ann (cAt [1, 1, 1, 1, 1, 1, 1, 1, 1, 0, 0, 0] (bodyOf Try.f92)) [0, 0, 1, 1, 1, 1, 1, 1, 1, 1, 1] g92_K108 ((g92_l62_cs u0 u1) ++ sputs [(10, .i .i64), (11, .i .i64)] s) w = g92_K108 (.exit 4) (puts 168 ((g92_l62_cs u0 u1) ++ sputs [(10, .i .i64), (11, .i .i64)] t)) w' :=
    loop_rule (P := Try.prog) (N := 168) (f := 92) (ann := g92_ann) (body := (cAt [1, 1, 1, 1, 1, 1, 1, 1, 1, 0, 0, 0] (bodyOf Try.f92))) (pt := [0, 0, 1, 1, 1, 1, 1, 1, 1, 1, 1]) (K := g92_K108) (g92_l62_cs u0 u1) [(10, .i .i64), (11, .i .i64)] (b := g92_l62_b u0 u1) (fun s w => by kernel_rfl) (by kernel_rfl) (by kernel_rfl) (by kernel_rfl) h
  have h3 : g92_K108 (.exit 4) (puts 168 ((g92_l62_cs u0 u1) ++ sputs [(10, .i .i64), (11, .i .i64)] t)) w' = g92_l62_x4 u0 u1 t w' := by kernel_rfl
  exact h1.trans (h2.trans h3)

theorem g92_l27_x2_of {u0 : Option Addr × Nat × Nat} {u1 : Int} {t25 : Int} {s t : Int} {w w' : World} (h : loopS (g92_l27_b t25 u0 u1) s w = some (.exit 2, t, w')) : g92_l27 u0 u1 t25 s w = g92_l27_x2 t25 u0 u1 t w' := by
  have h1 : g92_l27 u0 u1 t25 s w = loopM Try.prog 168 92 g92_ann (cAt [1, 1, 1, 1, 0, 0, 0] (bodyOf Try.f92)) [0, 0, 1, 1, 1, 1] g92_K39 ((g92_l27_cs u0 u1 t25) ++ sputs [(11, .i .i64)] s) w := by kernel_rfl
  have h2 : loopM Try.prog 168 92 g92_ann (cAt [1, 1, 1, 1, 0, 0, 0] (bodyOf Try.f92)) [0, 0, 1, 1, 1, 1] g92_K39 ((g92_l27_cs u0 u1 t25) ++ sputs [(11, .i .i64)] s) w = g92_K39 (.exit 2) (puts 168 ((g92_l27_cs u0 u1 t25) ++ sputs [(11, .i .i64)] t)) w' :=
    loop_rule (P := Try.prog) (N := 168) (f := 92) (ann := g92_ann) (body := (cAt [1, 1, 1, 1, 0, 0, 0] (bodyOf Try.f92))) (pt := [0, 0, 1, 1, 1, 1]) (K := g92_K39) (g92_l27_cs u0 u1 t25) [(11, .i .i64)] (b := g92_l27_b t25 u0 u1) (fun s w => by kernel_rfl) (by kernel_rfl) (by kernel_rfl) (by kernel_rfl) h
  have h3 : g92_K39 (.exit 2) (puts 168 ((g92_l27_cs u0 u1 t25) ++ sputs [(11, .i .i64)] t)) w' = g92_l27_x2 t25 u0 u1 t w' := by kernel_rfl
  exact h1.trans (h2.trans h3)

theorem g92_l11_x0_of {u0 : Option Addr × Nat × Nat} {u1 : Int} {u2 : Int} {s t : Int} {w w' : World} (h : loopS (g92_l11_b u2 u0 u1) s w = some (.exit 0, t, w')) : g92_l11 u0 u1 u2 s w = g92_l11_x0 u0 u1 u2 t w' := by
  have h1 : g92_l11 u0 u1 u2 s w = loopM Try.prog 168 92 g92_ann (cAt [1, 1, 1, 0, 0, 0] (bodyOf Try.f92)) [0, 0, 1, 1, 1] g92_K24 ((g92_l11_cs u0 u1 u2) ++ sputs [(10, .i .i64)] s) w := by kernel_rfl
  have h2 : loopM Try.prog 168 92 g92_ann (cAt [1, 1, 1, 0, 0, 0] (bodyOf Try.f92)) [0, 0, 1, 1, 1] g92_K24 ((g92_l11_cs u0 u1 u2) ++ sputs [(10, .i .i64)] s) w = g92_K24 (.exit 0) (puts 168 ((g92_l11_cs u0 u1 u2) ++ sputs [(10, .i .i64)] t)) w' :=
    loop_rule (P := Try.prog) (N := 168) (f := 92) (ann := g92_ann) (body := (cAt [1, 1, 1, 0, 0, 0] (bodyOf Try.f92))) (pt := [0, 0, 1, 1, 1]) (K := g92_K24) (g92_l11_cs u0 u1 u2) [(10, .i .i64)] (b := g92_l11_b u2 u0 u1) (fun s w => by kernel_rfl) (by kernel_rfl) (by kernel_rfl) (by kernel_rfl) h
  have h3 : g92_K24 (.exit 0) (puts 168 ((g92_l11_cs u0 u1 u2) ++ sputs [(10, .i .i64)] t)) w' = g92_l11_x0 u0 u1 u2 t w' := by kernel_rfl
  exact h1.trans (h2.trans h3)

/-! 94: math/bits.Len64 (x: uint64) -/
def g94_ann : List (List Nat × List Nat) := []

noncomputable def g94_j7 (w0 : World) (x8 : Int) (x9 : Int) : Option (Value × World) :=
(strIdx (⟨#[0, 1, 2, 2, 3, 3, 3, 3, 4, 4, 4, 4, 4, 4, 4, 4, 5, 5, 5, 5, 5, 5, 5, 5, 5, 5, 5, 5, 5, 5, 5, 5, 6, 6, 6, 6, 6, 6, 6, 6, 6, 6, 6, 6, 6, 6, 6, 6, 6, 6, 6, 6, 6, 6, 6, 6, 6, 6, 6, 6, 6, 6, 6, 6, 7, 7, 7, 7, 7, 7, 7, 7, 7, 7, 7, 7, 7, 7, 7, 7, 7, 7, 7, 7, 7, 7, 7, 7, 7, 7, 7, 7, 7, 7, 7, 7, 7, 7, 7, 7, 7, 7, 7, 7, 7, 7, 7, 7, 7, 7, 7, 7, 7, 7, 7, 7, 7, 7, 7, 7, 7, 7, 7, 7, 7, 7, 7, 7, 8, 8, 8, 8, 8, 8, 8, 8, 8, 8, 8, 8, 8, 8, 8, 8, 8, 8, 8, 8, 8, 8, 8, 8, 8, 8, 8, 8, 8, 8, 8, 8, 8, 8, 8, 8, 8, 8, 8, 8, 8, 8, 8, 8, 8, 8, 8, 8, 8, 8, 8, 8, 8, 8, 8, 8, 8, 8, 8, 8, 8, 8, 8, 8, 8, 8, 8, 8, 8, 8, 8, 8, 8, 8, 8, 8, 8, 8, 8, 8, 8, 8, 8, 8, 8, 8, 8, 8, 8, 8, 8, 8, 8, 8, 8, 8, 8, 8, 8, 8, 8, 8, 8, 8, 8, 8, 8, 8, 8, 8, 8, 8, 8, 8, 8, 8, 8, 8, 8, 8, 8, 8, 8, 8, 8, 8, 8, 8]⟩ : ByteArray) (IntKind.u8.wrap x8)).bind fun n10 =>
some (.int .i64 (IntKind.i64.wrap (x9 + (IntKind.i64.wrap n10))), w0)

noncomputable def g94_j4 (w0 : World) (x5 : Int) (x6 : Int) : Option (Value × World) :=
if (decide ((x5 : Int) ≥ 256)) = true then
(g94_j7 w0 (Int.fdiv x5 (2 ^ (min (Int.toNat 8) 64))) (IntKind.i64.wrap (x6 + 8)))
else
(g94_j7 w0 x5 x6)

noncomputable def g94_j1 (w0 : World) (x2 : Int) (x3 : Int) : Option (Value × World) :=
if (decide ((x2 : Int) ≥ 65536)) = true then
(g94_j4 w0 (Int.fdiv x2 (2 ^ (min (Int.toNat 16) 64))) (IntKind.i64.wrap (x3 + 16)))
else
(g94_j4 w0 x2 x3)

noncomputable def g94 (u0 : Int) (w0 : World) : Option (Value × World) :=
if (decide ((u0 : Int) ≥ 4294967296)) = true then
(g94_j1 w0 (Int.fdiv u0 (2 ^ (min (Int.toNat 32) 64))) 32)
else
(g94_j1 w0 u0 0)

theorem g94_eq (u0 : Int) (w0 : World) : evFn Try.prog 94 g94_ann #[.int .u64 u0] w0 = g94 u0 w0 := by kernel_rfl

theorem g94_call {u0 : Int} {w0 : World} {r : Value × World} (h : g94 u0 w0 = some r) : callF Try.prog 94 #[.int .u64 u0] w0 = some r :=
  callF_of_evFn (ann := g94_ann) Try.call94 (by kernel_rfl) ((g94_eq u0 w0).trans h)

/-! 101: slices.siftDownOrdered[int] (data: []int, lo: int, hi: int, first: int) -/
def g101_ann : List (List Nat × List Nat) := [([0, 1], [0, 2, 3, 8])]

def g101_l1_cs (u0 : Option Addr × Nat × Nat) (u2 : Int) (u3 : Int) : List (Nat × Value) := ([(0, .slice u0.1 u0.2.1 u0.2.2), (2, .int .i64 u2), (3, .int .i64 u3)] : List (Nat × Value))

/-- the round of a loop (slices.siftDownOrdered[int]) -/
noncomputable def g101_l1_b (u2 : Int) (u0 : Option Addr × Nat × Nat) (u3 : Int) (s2 : Int) (w3 : World) : Option (Exit × (Int) × World) :=
if (decide (((IntKind.i64.wrap ((IntKind.i64.wrap (2 * s2)) + 1)) : Int) ≥ u2)) = true then
(some ((.exit 0), s2, w3))
else
(if (decide (((IntKind.i64.wrap ((IntKind.i64.wrap ((IntKind.i64.wrap (2 * s2)) + 1)) + 1)) : Int) < u2)) = true then
((idxA u0.1 u0.2.1 1 (IntKind.i64.wrap (u3 + (IntKind.i64.wrap ((IntKind.i64.wrap (2 * s2)) + 1))))).bind fun a5 =>
(World.cell? (World.drew w3) a5).bind fun v6 =>
(asI .i64 v6).bind fun n7 =>
(idxA u0.1 u0.2.1 1 (IntKind.i64.wrap ((IntKind.i64.wrap (u3 + (IntKind.i64.wrap ((IntKind.i64.wrap (2 * s2)) + 1)))) + 1))).bind fun a8 =>
(World.cell? (World.drew w3) a8).bind fun v9 =>
(asI .i64 v9).bind fun n10 =>
(callF Try.prog 90 #[.int .i64 n7, .int .i64 n10] (World.drew w3)).bind fun r11 =>
(asB r11.1).bind fun b12 =>
if b12 = true then
((idxA u0.1 u0.2.1 1 (IntKind.i64.wrap (u3 + s2))).bind fun a13 =>
(World.cell? (World.drew r11.2) a13).bind fun v14 =>
(asI .i64 v14).bind fun n15 =>
(idxA u0.1 u0.2.1 1 (IntKind.i64.wrap (u3 + (IntKind.i64.wrap ((IntKind.i64.wrap ((IntKind.i64.wrap (2 * s2)) + 1)) + 1))))).bind fun a16 =>
(World.cell? (World.drew r11.2) a16).bind fun v17 =>
(asI .i64 v17).bind fun n18 =>
(callF Try.prog 90 #[.int .i64 n15, .int .i64 n18] (World.drew r11.2)).bind fun r19 =>
(asB r19.1).bind fun b20 =>
if (!b20) = true then
(some (.ret, s2, r19.2))
else
((idxA u0.1 u0.2.1 1 (IntKind.i64.wrap (u3 + (IntKind.i64.wrap ((IntKind.i64.wrap ((IntKind.i64.wrap (2 * s2)) + 1)) + 1))))).bind fun a21 =>
(World.cell? (World.drew r19.2) a21).bind fun v22 =>
(asI .i64 v22).bind fun n23 =>
(idxA u0.1 u0.2.1 1 (IntKind.i64.wrap (u3 + s2))).bind fun a24 =>
(World.cell? (World.drew r19.2) a24).bind fun v25 =>
(asI .i64 v25).bind fun n26 =>
(idxA u0.1 u0.2.1 1 (IntKind.i64.wrap (u3 + s2))).bind fun a27 =>
(st1 (World.drew r19.2) a27 (.int .i64 n23)).bind fun w28 =>
(idxA u0.1 u0.2.1 1 (IntKind.i64.wrap (u3 + (IntKind.i64.wrap ((IntKind.i64.wrap ((IntKind.i64.wrap (2 * s2)) + 1)) + 1))))).bind fun a29 =>
(st1 w28 a29 (.int .i64 n26)).bind fun w30 =>
some (.normal, (IntKind.i64.wrap ((IntKind.i64.wrap ((IntKind.i64.wrap (2 * s2)) + 1)) + 1)), w30)))
else
((idxA u0.1 u0.2.1 1 (IntKind.i64.wrap (u3 + s2))).bind fun a31 =>
(World.cell? (World.drew r11.2) a31).bind fun v32 =>
(asI .i64 v32).bind fun n33 =>
(idxA u0.1 u0.2.1 1 (IntKind.i64.wrap (u3 + (IntKind.i64.wrap ((IntKind.i64.wrap (2 * s2)) + 1))))).bind fun a34 =>
(World.cell? (World.drew r11.2) a34).bind fun v35 =>
(asI .i64 v35).bind fun n36 =>
(callF Try.prog 90 #[.int .i64 n33, .int .i64 n36] (World.drew r11.2)).bind fun r37 =>
(asB r37.1).bind fun b38 =>
if (!b38) = true then
(some (.ret, s2, r37.2))
else
((idxA u0.1 u0.2.1 1 (IntKind.i64.wrap (u3 + (IntKind.i64.wrap ((IntKind.i64.wrap (2 * s2)) + 1))))).bind fun a39 =>
(World.cell? (World.drew r37.2) a39).bind fun v40 =>
(asI .i64 v40).bind fun n41 =>
(idxA u0.1 u0.2.1 1 (IntKind.i64.wrap (u3 + s2))).bind fun a42 =>
(World.cell? (World.drew r37.2) a42).bind fun v43 =>
(asI .i64 v43).bind fun n44 =>
(idxA u0.1 u0.2.1 1 (IntKind.i64.wrap (u3 + s2))).bind fun a45 =>
(st1 (World.drew r37.2) a45 (.int .i64 n41)).bind fun w46 =>
(idxA u0.1 u0.2.1 1 (IntKind.i64.wrap (u3 + (IntKind.i64.wrap ((IntKind.i64.wrap (2 * s2)) + 1))))).bind fun a47 =>
(st1 w46 a47 (.int .i64 n44)).bind fun w48 =>
some (.normal, (IntKind.i64.wrap ((IntKind.i64.wrap (2 * s2)) + 1)), w48))))
else
((idxA u0.1 u0.2.1 1 (IntKind.i64.wrap (u3 + s2))).bind fun a49 =>
(World.cell? (World.drew (World.drew w3)) a49).bind fun v50 =>
(asI .i64 v50).bind fun n51 =>
(idxA u0.1 u0.2.1 1 (IntKind.i64.wrap (u3 + (IntKind.i64.wrap ((IntKind.i64.wrap (2 * s2)) + 1))))).bind fun a52 =>
(World.cell? (World.drew (World.drew w3)) a52).bind fun v53 =>
(asI .i64 v53).bind fun n54 =>
(callF Try.prog 90 #[.int .i64 n51, .int .i64 n54] (World.drew (World.drew w3))).bind fun r55 =>
(asB r55.1).bind fun b56 =>
if (!b56) = true then
(some (.ret, s2, r55.2))
else
((idxA u0.1 u0.2.1 1 (IntKind.i64.wrap (u3 + (IntKind.i64.wrap ((IntKind.i64.wrap (2 * s2)) + 1))))).bind fun a57 =>
(World.cell? (World.drew r55.2) a57).bind fun v58 =>
(asI .i64 v58).bind fun n59 =>
(idxA u0.1 u0.2.1 1 (IntKind.i64.wrap (u3 + s2))).bind fun a60 =>
(World.cell? (World.drew r55.2) a60).bind fun v61 =>
(asI .i64 v61).bind fun n62 =>
(idxA u0.1 u0.2.1 1 (IntKind.i64.wrap (u3 + s2))).bind fun a63 =>
(st1 (World.drew r55.2) a63 (.int .i64 n59)).bind fun w64 =>
(idxA u0.1 u0.2.1 1 (IntKind.i64.wrap (u3 + (IntKind.i64.wrap ((IntKind.i64.wrap (2 * s2)) + 1))))).bind fun a65 =>
(st1 w64 a65 (.int .i64 n62)).bind fun w66 =>
some (.normal, (IntKind.i64.wrap ((IntKind.i64.wrap (2 * s2)) + 1)), w66))))

noncomputable def g101_K67  : Exit → Env → World → Option (Value × World) :=
  retK Try.prog Try.f101.results.toList

noncomputable def g101_K68  : Exit → Env → World → Option (Value × World) :=
  blkK 0 g101_K67

/-- the loop, from a state on -/
noncomputable def g101_l1 (u0 : Option Addr × Nat × Nat) (u2 : Int) (u3 : Int) (s : Int) (w : World) : Option (Value × World) :=
  loopM Try.prog 76 101 g101_ann (cAt [1, 0, 0] (bodyOf Try.f101)) [0, 1] g101_K68 ((g101_l1_cs u0 u2 u3) ++ sputs [(8, .i .i64)] s) w

/-- behind the loop, left by x0 -/
noncomputable def g101_l1_x0  (t69 : Int) (w70 : World) : Option (Value × World) :=
some (.tuple #[], w70)

/-- behind the loop, left by ret -/
noncomputable def g101_l1_ret  (t71 : Int) (w72 : World) : Option (Value × World) :=
some (.tuple #[], w72)

noncomputable def g101 (u0 : Option Addr × Nat × Nat) (u1 : Int) (u2 : Int) (u3 : Int) (w0 : World) : Option (Value × World) :=
g101_l1 u0 u2 u3 u1 w0

theorem g101_eq (u0 : Option Addr × Nat × Nat) (u1 : Int) (u2 : Int) (u3 : Int) (w0 : World) : evFn Try.prog 101 g101_ann #[.slice u0.1 u0.2.1 u0.2.2, .int .i64 u1, .int .i64 u2, .int .i64 u3] w0 = g101 u0 u1 u2 u3 w0 := by kernel_rfl

theorem g101_call {u0 : Option Addr × Nat × Nat} {u1 : Int} {u2 : Int} {u3 : Int} {w0 : World} {r : Value × World} (h : g101 u0 u1 u2 u3 w0 = some r) : callF Try.prog 101 #[.slice u0.1 u0.2.1 u0.2.2, .int .i64 u1, .int .i64 u2, .int .i64 u3] w0 = some r :=
  callF_of_evFn (ann := g101_ann) Try.call101 (by kernel_rfl) ((g101_eq u0 u1 u2 u3 w0).trans h)

theorem g101_l1_x0_of {u0 : Option Addr × Nat × Nat} {u2 : Int} {u3 : Int} {s t : Int} {w w' : World} (h : loopS (g101_l1_b u2 u0 u3) s w = some (.exit 0, t, w')) : g101_l1 u0 u2 u3 s w = g101_l1_x0 t w' := by
  have h1 : g101_l1 u0 u2 u3 s w = loopM Try.prog 76 101 g101_ann (cAt [1, 0, 0] (bodyOf Try.f101)) [0, 1] g101_K68 ((g101_l1_cs u0 u2 u3) ++ sputs [(8, .i .i64)] s) w := by kernel_rfl
  have h2 : loopM Try.prog 76 101 g101_ann (cAt [1, 0, 0] (bodyOf Try.f101)) [0, 1] g101_K68 ((g101_l1_cs u0 u2 u3) ++ sputs [(8, .i .i64)] s) w = g101_K68 (.exit 0) (puts 76 ((g101_l1_cs u0 u2 u3) ++ sputs [(8, .i .i64)] t)) w' :=
    loop_rule (P := Try.prog) (N := 76) (f := 101) (ann := g101_ann) (body := (cAt [1, 0, 0] (bodyOf Try.f101))) (pt := [0, 1]) (K := g101_K68) (g101_l1_cs u0 u2 u3) [(8, .i .i64)] (b := g101_l1_b u2 u0 u3) (fun s w => by kernel_rfl) (by kernel_rfl) (by kernel_rfl) (by kernel_rfl) h
  have h3 : g101_K68 (.exit 0) (puts 76 ((g101_l1_cs u0 u2 u3) ++ sputs [(8, .i .i64)] t)) w' = g101_l1_x0 t w' := by kernel_rfl
  exact h1.trans (h2.trans h3)

theorem g101_l1_ret_of {u0 : Option Addr × Nat × Nat} {u2 : Int} {u3 : Int} {s t : Int} {w w' : World} (h : loopS (g101_l1_b u2 u0 u3) s w = some (.ret, t, w')) : g101_l1 u0 u2 u3 s w = g101_l1_ret t w' := by
  have h1 : g101_l1 u0 u2 u3 s w = loopM Try.prog 76 101 g101_ann (cAt [1, 0, 0] (bodyOf Try.f101)) [0, 1] g101_K68 ((g101_l1_cs u0 u2 u3) ++ sputs [(8, .i .i64)] s) w := by kernel_rfl
  have h2 : loopM Try.prog 76 101 g101_ann (cAt [1, 0, 0] (bodyOf Try.f101)) [0, 1] g101_K68 ((g101_l1_cs u0 u2 u3) ++ sputs [(8, .i .i64)] s) w = g101_K68 (.ret) (puts 76 ((g101_l1_cs u0 u2 u3) ++ sputs [(8, .i .i64)] t)) w' :=
    loop_rule (P := Try.prog) (N := 76) (f := 101) (ann := g101_ann) (body := (cAt [1, 0, 0] (bodyOf Try.f101))) (pt := [0, 1]) (K := g101_K68) (g101_l1_cs u0 u2 u3) [(8, .i .i64)] (b := g101_l1_b u2 u0 u3) (fun s w => by kernel_rfl) (by kernel_rfl) (by kernel_rfl) (by kernel_rfl) h
  have h3 : g101_K68 (.ret) (puts 76 ((g101_l1_cs u0 u2 u3) ++ sputs [(8, .i .i64)] t)) w' = g101_l1_ret t w' := by kernel_rfl
  exact h1.trans (h2.trans h3)

/-! 102: slices.nextPowerOfTwo (length: int) -/
def g102_ann : List (List Nat × List Nat) := []

noncomputable def g102 (u0 : Int) (w0 : World) : Option (Value × World) :=
(callF Try.prog 69 #[.int .u64 (IntKind.u64.wrap u0)] w0).bind fun r1 =>
(asI .i64 r1.1).bind fun n2 =>
if (n2 : Int) < 0 then
(none)
else
(some (.int .u64 (IntKind.u64.wrap (1 * 2 ^ (min (Int.toNat n2) 64))), r1.2))

theorem g102_eq (u0 : Int) (w0 : World) : evFn Try.prog 102 g102_ann #[.int .i64 u0] w0 = g102 u0 w0 := by kernel_rfl

theorem g102_call {u0 : Int} {w0 : World} {r : Value × World} (h : g102 u0 w0 = some r) : callF Try.prog 102 #[.int .i64 u0] w0 = some r :=
  callF_of_evFn (ann := g102_ann) Try.call102 (by kernel_rfl) ((g102_eq u0 w0).trans h)

/-! 103: (*slices.xorshift).Next (r: *slices.xorshift) -/
def g103_ann : List (List Nat × List Nat) := []

noncomputable def g103 (u0 : Option Addr) (w0 : World) : Option (Value × World) :=
u0.bind fun a1 =>
(World.cell? (World.drew w0) a1).bind fun v2 =>
(asI .u64 v2).bind fun n3 =>
u0.bind fun a4 =>
(World.cell? (World.drew w0) a4).bind fun v5 =>
(asI .u64 v5).bind fun n6 =>
u0.bind fun a7 =>
(st1 (World.drew w0) a7 (.int .u64 (IntKind.u64.wrap ((BitVec.ofInt 64 n3 ^^^ BitVec.ofInt 64 (IntKind.u64.wrap (n6 * 2 ^ (min (Int.toNat 13) 64)))).toNat : Nat)))).bind fun w8 =>
u0.bind fun a9 =>
(World.cell? (World.drew w8) a9).bind fun v10 =>
(asI .u64 v10).bind fun n11 =>
u0.bind fun a12 =>
(World.cell? (World.drew w8) a12).bind fun v13 =>
(asI .u64 v13).bind fun n14 =>
u0.bind fun a15 =>
(st1 (World.drew w8) a15 (.int .u64 (IntKind.u64.wrap ((BitVec.ofInt 64 n11 ^^^ BitVec.ofInt 64 (Int.fdiv n14 (2 ^ (min (Int.toNat 7) 64)))).toNat : Nat)))).bind fun w16 =>
u0.bind fun a17 =>
(World.cell? (World.drew w16) a17).bind fun v18 =>
(asI .u64 v18).bind fun n19 =>
u0.bind fun a20 =>
(World.cell? (World.drew w16) a20).bind fun v21 =>
(asI .u64 v21).bind fun n22 =>
u0.bind fun a23 =>
(st1 (World.drew w16) a23 (.int .u64 (IntKind.u64.wrap ((BitVec.ofInt 64 n19 ^^^ BitVec.ofInt 64 (IntKind.u64.wrap (n22 * 2 ^ (min (Int.toNat 17) 64)))).toNat : Nat)))).bind fun w24 =>
u0.bind fun a25 =>
(World.cell? w24 a25).bind fun v26 =>
(asI .u64 v26).bind fun n27 =>
some (.int .u64 n27, w24)

theorem g103_eq (u0 : Option Addr) (w0 : World) : evFn Try.prog 103 g103_ann #[.pointer u0] w0 = g103 u0 w0 := by kernel_rfl

theorem g103_call {u0 : Option Addr} {w0 : World} {r : Value × World} (h : g103 u0 w0 = some r) : callF Try.prog 103 #[.pointer u0] w0 = some r :=
  callF_of_evFn (ann := g103_ann) Try.call103 (by kernel_rfl) ((g103_eq u0 w0).trans h)

/-! 104: slices.medianAdjacentOrdered[int] (data: []int, a: int, swaps: *int) -/
def g104_ann : List (List Nat × List Nat) := []

noncomputable def g104 (u0 : Option Addr × Nat × Nat) (u1 : Int) (u2 : Option Addr) (w0 : World) : Option (Value × World) :=
(callF Try.prog 105 #[.slice u0.1 u0.2.1 u0.2.2, .int .i64 (IntKind.i64.wrap (u1 - 1)), .int .i64 u1, .int .i64 (IntKind.i64.wrap (u1 + 1)), .pointer u2] w0).bind fun r1 =>
(asI .i64 r1.1).bind fun n2 =>
some (.int .i64 n2, r1.2)

theorem g104_eq (u0 : Option Addr × Nat × Nat) (u1 : Int) (u2 : Option Addr) (w0 : World) : evFn Try.prog 104 g104_ann #[.slice u0.1 u0.2.1 u0.2.2, .int .i64 u1, .pointer u2] w0 = g104 u0 u1 u2 w0 := by kernel_rfl

theorem g104_call {u0 : Option Addr × Nat × Nat} {u1 : Int} {u2 : Option Addr} {w0 : World} {r : Value × World} (h : g104 u0 u1 u2 w0 = some r) : callF Try.prog 104 #[.slice u0.1 u0.2.1 u0.2.2, .int .i64 u1, .pointer u2] w0 = some r :=
  callF_of_evFn (ann := g104_ann) Try.call104 (by kernel_rfl) ((g104_eq u0 u1 u2 w0).trans h)

/-! 105: slices.medianOrdered[int] (data: []int, a: int, b: int, c: int, swaps: *int) -/
def g105_ann : List (List Nat × List Nat) := []

noncomputable def g105 (u0 : Option Addr × Nat × Nat) (u1 : Int) (u2 : Int) (u3 : Int) (u4 : Option Addr) (w0 : World) : Option (Value × World) :=
(callF Try.prog 108 #[.slice u0.1 u0.2.1 u0.2.2, .int .i64 u1, .int .i64 u2, .pointer u4] w0).bind fun r1 =>
(asTup 2 r1.1).bind fun l2 =>
(asI .i64 (l2.getD 0 undef)).bind fun n3 =>
(asI .i64 (l2.getD 1 undef)).bind fun n4 =>
(callF Try.prog 108 #[.slice u0.1 u0.2.1 u0.2.2, .int .i64 n4, .int .i64 u3, .pointer u4] r1.2).bind fun r5 =>
(asTup 2 r5.1).bind fun l6 =>
(asI .i64 (l6.getD 0 undef)).bind fun n7 =>
(asI .i64 (l6.getD 1 undef)).bind fun n8 =>
(callF Try.prog 108 #[.slice u0.1 u0.2.1 u0.2.2, .int .i64 n3, .int .i64 n7, .pointer u4] r5.2).bind fun r9 =>
(asTup 2 r9.1).bind fun l10 =>
(asI .i64 (l10.getD 0 undef)).bind fun n11 =>
(asI .i64 (l10.getD 1 undef)).bind fun n12 =>
some (.int .i64 n12, r9.2)

theorem g105_eq (u0 : Option Addr × Nat × Nat) (u1 : Int) (u2 : Int) (u3 : Int) (u4 : Option Addr) (w0 : World) : evFn Try.prog 105 g105_ann #[.slice u0.1 u0.2.1 u0.2.2, .int .i64 u1, .int .i64 u2, .int .i64 u3, .pointer u4] w0 = g105 u0 u1 u2 u3 u4 w0 := by kernel_rfl

theorem g105_call {u0 : Option Addr × Nat × Nat} {u1 : Int} {u2 : Int} {u3 : Int} {u4 : Option Addr} {w0 : World} {r : Value × World} (h : g105 u0 u1 u2 u3 u4 w0 = some r) : callF Try.prog 105 #[.slice u0.1 u0.2.1 u0.2.2, .int .i64 u1, .int .i64 u2, .int .i64 u3, .pointer u4] w0 = some r :=
  callF_of_evFn (ann := g105_ann) Try.call105 (by kernel_rfl) ((g105_eq u0 u1 u2 u3 u4 w0).trans h)

/-! 106: cmp.isNaN[int] (x: int) -/
def g106_ann : List (List Nat × List Nat) := []

noncomputable def g106 (u0 : Int) (w0 : World) : Option (Value × World) :=
some (.bool ((u0 : Int) != u0), w0)

theorem g106_eq (u0 : Int) (w0 : World) : evFn Try.prog 106 g106_ann #[.int .i64 u0] w0 = g106 u0 w0 := by kernel_rfl

theorem g106_call {u0 : Int} {w0 : World} {r : Value × World} (h : g106 u0 w0 = some r) : callF Try.prog 106 #[.int .i64 u0] w0 = some r :=
  callF_of_evFn (ann := g106_ann) Try.call106 (by kernel_rfl) ((g106_eq u0 w0).trans h)

/-! 108: slices.order2Ordered[int] (data: []int, a: int, b: int, swaps: *int) -/
def g108_ann : List (List Nat × List Nat) := []

noncomputable def g108 (u0 : Option Addr × Nat × Nat) (u1 : Int) (u2 : Int) (u3 : Option Addr) (w0 : World) : Option (Value × World) :=
(idxA u0.1 u0.2.1 1 u2).bind fun a1 =>
(World.cell? (World.drew w0) a1).bind fun v2 =>
(asI .i64 v2).bind fun n3 =>
(idxA u0.1 u0.2.1 1 u1).bind fun a4 =>
(World.cell? (World.drew w0) a4).bind fun v5 =>
(asI .i64 v5).bind fun n6 =>
(callF Try.prog 90 #[.int .i64 n3, .int .i64 n6] (World.drew w0)).bind fun r7 =>
(asB r7.1).bind fun b8 =>
if b8 = true then
(u3.bind fun a9 =>
(World.cell? r7.2 a9).bind fun v10 =>
(asI .i64 v10).bind fun n11 =>
u3.bind fun a12 =>
(st1 r7.2 a12 (.int .i64 (IntKind.i64.wrap (n11 + 1)))).bind fun w13 =>
some (.tuple #[.int .i64 u2, .int .i64 u1], w13))
else
(some (.tuple #[.int .i64 u1, .int .i64 u2], r7.2))

theorem g108_eq (u0 : Option Addr × Nat × Nat) (u1 : Int) (u2 : Int) (u3 : Option Addr) (w0 : World) : evFn Try.prog 108 g108_ann #[.slice u0.1 u0.2.1 u0.2.2, .int .i64 u1, .int .i64 u2, .pointer u3] w0 = g108 u0 u1 u2 u3 w0 := by kernel_rfl

theorem g108_call {u0 : Option Addr × Nat × Nat} {u1 : Int} {u2 : Int} {u3 : Option Addr} {w0 : World} {r : Value × World} (h : g108 u0 u1 u2 u3 w0 = some r) : callF Try.prog 108 #[.slice u0.1 u0.2.1 u0.2.2, .int .i64 u1, .int .i64 u2, .pointer u3] w0 = some r :=
  callF_of_evFn (ann := g108_ann) Try.call108 (by kernel_rfl) ((g108_eq u0 u1 u2 u3 w0).trans h)

end Go.Proofs.Ytjcenfgmpbeldaa
