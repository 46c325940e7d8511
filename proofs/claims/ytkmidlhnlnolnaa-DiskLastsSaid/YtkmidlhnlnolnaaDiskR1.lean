/-
  DiskR1: lemmas on what Go functions of this seat come to (for whatever arguments, as each says). No condition but those that stand in each lemma.
-/
import Derived.Test.YtkmidlhnlnolnaaLb9
import Derived.Test.YtkmidlhnlnolnaaProg
namespace Go.Proofs.Ytkmidlhnlnolnaa
open Go Go.Ev
set_option maxRecDepth 100000
set_option linter.unusedVariables false
/-! 21: penstock/penstockref05.New () -/
def g21_ann : List (List Nat × List Nat) := []

noncomputable def g21  (w0 : World) : Option (Value × World) :=
some (.pointer (some (⟨w0.heap.size, 0, none⟩)), (World.alloc w0 (.cells #[.slice none 0 0, .int .i64 (-1), .bool false] 51)))

theorem g21_eq  (w0 : World) : evFn Try.prog 21 g21_ann #[] w0 = g21 w0 := by kernel_rfl

theorem g21_call  {w0 : World} {r : Value × World} (h : g21 w0 = some r) : callF Try.prog 21 #[] w0 = some r :=
  callF_of_evFn (ann := g21_ann) Try.call21 (by kernel_rfl) ((g21_eq  w0).trans h)

/-! 28: (*penstock/penstockref05.Disk).Append (d: *penstockref05.Disk, name: string, b: []uint8) -/
def g28_ann : List (List Nat × List Nat) := [([0, 1, 0, 1, 1, 1, 1], [0, 2, 7, 6, 8])]

def g28_l22_cs (u0 : Option Addr) (u2 : Option Addr × Nat × Nat) (x20 : Int) : List (Nat × Value) := ([(0, .pointer u0), (2, .slice u2.1 u2.2.1 u2.2.2), (7, .int .i64 x20)] : List (Nat × Value))

noncomputable def g28_j120a (x20 : Int) (u0 : Option Addr) (u2 : Option Addr × Nat × Nat) (s23 : Int × Int) (a26 : Addr) (n28 : Int) (a32 : Addr) (n34 : Int) (a35 : Addr) (n37 : Int) (a38 : Addr) (a41 : Addr) (a46 : Addr) (a52 : Addr) (n55 : Int) (w39 : World) (x129 : Option Addr × Nat × Nat) (x130 : Option Addr × Nat × Nat) (w131 : World) : Option (Exit × (Int × Int) × World) :=
(idxA x129.1 x129.2.1 3 x20).bind fun a132 =>
(st1 w131 (Addr.add a132 1) (.slice x130.1 x130.2.1 x130.2.2)).bind fun w137 =>
some (.normal, (s23.1, (IntKind.i64.wrap (s23.2 + 1))), w137)

noncomputable def g28_j102a (w39 : World) (n55 : Int) (u0 : Option Addr) (u2 : Option Addr × Nat × Nat) (s23 : Int × Int) (x20 : Int) (a26 : Addr) (n28 : Int) (a32 : Addr) (n34 : Int) (a35 : Addr) (n37 : Int) (a38 : Addr) (a41 : Addr) (a46 : Addr) (a52 : Addr) (x116 : Option Addr × Nat × Nat) (x117 : Option Addr × Nat × Nat) : Option (Exit × (Int × Int) × World) :=
(callB Try.prog .append #[28, 28] 28 #[false, false] #[.slice x117.1 x117.2.1 x117.2.2, .slice (some (⟨(World.drew w39).heap.size, 0, none⟩)) 1 1] (World.alloc (World.drew w39) (.cells #[.int .u8 n55] 5))).bind fun r118 =>
(asSl r118.1).bind fun q119 =>
g28_j120a x20 u0 u2 s23 a26 n28 a32 n34 a35 n37 a38 a41 a46 a52 n55 w39 (x116.1, x116.2.1, x116.2.2) (q119.1, q119.2.1, q119.2.2) r118.2

noncomputable def g28_j81 (w39 : World) (u0 : Option Addr) (u2 : Option Addr × Nat × Nat) (s23 : Int × Int) (x20 : Int) (a26 : Addr) (n28 : Int) (a32 : Addr) (n34 : Int) (a35 : Addr) (n37 : Int) (a38 : Addr) (a41 : Addr) (a46 : Addr) (a52 : Addr) (n55 : Int) (x90 : Option Addr × Nat × Nat) (a91 : Addr) : Option (Exit × (Int × Int) × World) :=
if (ahd (Region.schedule true (opsOf (cAt [1, 1, 1, 1, 0, 1, 0, 0, 1, 0, 0, 1, 1] (bodyOf Try.f28))) (World.tape w39 (World.drawn w39) (.order 28 20))) 12 17 && true) = true then
((World.cell? (World.drew w39) a91).bind fun v92 =>
(asSl v92).bind fun q93 =>
g28_j102a w39 n55 u0 u2 s23 x20 a26 n28 a32 n34 a35 n37 a38 a41 a46 a52 (x90.1, x90.2.1, x90.2.2) (q93.1, q93.2.1, q93.2.2))
else
((World.cell? (World.alloc (World.drew w39) (.cells #[.int .u8 n55] 5)) a91).bind fun v103 =>
(asSl v103).bind fun q104 =>
g28_j102a w39 n55 u0 u2 s23 x20 a26 n28 a32 n34 a35 n37 a38 a41 a46 a52 (x90.1, x90.2.1, x90.2.2) (q104.1, q104.2.1, q104.2.2))

noncomputable def g28_j89 (w39 : World) (n55 : Int) (u0 : Option Addr) (u2 : Option Addr × Nat × Nat) (s23 : Int × Int) (x20 : Int) (a26 : Addr) (n28 : Int) (a32 : Addr) (n34 : Int) (a35 : Addr) (n37 : Int) (a38 : Addr) (a41 : Addr) (a46 : Addr) (a52 : Addr) (a99 : Addr) : Option (Exit × (Int × Int) × World) :=
(World.cell? (World.alloc (World.drew w39) (.cells #[.int .u8 n55] 5)) a99).bind fun v100 =>
(asSl v100).bind fun q101 =>
if (ahd (Region.schedule true (opsOf (cAt [1, 1, 1, 1, 0, 1, 0, 0, 1, 0, 0, 1, 1] (bodyOf Try.f28))) (World.tape w39 (World.drawn w39) (.order 28 20))) 3 18 && true) = true then
((World.cell? (World.alloc (World.drew w39) (.cells #[.int .u8 n55] 5)) a41).bind fun v112 =>
(asSl v112).bind fun q113 =>
g28_j102a w39 n55 u0 u2 s23 x20 a26 n28 a32 n34 a35 n37 a38 a41 a46 a52 (q113.1, q113.2.1, q113.2.2) (q101.1, q101.2.1, q101.2.2))
else
((callB Try.prog .append #[28, 28] 28 #[false, false] #[.slice q101.1 q101.2.1 q101.2.2, .slice (some (⟨(World.drew w39).heap.size, 0, none⟩)) 1 1] (World.alloc (World.drew w39) (.cells #[.int .u8 n55] 5))).bind fun r114 =>
(asSl r114.1).bind fun q115 =>
(World.cell? r114.2 a41).bind fun v127 =>
(asSl v127).bind fun q128 =>
(idxA q128.1 q128.2.1 3 x20).bind fun a135 =>
(st1 r114.2 (Addr.add a135 1) (.slice q115.1 q115.2.1 q115.2.2)).bind fun w140 =>
some (.normal, (s23.1, (IntKind.i64.wrap (s23.2 + 1))), w140))

noncomputable def g28_j102b (w39 : World) (n55 : Int) (u0 : Option Addr) (u2 : Option Addr × Nat × Nat) (s23 : Int × Int) (x20 : Int) (a26 : Addr) (n28 : Int) (a32 : Addr) (n34 : Int) (a35 : Addr) (n37 : Int) (a38 : Addr) (a41 : Addr) (a46 : Addr) (a52 : Addr) (x121 : Option Addr × Nat × Nat) (x122 : Option Addr × Nat × Nat) : Option (Exit × (Int × Int) × World) :=
(callB Try.prog .append #[28, 28] 28 #[false, false] #[.slice x122.1 x122.2.1 x122.2.2, .slice (some (⟨(World.drew w39).heap.size, 0, none⟩)) 1 1] (World.alloc (World.drew w39) (.cells #[.int .u8 n55] 5))).bind fun r123 =>
(asSl r123.1).bind fun q124 =>
g28_j120a x20 u0 u2 s23 a26 n28 a32 n34 a35 n37 a38 a41 a46 a52 n55 w39 (x121.1, x121.2.1, x121.2.2) (q124.1, q124.2.1, q124.2.2) r123.2

noncomputable def g28_j221a (x20 : Int) (u0 : Option Addr) (u2 : Option Addr × Nat × Nat) (s23 : Int × Int) (a26 : Addr) (n28 : Int) (a32 : Addr) (n34 : Int) (a142 : Addr) (a147 : Addr) (a153 : Addr) (n156 : Int) (w24 : World) (x230 : Option Addr × Nat × Nat) (x231 : Option Addr × Nat × Nat) (w232 : World) : Option (Exit × (Int × Int) × World) :=
(idxA x230.1 x230.2.1 3 x20).bind fun a233 =>
(st1 w232 (Addr.add a233 1) (.slice x231.1 x231.2.1 x231.2.2)).bind fun w238 =>
some (.normal, (s23.1, (IntKind.i64.wrap (s23.2 + 1))), w238)

noncomputable def g28_j203a (w24 : World) (n156 : Int) (u0 : Option Addr) (u2 : Option Addr × Nat × Nat) (s23 : Int × Int) (x20 : Int) (a26 : Addr) (n28 : Int) (a32 : Addr) (n34 : Int) (a142 : Addr) (a147 : Addr) (a153 : Addr) (x217 : Option Addr × Nat × Nat) (x218 : Option Addr × Nat × Nat) : Option (Exit × (Int × Int) × World) :=
(callB Try.prog .append #[28, 28] 28 #[false, false] #[.slice x218.1 x218.2.1 x218.2.2, .slice (some (⟨(World.drew w24).heap.size, 0, none⟩)) 1 1] (World.alloc (World.drew w24) (.cells #[.int .u8 n156] 5))).bind fun r219 =>
(asSl r219.1).bind fun q220 =>
g28_j221a x20 u0 u2 s23 a26 n28 a32 n34 a142 a147 a153 n156 w24 (x217.1, x217.2.1, x217.2.2) (q220.1, q220.2.1, q220.2.2) r219.2

noncomputable def g28_j182 (w24 : World) (u0 : Option Addr) (u2 : Option Addr × Nat × Nat) (s23 : Int × Int) (x20 : Int) (a26 : Addr) (n28 : Int) (a32 : Addr) (n34 : Int) (a142 : Addr) (a147 : Addr) (a153 : Addr) (n156 : Int) (x191 : Option Addr × Nat × Nat) (a192 : Addr) : Option (Exit × (Int × Int) × World) :=
if (ahd (Region.schedule true (opsOf (cAt [1, 1, 1, 1, 0, 1, 0, 0, 1, 0, 0, 1, 1] (bodyOf Try.f28))) (World.tape w24 (World.drawn w24) (.order 28 20))) 12 17 && true) = true then
((World.cell? (World.drew w24) a192).bind fun v193 =>
(asSl v193).bind fun q194 =>
g28_j203a w24 n156 u0 u2 s23 x20 a26 n28 a32 n34 a142 a147 a153 (x191.1, x191.2.1, x191.2.2) (q194.1, q194.2.1, q194.2.2))
else
((World.cell? (World.alloc (World.drew w24) (.cells #[.int .u8 n156] 5)) a192).bind fun v204 =>
(asSl v204).bind fun q205 =>
g28_j203a w24 n156 u0 u2 s23 x20 a26 n28 a32 n34 a142 a147 a153 (x191.1, x191.2.1, x191.2.2) (q205.1, q205.2.1, q205.2.2))

noncomputable def g28_j190 (w24 : World) (n156 : Int) (u0 : Option Addr) (u2 : Option Addr × Nat × Nat) (s23 : Int × Int) (x20 : Int) (a26 : Addr) (n28 : Int) (a32 : Addr) (n34 : Int) (a142 : Addr) (a147 : Addr) (a153 : Addr) (a200 : Addr) : Option (Exit × (Int × Int) × World) :=
(World.cell? (World.alloc (World.drew w24) (.cells #[.int .u8 n156] 5)) a200).bind fun v201 =>
(asSl v201).bind fun q202 =>
if (ahd (Region.schedule true (opsOf (cAt [1, 1, 1, 1, 0, 1, 0, 0, 1, 0, 0, 1, 1] (bodyOf Try.f28))) (World.tape w24 (World.drawn w24) (.order 28 20))) 3 18 && true) = true then
((World.cell? (World.alloc (World.drew w24) (.cells #[.int .u8 n156] 5)) a142).bind fun v213 =>
(asSl v213).bind fun q214 =>
g28_j203a w24 n156 u0 u2 s23 x20 a26 n28 a32 n34 a142 a147 a153 (q214.1, q214.2.1, q214.2.2) (q202.1, q202.2.1, q202.2.2))
else
((callB Try.prog .append #[28, 28] 28 #[false, false] #[.slice q202.1 q202.2.1 q202.2.2, .slice (some (⟨(World.drew w24).heap.size, 0, none⟩)) 1 1] (World.alloc (World.drew w24) (.cells #[.int .u8 n156] 5))).bind fun r215 =>
(asSl r215.1).bind fun q216 =>
(World.cell? r215.2 a142).bind fun v228 =>
(asSl v228).bind fun q229 =>
(idxA q229.1 q229.2.1 3 x20).bind fun a236 =>
(st1 r215.2 (Addr.add a236 1) (.slice q216.1 q216.2.1 q216.2.2)).bind fun w241 =>
some (.normal, (s23.1, (IntKind.i64.wrap (s23.2 + 1))), w241))

noncomputable def g28_j203b (w24 : World) (n156 : Int) (u0 : Option Addr) (u2 : Option Addr × Nat × Nat) (s23 : Int × Int) (x20 : Int) (a26 : Addr) (n28 : Int) (a32 : Addr) (n34 : Int) (a142 : Addr) (a147 : Addr) (a153 : Addr) (x222 : Option Addr × Nat × Nat) (x223 : Option Addr × Nat × Nat) : Option (Exit × (Int × Int) × World) :=
(callB Try.prog .append #[28, 28] 28 #[false, false] #[.slice x223.1 x223.2.1 x223.2.2, .slice (some (⟨(World.drew w24).heap.size, 0, none⟩)) 1 1] (World.alloc (World.drew w24) (.cells #[.int .u8 n156] 5))).bind fun r224 =>
(asSl r224.1).bind fun q225 =>
g28_j221a x20 u0 u2 s23 a26 n28 a32 n34 a142 a147 a153 n156 w24 (x222.1, x222.2.1, x222.2.2) (q225.1, q225.2.1, q225.2.2) r224.2

/-- the round of a loop ((*penstock/penstockref05.Disk).Append) -/
noncomputable def g28_l22_b (u2 : Option Addr × Nat × Nat) (u0 : Option Addr) (x20 : Int) (s23 : Int × Int) (w24 : World) : Option (Exit × (Int × Int) × World) :=
if (decide ((s23.2 : Int) < (u2.2.1 : Int))) = true then
(u0.bind fun a26 =>
(World.cell? w24 (Addr.add a26 1)).bind fun v27 =>
(asI .i64 v27).bind fun n28 =>
if ((n28 : Int) == 0) = true then
(u0.bind fun a29 =>
(st1 w24 (Addr.add a29 2) (.bool true)).bind fun w30 =>
some (.ret, (9, s23.2), w30))
else
(u0.bind fun a32 =>
(World.cell? w24 (Addr.add a32 1)).bind fun v33 =>
(asI .i64 v33).bind fun n34 =>
if (decide ((n34 : Int) > 0)) = true then
(u0.bind fun a35 =>
(World.cell? w24 (Addr.add a35 1)).bind fun v36 =>
(asI .i64 v36).bind fun n37 =>
u0.bind fun a38 =>
(st1 w24 (Addr.add a38 1) (.int .i64 (IntKind.i64.wrap (n37 - 1)))).bind fun w39 =>
u0.bind fun a41 =>
u0.bind fun a46 =>
(idxA u2.1 u2.2.1 1 s23.2).bind fun a52 =>
(World.cell? (World.drew w39) a52).bind fun v54 =>
(asI .u8 v54).bind fun n55 =>
if (ahd (Region.schedule true (opsOf (cAt [1, 1, 1, 1, 0, 1, 0, 0, 1, 0, 0, 1, 1] (bodyOf Try.f28))) (World.tape w39 (World.drawn w39) (.order 28 20))) 3 8 && (ahd (Region.schedule true (opsOf (cAt [1, 1, 1, 1, 0, 1, 0, 0, 1, 0, 0, 1, 1] (bodyOf Try.f28))) (World.tape w39 (World.drawn w39) (.order 28 20))) 3 17 && true)) = true then
((World.cell? (World.drew w39) a41).bind fun v57 =>
(asSl v57).bind fun q58 =>
if (ahd (Region.schedule true (opsOf (cAt [1, 1, 1, 1, 0, 1, 0, 0, 1, 0, 0, 1, 1] (bodyOf Try.f28))) (World.tape w39 (World.drawn w39) (.order 28 20))) 8 17 && true) = true then
((World.cell? (World.drew w39) a46).bind fun v64 =>
(asSl v64).bind fun q65 =>
(idxA q65.1 q65.2.1 3 x20).bind fun a73 =>
g28_j81 w39 u0 u2 s23 x20 a26 n28 a32 n34 a35 n37 a38 a41 a46 a52 n55 (q58.1, q58.2.1, q58.2.2) (Addr.add a73 1))
else
((World.cell? (World.alloc (World.drew w39) (.cells #[.int .u8 n55] 5)) a46).bind fun v75 =>
(asSl v75).bind fun q76 =>
(idxA q76.1 q76.2.1 3 x20).bind fun a82 =>
(World.cell? (World.alloc (World.drew w39) (.cells #[.int .u8 n55] 5)) (Addr.add a82 1)).bind fun v105 =>
(asSl v105).bind fun q106 =>
g28_j102b w39 n55 u0 u2 s23 x20 a26 n28 a32 n34 a35 n37 a38 a41 a46 a52 (q58.1, q58.2.1, q58.2.2) (q106.1, q106.2.1, q106.2.2)))
else
(if (ahd (Region.schedule true (opsOf (cAt [1, 1, 1, 1, 0, 1, 0, 0, 1, 0, 0, 1, 1] (bodyOf Try.f28))) (World.tape w39 (World.drawn w39) (.order 28 20))) 8 17 && true) = true then
((World.cell? (World.drew w39) a46).bind fun v60 =>
(asSl v60).bind fun q61 =>
(idxA q61.1 q61.2.1 3 x20).bind fun a68 =>
if (ahd (Region.schedule true (opsOf (cAt [1, 1, 1, 1, 0, 1, 0, 0, 1, 0, 0, 1, 1] (bodyOf Try.f28))) (World.tape w39 (World.drawn w39) (.order 28 20))) 3 12 && (ahd (Region.schedule true (opsOf (cAt [1, 1, 1, 1, 0, 1, 0, 0, 1, 0, 0, 1, 1] (bodyOf Try.f28))) (World.tape w39 (World.drawn w39) (.order 28 20))) 3 17 && true)) = true then
((World.cell? (World.drew w39) a41).bind fun v84 =>
(asSl v84).bind fun q85 =>
g28_j81 w39 u0 u2 s23 x20 a26 n28 a32 n34 a35 n37 a38 a41 a46 a52 n55 (q85.1, q85.2.1, q85.2.2) (Addr.add a68 1))
else
(if (ahd (Region.schedule true (opsOf (cAt [1, 1, 1, 1, 0, 1, 0, 0, 1, 0, 0, 1, 1] (bodyOf Try.f28))) (World.tape w39 (World.drawn w39) (.order 28 20))) 12 17 && true) = true then
((World.cell? (World.drew w39) (Addr.add a68 1)).bind fun v86 =>
(asSl v86).bind fun q87 =>
if (ahd (Region.schedule true (opsOf (cAt [1, 1, 1, 1, 0, 1, 0, 0, 1, 0, 0, 1, 1] (bodyOf Try.f28))) (World.tape w39 (World.drawn w39) (.order 28 20))) 3 17 && true) = true then
((World.cell? (World.drew w39) a41).bind fun v96 =>
(asSl v96).bind fun q97 =>
g28_j102b w39 n55 u0 u2 s23 x20 a26 n28 a32 n34 a35 n37 a38 a41 a46 a52 (q97.1, q97.2.1, q97.2.2) (q87.1, q87.2.1, q87.2.2))
else
(if (ahd (Region.schedule true (opsOf (cAt [1, 1, 1, 1, 0, 1, 0, 0, 1, 0, 0, 1, 1] (bodyOf Try.f28))) (World.tape w39 (World.drawn w39) (.order 28 20))) 3 18 && true) = true then
((World.cell? (World.alloc (World.drew w39) (.cells #[.int .u8 n55] 5)) a41).bind fun v107 =>
(asSl v107).bind fun q108 =>
g28_j102b w39 n55 u0 u2 s23 x20 a26 n28 a32 n34 a35 n37 a38 a41 a46 a52 (q108.1, q108.2.1, q108.2.2) (q87.1, q87.2.1, q87.2.2))
else
((callB Try.prog .append #[28, 28] 28 #[false, false] #[.slice q87.1 q87.2.1 q87.2.2, .slice (some (⟨(World.drew w39).heap.size, 0, none⟩)) 1 1] (World.alloc (World.drew w39) (.cells #[.int .u8 n55] 5))).bind fun r109 =>
(asSl r109.1).bind fun q110 =>
(World.cell? r109.2 a41).bind fun v125 =>
(asSl v125).bind fun q126 =>
(idxA q126.1 q126.2.1 3 x20).bind fun a134 =>
(st1 r109.2 (Addr.add a134 1) (.slice q110.1 q110.2.1 q110.2.2)).bind fun w139 =>
some (.normal, (s23.1, (IntKind.i64.wrap (s23.2 + 1))), w139))))
else
(g28_j89 w39 n55 u0 u2 s23 x20 a26 n28 a32 n34 a35 n37 a38 a41 a46 a52 (Addr.add a68 1))))
else
((World.cell? (World.alloc (World.drew w39) (.cells #[.int .u8 n55] 5)) a46).bind fun v70 =>
(asSl v70).bind fun q71 =>
(idxA q71.1 q71.2.1 3 x20).bind fun a79 =>
g28_j89 w39 n55 u0 u2 s23 x20 a26 n28 a32 n34 a35 n37 a38 a41 a46 a52 (Addr.add a79 1))))
else
(u0.bind fun a142 =>
u0.bind fun a147 =>
(idxA u2.1 u2.2.1 1 s23.2).bind fun a153 =>
(World.cell? (World.drew w24) a153).bind fun v155 =>
(asI .u8 v155).bind fun n156 =>
if (ahd (Region.schedule true (opsOf (cAt [1, 1, 1, 1, 0, 1, 0, 0, 1, 0, 0, 1, 1] (bodyOf Try.f28))) (World.tape w24 (World.drawn w24) (.order 28 20))) 3 8 && (ahd (Region.schedule true (opsOf (cAt [1, 1, 1, 1, 0, 1, 0, 0, 1, 0, 0, 1, 1] (bodyOf Try.f28))) (World.tape w24 (World.drawn w24) (.order 28 20))) 3 17 && true)) = true then
((World.cell? (World.drew w24) a142).bind fun v158 =>
(asSl v158).bind fun q159 =>
if (ahd (Region.schedule true (opsOf (cAt [1, 1, 1, 1, 0, 1, 0, 0, 1, 0, 0, 1, 1] (bodyOf Try.f28))) (World.tape w24 (World.drawn w24) (.order 28 20))) 8 17 && true) = true then
((World.cell? (World.drew w24) a147).bind fun v165 =>
(asSl v165).bind fun q166 =>
(idxA q166.1 q166.2.1 3 x20).bind fun a174 =>
g28_j182 w24 u0 u2 s23 x20 a26 n28 a32 n34 a142 a147 a153 n156 (q159.1, q159.2.1, q159.2.2) (Addr.add a174 1))
else
((World.cell? (World.alloc (World.drew w24) (.cells #[.int .u8 n156] 5)) a147).bind fun v176 =>
(asSl v176).bind fun q177 =>
(idxA q177.1 q177.2.1 3 x20).bind fun a183 =>
(World.cell? (World.alloc (World.drew w24) (.cells #[.int .u8 n156] 5)) (Addr.add a183 1)).bind fun v206 =>
(asSl v206).bind fun q207 =>
g28_j203b w24 n156 u0 u2 s23 x20 a26 n28 a32 n34 a142 a147 a153 (q159.1, q159.2.1, q159.2.2) (q207.1, q207.2.1, q207.2.2)))
else
(if (ahd (Region.schedule true (opsOf (cAt [1, 1, 1, 1, 0, 1, 0, 0, 1, 0, 0, 1, 1] (bodyOf Try.f28))) (World.tape w24 (World.drawn w24) (.order 28 20))) 8 17 && true) = true then
((World.cell? (World.drew w24) a147).bind fun v161 =>
(asSl v161).bind fun q162 =>
(idxA q162.1 q162.2.1 3 x20).bind fun a169 =>
if (ahd (Region.schedule true (opsOf (cAt [1, 1, 1, 1, 0, 1, 0, 0, 1, 0, 0, 1, 1] (bodyOf Try.f28))) (World.tape w24 (World.drawn w24) (.order 28 20))) 3 12 && (ahd (Region.schedule true (opsOf (cAt [1, 1, 1, 1, 0, 1, 0, 0, 1, 0, 0, 1, 1] (bodyOf Try.f28))) (World.tape w24 (World.drawn w24) (.order 28 20))) 3 17 && true)) = true then
((World.cell? (World.drew w24) a142).bind fun v185 =>
(asSl v185).bind fun q186 =>
g28_j182 w24 u0 u2 s23 x20 a26 n28 a32 n34 a142 a147 a153 n156 (q186.1, q186.2.1, q186.2.2) (Addr.add a169 1))
else
(if (ahd (Region.schedule true (opsOf (cAt [1, 1, 1, 1, 0, 1, 0, 0, 1, 0, 0, 1, 1] (bodyOf Try.f28))) (World.tape w24 (World.drawn w24) (.order 28 20))) 12 17 && true) = true then
((World.cell? (World.drew w24) (Addr.add a169 1)).bind fun v187 =>
(asSl v187).bind fun q188 =>
if (ahd (Region.schedule true (opsOf (cAt [1, 1, 1, 1, 0, 1, 0, 0, 1, 0, 0, 1, 1] (bodyOf Try.f28))) (World.tape w24 (World.drawn w24) (.order 28 20))) 3 17 && true) = true then
((World.cell? (World.drew w24) a142).bind fun v197 =>
(asSl v197).bind fun q198 =>
g28_j203b w24 n156 u0 u2 s23 x20 a26 n28 a32 n34 a142 a147 a153 (q198.1, q198.2.1, q198.2.2) (q188.1, q188.2.1, q188.2.2))
else
(if (ahd (Region.schedule true (opsOf (cAt [1, 1, 1, 1, 0, 1, 0, 0, 1, 0, 0, 1, 1] (bodyOf Try.f28))) (World.tape w24 (World.drawn w24) (.order 28 20))) 3 18 && true) = true then
((World.cell? (World.alloc (World.drew w24) (.cells #[.int .u8 n156] 5)) a142).bind fun v208 =>
(asSl v208).bind fun q209 =>
g28_j203b w24 n156 u0 u2 s23 x20 a26 n28 a32 n34 a142 a147 a153 (q209.1, q209.2.1, q209.2.2) (q188.1, q188.2.1, q188.2.2))
else
((callB Try.prog .append #[28, 28] 28 #[false, false] #[.slice q188.1 q188.2.1 q188.2.2, .slice (some (⟨(World.drew w24).heap.size, 0, none⟩)) 1 1] (World.alloc (World.drew w24) (.cells #[.int .u8 n156] 5))).bind fun r210 =>
(asSl r210.1).bind fun q211 =>
(World.cell? r210.2 a142).bind fun v226 =>
(asSl v226).bind fun q227 =>
(idxA q227.1 q227.2.1 3 x20).bind fun a235 =>
(st1 r210.2 (Addr.add a235 1) (.slice q211.1 q211.2.1 q211.2.2)).bind fun w240 =>
some (.normal, (s23.1, (IntKind.i64.wrap (s23.2 + 1))), w240))))
else
(g28_j190 w24 n156 u0 u2 s23 x20 a26 n28 a32 n34 a142 a147 a153 (Addr.add a169 1))))
else
((World.cell? (World.alloc (World.drew w24) (.cells #[.int .u8 n156] 5)) a147).bind fun v171 =>
(asSl v171).bind fun q172 =>
(idxA q172.1 q172.2.1 3 x20).bind fun a180 =>
g28_j190 w24 n156 u0 u2 s23 x20 a26 n28 a32 n34 a142 a147 a153 (Addr.add a180 1))))))
else
(some ((.exit 1), (s23.1, s23.2), w24))

noncomputable def g28_K242  : Exit → Env → World → Option (Value × World) :=
  retK Try.prog Try.f28.results.toList

noncomputable def g28_K243  : Exit → Env → World → Option (Value × World) :=
  seqK (ev Try.prog 99 28 g28_ann (cAt [1, 1, 1, 1, 1] (bodyOf Try.f28)) [1, 1, 1, 1, 1] g28_K242) g28_K242

noncomputable def g28_K244  : Exit → Env → World → Option (Value × World) :=
  blkK 1 g28_K243

/-- the loop, from a state on -/
noncomputable def g28_l22 (u0 : Option Addr) (u2 : Option Addr × Nat × Nat) (x20 : Int) (s : Int × Int) (w : World) : Option (Value × World) :=
  loopM Try.prog 99 28 g28_ann (cAt [1, 1, 1, 1, 0, 1, 0, 0] (bodyOf Try.f28)) [0, 1, 0, 1, 1, 1, 1] g28_K244 ((g28_l22_cs u0 u2 x20) ++ sputs [(6, .i .i64), (8, .i .i64)] s) w

/-- behind the loop, left by x1 -/
noncomputable def g28_l22_x1  (t245 : Int × Int) (w246 : World) : Option (Value × World) :=
some (.int .i64 0, w246)

/-- behind the loop, left by ret -/
noncomputable def g28_l22_ret  (t247 : Int × Int) (w248 : World) : Option (Value × World) :=
some (.int .i64 t247.1, w248)

noncomputable def g28_j16 (u0 : Option Addr) (u2 : Option Addr × Nat × Nat) (x20 : Int) (w21 : World) : Option (Value × World) :=
g28_l22 u0 u2 x20 (0, 0) w21

noncomputable def g28_j3 (n2 : Int) (u0 : Option Addr) (u1 : ByteArray) (r9 : Value × World) (u2 : Option Addr × Nat × Nat) : Option (Value × World) :=
if (decide ((n2 : Int) < 0)) = true then
((callF Try.prog 39 #[.pointer u0, .agg #[.string u1, .slice none 0 0, .int .i64 0]] r9.2).bind fun r17 =>
(asTup 0 r17.1).bind fun _ =>
(callF Try.prog 37 #[.pointer u0, .string u1] r17.2).bind fun r18 =>
(asI .i64 r18.1).bind fun n19 =>
g28_j16 u0 u2 n19 r18.2)
else
(g28_j16 u0 u2 n2 r9.2)

noncomputable def g28 (u0 : Option Addr) (u1 : ByteArray) (u2 : Option Addr × Nat × Nat) (w0 : World) : Option (Value × World) :=
(callF Try.prog 37 #[.pointer u0, .string u1] w0).bind fun r1 =>
(asI .i64 r1.1).bind fun n2 =>
u0.bind fun a4 =>
(World.cell? r1.2 (Addr.add a4 2)).bind fun v5 =>
(asB v5).bind fun b6 =>
if b6 = true then
(some (.int .i64 9, r1.2))
else
(if (decide (((u1.size : Int) : Int) < 1)) = true then
(some (.int .i64 1, r1.2))
else
(if (decide (((u1.size : Int) : Int) > 24)) = true then
(some (.int .i64 1, r1.2))
else
((callF Try.prog 38 #[.pointer u0] r1.2).bind fun r9 =>
(asI .i64 r9.1).bind fun n10 =>
if (decide (((IntKind.i64.wrap (n10 + (u2.2.1 : Int))) : Int) > 4194304)) = true then
(if (decide (((IntKind.i64.wrap (n10 + (u2.2.1 : Int))) : Int) > 4194304)) = true then
(some (.int .i64 3, r9.2))
else
(g28_j3 n2 u0 u1 r9 u2))
else
(if (decide ((n2 : Int) < 0)) = true then
(u0.bind fun a12 =>
(World.cell? r9.2 a12).bind fun v13 =>
(asSl v13).bind fun q14 =>
if (decide (((q14.2.1 : Int) : Int) ≥ 4096)) = true then
(some (.int .i64 3, r9.2))
else
(g28_j3 n2 u0 u1 r9 u2))
else
(g28_j3 n2 u0 u1 r9 u2)))))

theorem g28_eq (u0 : Option Addr) (u1 : ByteArray) (u2 : Option Addr × Nat × Nat) (w0 : World) : evFn Try.prog 28 g28_ann #[.pointer u0, .string u1, .slice u2.1 u2.2.1 u2.2.2] w0 = g28 u0 u1 u2 w0 := by kernel_rfl

theorem g28_call {u0 : Option Addr} {u1 : ByteArray} {u2 : Option Addr × Nat × Nat} {w0 : World} {r : Value × World} (h : g28 u0 u1 u2 w0 = some r) : callF Try.prog 28 #[.pointer u0, .string u1, .slice u2.1 u2.2.1 u2.2.2] w0 = some r :=
  callF_of_evFn (ann := g28_ann) Try.call28 (by kernel_rfl) ((g28_eq u0 u1 u2 w0).trans h)

theorem g28_l22_x1_of {u0 : Option Addr} {u2 : Option Addr × Nat × Nat} {x20 : Int} {s t : Int × Int} {w w' : World} (h : loopS (g28_l22_b u2 u0 x20) s w = some (.exit 1, t, w')) : g28_l22 u0 u2 x20 s w = g28_l22_x1 t w' := by
  have h1 : g28_l22 u0 u2 x20 s w = loopM Try.prog 99 28 g28_ann (cAt [1, 1, 1, 1, 0, 1, 0, 0] (bodyOf Try.f28)) [0, 1, 0, 1, 1, 1, 1] g28_K244 ((g28_l22_cs u0 u2 x20) ++ sputs [(6, .i .i64), (8, .i .i64)] s) w := by kernel_rfl
  have h2 : loopM Try.prog 99 28 g28_ann (cAt [1, 1, 1, 1, 0, 1, 0, 0] (bodyOf Try.f28)) [0, 1, 0, 1, 1, 1, 1] g28_K244 ((g28_l22_cs u0 u2 x20) ++ sputs [(6, .i .i64), (8, .i .i64)] s) w = g28_K244 (.exit 1) (puts 99 ((g28_l22_cs u0 u2 x20) ++ sputs [(6, .i .i64), (8, .i .i64)] t)) w' :=
    loop_rule (P := Try.prog) (N := 99) (f := 28) (ann := g28_ann) (body := (cAt [1, 1, 1, 1, 0, 1, 0, 0] (bodyOf Try.f28))) (pt := [0, 1, 0, 1, 1, 1, 1]) (K := g28_K244) (g28_l22_cs u0 u2 x20) [(6, .i .i64), (8, .i .i64)] (b := g28_l22_b u2 u0 x20) (fun s w => by kernel_rfl) (by kernel_rfl) (by kernel_rfl) (by kernel_rfl) h
  have h3 : g28_K244 (.exit 1) (puts 99 ((g28_l22_cs u0 u2 x20) ++ sputs [(6, .i .i64), (8, .i .i64)] t)) w' = g28_l22_x1 t w' := by kernel_rfl
  exact h1.trans (h2.trans h3)

theorem g28_l22_ret_of {u0 : Option Addr} {u2 : Option Addr × Nat × Nat} {x20 : Int} {s t : Int × Int} {w w' : World} (h : loopS (g28_l22_b u2 u0 x20) s w = some (.ret, t, w')) : g28_l22 u0 u2 x20 s w = g28_l22_ret t w' := by
  have h1 : g28_l22 u0 u2 x20 s w = loopM Try.prog 99 28 g28_ann (cAt [1, 1, 1, 1, 0, 1, 0, 0] (bodyOf Try.f28)) [0, 1, 0, 1, 1, 1, 1] g28_K244 ((g28_l22_cs u0 u2 x20) ++ sputs [(6, .i .i64), (8, .i .i64)] s) w := by kernel_rfl
  have h2 : loopM Try.prog 99 28 g28_ann (cAt [1, 1, 1, 1, 0, 1, 0, 0] (bodyOf Try.f28)) [0, 1, 0, 1, 1, 1, 1] g28_K244 ((g28_l22_cs u0 u2 x20) ++ sputs [(6, .i .i64), (8, .i .i64)] s) w = g28_K244 (.ret) (puts 99 ((g28_l22_cs u0 u2 x20) ++ sputs [(6, .i .i64), (8, .i .i64)] t)) w' :=
    loop_rule (P := Try.prog) (N := 99) (f := 28) (ann := g28_ann) (body := (cAt [1, 1, 1, 1, 0, 1, 0, 0] (bodyOf Try.f28))) (pt := [0, 1, 0, 1, 1, 1, 1]) (K := g28_K244) (g28_l22_cs u0 u2 x20) [(6, .i .i64), (8, .i .i64)] (b := g28_l22_b u2 u0 x20) (fun s w => by kernel_rfl) (by kernel_rfl) (by kernel_rfl) (by kernel_rfl) h
  have h3 : g28_K244 (.ret) (puts 99 ((g28_l22_cs u0 u2 x20) ++ sputs [(6, .i .i64), (8, .i .i64)] t)) w' = g28_l22_ret t w' := by kernel_rfl
  exact h1.trans (h2.trans h3)

/-! 29: (*penstock/penstockref05.Disk).Sync (d: *penstockref05.Disk, name: string) -/
def g29_ann : List (List Nat × List Nat) := []

noncomputable def g29 (u0 : Option Addr) (u1 : ByteArray) (w0 : World) : Option (Value × World) :=
(callF Try.prog 40 #[.pointer u0, .string u1] w0).bind fun r1 =>
(asTup 2 r1.1).bind fun l2 =>
(asI .i64 (l2.getD 0 undef)).bind fun n3 =>
(asI .i64 (l2.getD 1 undef)).bind fun n4 =>
if ((n4 : Int) == 0) = true then
(u0.bind fun a5 =>
(World.cell? (World.drew r1.2) a5).bind fun v6 =>
(asSl v6).bind fun q7 =>
u0.bind fun a8 =>
(World.cell? (World.drew r1.2) a8).bind fun v9 =>
(asSl v9).bind fun q10 =>
(idxA q10.1 q10.2.1 3 n3).bind fun a11 =>
(World.cell? (World.drew r1.2) (Addr.add a11 1)).bind fun v12 =>
(asSl v12).bind fun q13 =>
(idxA q7.1 q7.2.1 3 n3).bind fun a15 =>
(st1 (World.drew r1.2) (Addr.add a15 2) (.int .i64 (q13.2.1 : Int))).bind fun w16 =>
some (.int .i64 n4, w16))
else
(some (.int .i64 n4, r1.2))

theorem g29_eq (u0 : Option Addr) (u1 : ByteArray) (w0 : World) : evFn Try.prog 29 g29_ann #[.pointer u0, .string u1] w0 = g29 u0 u1 w0 := by kernel_rfl

theorem g29_call {u0 : Option Addr} {u1 : ByteArray} {w0 : World} {r : Value × World} (h : g29 u0 u1 w0 = some r) : callF Try.prog 29 #[.pointer u0, .string u1] w0 = some r :=
  callF_of_evFn (ann := g29_ann) Try.call29 (by kernel_rfl) ((g29_eq u0 u1 w0).trans h)

/-! 30: (*penstock/penstockref05.Disk).Cut (d: *penstockref05.Disk, name: string, n: int) -/
def g30_ann : List (List Nat × List Nat) := []

noncomputable def g30 (u0 : Option Addr) (u1 : ByteArray) (u2 : Int) (w0 : World) : Option (Value × World) :=
(callF Try.prog 40 #[.pointer u0, .string u1] w0).bind fun r1 =>
(asTup 2 r1.1).bind fun l2 =>
(asI .i64 (l2.getD 0 undef)).bind fun n3 =>
(asI .i64 (l2.getD 1 undef)).bind fun n4 =>
if ((n4 : Int) != 0) = true then
(some (.int .i64 n4, r1.2))
else
(if (decide ((u2 : Int) < 0)) = true then
(some (.int .i64 1, r1.2))
else
(u0.bind fun a5 =>
(World.cell? r1.2 a5).bind fun v6 =>
(asSl v6).bind fun q7 =>
(idxA q7.1 q7.2.1 3 n3).bind fun a8 =>
(World.cell? r1.2 (Addr.add a8 1)).bind fun v9 =>
(asSl v9).bind fun q10 =>
if (decide ((u2 : Int) > (q10.2.1 : Int))) = true then
(some (.int .i64 1, r1.2))
else
(u0.bind fun a12 =>
(World.cell? r1.2 a12).bind fun v13 =>
(asSl v13).bind fun q14 =>
(idxA q14.1 q14.2.1 3 n3).bind fun a15 =>
(World.cell? r1.2 (Addr.add a15 1)).bind fun v16 =>
(asSl v16).bind fun q17 =>
(slc q17.1 q17.2.1 q17.2.2 1 none (some u2) none).bind fun q18 =>
(callB Try.prog .append #[28, 28] 28 #[false, false] #[.slice none 0 0, .slice q18.1 q18.2.1 q18.2.2] r1.2).bind fun r19 =>
(asSl r19.1).bind fun q20 =>
u0.bind fun a21 =>
(World.cell? r19.2 a21).bind fun v22 =>
(asSl v22).bind fun q23 =>
(idxA q23.1 q23.2.1 3 n3).bind fun a24 =>
(st1 r19.2 (Addr.add a24 1) (.slice q20.1 q20.2.1 q20.2.2)).bind fun w25 =>
u0.bind fun a26 =>
(World.cell? w25 a26).bind fun v27 =>
(asSl v27).bind fun q28 =>
(idxA q28.1 q28.2.1 3 n3).bind fun a29 =>
(World.cell? w25 (Addr.add a29 2)).bind fun v30 =>
(asI .i64 v30).bind fun n31 =>
if (decide ((n31 : Int) > u2)) = true then
(u0.bind fun a32 =>
(World.cell? w25 a32).bind fun v33 =>
(asSl v33).bind fun q34 =>
(idxA q34.1 q34.2.1 3 n3).bind fun a35 =>
(st1 w25 (Addr.add a35 2) (.int .i64 u2)).bind fun w36 =>
some (.int .i64 0, w36))
else
(some (.int .i64 0, w25)))))

theorem g30_eq (u0 : Option Addr) (u1 : ByteArray) (u2 : Int) (w0 : World) : evFn Try.prog 30 g30_ann #[.pointer u0, .string u1, .int .i64 u2] w0 = g30 u0 u1 u2 w0 := by kernel_rfl

theorem g30_call {u0 : Option Addr} {u1 : ByteArray} {u2 : Int} {w0 : World} {r : Value × World} (h : g30 u0 u1 u2 w0 = some r) : callF Try.prog 30 #[.pointer u0, .string u1, .int .i64 u2] w0 = some r :=
  callF_of_evFn (ann := g30_ann) Try.call30 (by kernel_rfl) ((g30_eq u0 u1 u2 w0).trans h)

/-! 31: (*penstock/penstockref05.Disk).Remove (d: *penstockref05.Disk, name: string) -/
def g31_ann : List (List Nat × List Nat) := []

noncomputable def g31 (u0 : Option Addr) (u1 : ByteArray) (w0 : World) : Option (Value × World) :=
(callF Try.prog 40 #[.pointer u0, .string u1] w0).bind fun r1 =>
(asTup 2 r1.1).bind fun l2 =>
(asI .i64 (l2.getD 0 undef)).bind fun n3 =>
(asI .i64 (l2.getD 1 undef)).bind fun n4 =>
if ((n4 : Int) == 0) = true then
((callF Try.prog 41 #[.pointer u0, .int .i64 n3] r1.2).bind fun r5 =>
(Ev.asAgg 3 r5.1).bind fun l6 =>
(asS (l6.getD 0 undef)).bind fun s7 =>
(asSl (l6.getD 1 undef)).bind fun q8 =>
(asI .i64 (l6.getD 2 undef)).bind fun n9 =>
some (.int .i64 n4, r5.2))
else
(some (.int .i64 n4, r1.2))

theorem g31_eq (u0 : Option Addr) (u1 : ByteArray) (w0 : World) : evFn Try.prog 31 g31_ann #[.pointer u0, .string u1] w0 = g31 u0 u1 w0 := by kernel_rfl

theorem g31_call {u0 : Option Addr} {u1 : ByteArray} {w0 : World} {r : Value × World} (h : g31 u0 u1 w0 = some r) : callF Try.prog 31 #[.pointer u0, .string u1] w0 = some r :=
  callF_of_evFn (ann := g31_ann) Try.call31 (by kernel_rfl) ((g31_eq u0 u1 w0).trans h)

/-! 32: (*penstock/penstockref05.Disk).Rename (d: *penstockref05.Disk, from: string, to: string) -/
def g32_ann : List (List Nat × List Nat) := []

noncomputable def g32_j13 (r7 : Value × World) (u0 : Option Addr) (u2 : ByteArray) (w21 : World) : Option (Value × World) :=
(World.cell? w21 (Addr.add (⟨r7.2.heap.size, 0, none⟩) 1)).bind fun v22 =>
(asSl v22).bind fun q23 =>
(World.cell? w21 (Addr.add (⟨r7.2.heap.size, 0, none⟩) 1)).bind fun v24 =>
(asSl v24).bind fun q25 =>
(callF Try.prog 39 #[.pointer u0, .agg #[.string u2, .slice q23.1 q23.2.1 q23.2.2, .int .i64 (q25.2.1 : Int)]] w21).bind fun r27 =>
(asTup 0 r27.1).bind fun _ =>
some (.int .i64 0, r27.2)

noncomputable def g32 (u0 : Option Addr) (u1 : ByteArray) (u2 : ByteArray) (w0 : World) : Option (Value × World) :=
(callF Try.prog 40 #[.pointer u0, .string u1] w0).bind fun r1 =>
(asTup 2 r1.1).bind fun l2 =>
(asI .i64 (l2.getD 0 undef)).bind fun n3 =>
(asI .i64 (l2.getD 1 undef)).bind fun n4 =>
if ((n4 : Int) != 0) = true then
(some (.int .i64 n4, r1.2))
else
(if (decide (((u2.size : Int) : Int) < 1)) = true then
(some (.int .i64 1, r1.2))
else
(if (decide (((u2.size : Int) : Int) > 24)) = true then
(some (.int .i64 1, r1.2))
else
(if (u1.toList == u2.toList) = true then
(some (.int .i64 0, r1.2))
else
((callF Try.prog 41 #[.pointer u0, .int .i64 n3] r1.2).bind fun r7 =>
(Ev.asAgg 3 r7.1).bind fun l8 =>
(asS (l8.getD 0 undef)).bind fun s9 =>
(asSl (l8.getD 1 undef)).bind fun q10 =>
(asI .i64 (l8.getD 2 undef)).bind fun n11 =>
(stL (World.alloc r7.2 (.cells #[.string (⟨#[]⟩ : ByteArray), .slice none 0 0, .int .i64 0] 53)) (⟨r7.2.heap.size, 0, none⟩) [.string s9, .slice q10.1 q10.2.1 q10.2.2, .int .i64 n11] 0).bind fun w12 =>
(callF Try.prog 37 #[.pointer u0, .string u2] w12).bind fun r14 =>
(asI .i64 r14.1).bind fun n15 =>
if (decide ((n15 : Int) ≥ 0)) = true then
((callF Try.prog 41 #[.pointer u0, .int .i64 n15] r14.2).bind fun r16 =>
(Ev.asAgg 3 r16.1).bind fun l17 =>
(asS (l17.getD 0 undef)).bind fun s18 =>
(asSl (l17.getD 1 undef)).bind fun q19 =>
(asI .i64 (l17.getD 2 undef)).bind fun n20 =>
g32_j13 r7 u0 u2 r16.2)
else
(g32_j13 r7 u0 u2 r14.2)))))

theorem g32_eq (u0 : Option Addr) (u1 : ByteArray) (u2 : ByteArray) (w0 : World) : evFn Try.prog 32 g32_ann #[.pointer u0, .string u1, .string u2] w0 = g32 u0 u1 u2 w0 := by kernel_rfl

theorem g32_call {u0 : Option Addr} {u1 : ByteArray} {u2 : ByteArray} {w0 : World} {r : Value × World} (h : g32 u0 u1 u2 w0 = some r) : callF Try.prog 32 #[.pointer u0, .string u1, .string u2] w0 = some r :=
  callF_of_evFn (ann := g32_ann) Try.call32 (by kernel_rfl) ((g32_eq u0 u1 u2 w0).trans h)

/-! 33: (*penstock/penstockref05.Disk).Arm (d: *penstockref05.Disk, n: int) -/
def g33_ann : List (List Nat × List Nat) := []

noncomputable def g33_j4 (u0 : Option Addr) (w0 : World) (x5 : Int) : Option (Value × World) :=
u0.bind fun a6 =>
(st1 w0 (Addr.add a6 1) (.int .i64 x5)).bind fun w7 =>
some (.tuple #[], w7)

noncomputable def g33 (u0 : Option Addr) (u1 : Int) (w0 : World) : Option (Value × World) :=
u0.bind fun a1 =>
(World.cell? w0 (Addr.add a1 2)).bind fun v2 =>
(asB v2).bind fun b3 =>
if (!b3) = true then
(if (decide ((u1 : Int) < 0)) = true then
(g33_j4 u0 w0 (-1))
else
(g33_j4 u0 w0 u1))
else
(some (.tuple #[], w0))

theorem g33_eq (u0 : Option Addr) (u1 : Int) (w0 : World) : evFn Try.prog 33 g33_ann #[.pointer u0, .int .i64 u1] w0 = g33 u0 u1 w0 := by kernel_rfl

theorem g33_call {u0 : Option Addr} {u1 : Int} {w0 : World} {r : Value × World} (h : g33 u0 u1 w0 = some r) : callF Try.prog 33 #[.pointer u0, .int .i64 u1] w0 = some r :=
  callF_of_evFn (ann := g33_ann) Try.call33 (by kernel_rfl) ((g33_eq u0 u1 w0).trans h)

/-! 34: (*penstock/penstockref05.Disk).Crash (d: *penstockref05.Disk, keep: int) -/
def g34_ann : List (List Nat × List Nat) := [([0, 1, 0], [0, 1, 4])]

def g34_l1_cs (u0 : Option Addr) (u1 : Int) : List (Nat × Value) := ([(0, .pointer u0), (1, .int .i64 u1)] : List (Nat × Value))

/-- the round of a loop ((*penstock/penstockref05.Disk).Crash) -/
noncomputable def g34_l1_b (u0 : Option Addr) (u1 : Int) (s2 : Int) (w3 : World) : Option (Exit × (Int) × World) :=
u0.bind fun a4 =>
(World.cell? w3 a4).bind fun v5 =>
(asSl v5).bind fun q6 =>
if (decide ((s2 : Int) < (q6.2.1 : Int))) = true then
(u0.bind fun a8 =>
(World.cell? (World.drew w3) a8).bind fun v9 =>
(asSl v9).bind fun q10 =>
(idxA q10.1 q10.2.1 3 s2).bind fun a11 =>
(World.cell? (World.drew w3) (Addr.add a11 1)).bind fun v12 =>
(asSl v12).bind fun q13 =>
u0.bind fun a15 =>
(World.cell? (World.drew w3) a15).bind fun v16 =>
(asSl v16).bind fun q17 =>
(idxA q17.1 q17.2.1 3 s2).bind fun a18 =>
(World.cell? (World.drew w3) (Addr.add a18 2)).bind fun v19 =>
(asI .i64 v19).bind fun n20 =>
u0.bind fun a21 =>
(World.cell? (World.drew (World.drew w3)) a21).bind fun v22 =>
(asSl v22).bind fun q23 =>
(idxA q23.1 q23.2.1 3 s2).bind fun a24 =>
(World.cell? (World.drew (World.drew w3)) (Addr.add a24 2)).bind fun v25 =>
(asI .i64 v25).bind fun n26 =>
if ((IntKind.u64.wrap (IntKind.i64.wrap ((IntKind.i64.wrap ((q13.2.1 : Int) - n20)) + 1))) : Int) = 0 then
(none)
else
(u0.bind fun a27 =>
(World.cell? (World.drew (World.drew w3)) a27).bind fun v28 =>
(asSl v28).bind fun q29 =>
(idxA q29.1 q29.2.1 3 s2).bind fun a30 =>
(World.cell? (World.drew (World.drew w3)) (Addr.add a30 1)).bind fun v31 =>
(asSl v31).bind fun q32 =>
(slc q32.1 q32.2.1 q32.2.2 1 none (some (IntKind.i64.wrap (n26 + (IntKind.i64.wrap (Int.tmod (IntKind.u64.wrap u1) (IntKind.u64.wrap (IntKind.i64.wrap ((IntKind.i64.wrap ((q13.2.1 : Int) - n20)) + 1)))))))) none).bind fun q33 =>
(callB Try.prog .append #[28, 28] 28 #[false, false] #[.slice none 0 0, .slice q33.1 q33.2.1 q33.2.2] (World.drew (World.drew w3))).bind fun r34 =>
(asSl r34.1).bind fun q35 =>
u0.bind fun a36 =>
(World.cell? r34.2 a36).bind fun v37 =>
(asSl v37).bind fun q38 =>
(idxA q38.1 q38.2.1 3 s2).bind fun a39 =>
(st1 r34.2 (Addr.add a39 1) (.slice q35.1 q35.2.1 q35.2.2)).bind fun w40 =>
u0.bind fun a41 =>
(World.cell? w40 a41).bind fun v42 =>
(asSl v42).bind fun q43 =>
(idxA q43.1 q43.2.1 3 s2).bind fun a44 =>
(st1 w40 (Addr.add a44 2) (.int .i64 (IntKind.i64.wrap (n26 + (IntKind.i64.wrap (Int.tmod (IntKind.u64.wrap u1) (IntKind.u64.wrap (IntKind.i64.wrap ((IntKind.i64.wrap ((q13.2.1 : Int) - n20)) + 1))))))))).bind fun w45 =>
some (.normal, (IntKind.i64.wrap (s2 + 1)), w45)))
else
(some ((.exit 0), s2, w3))

noncomputable def g34_K46  : Exit → Env → World → Option (Value × World) :=
  retK Try.prog Try.f34.results.toList

noncomputable def g34_K47  : Exit → Env → World → Option (Value × World) :=
  seqK (ev Try.prog 85 34 g34_ann (cAt [1] (bodyOf Try.f34)) [1] g34_K46) g34_K46

noncomputable def g34_K48  : Exit → Env → World → Option (Value × World) :=
  blkK 0 g34_K47

/-- the loop, from a state on -/
noncomputable def g34_l1 (u0 : Option Addr) (u1 : Int) (s : Int) (w : World) : Option (Value × World) :=
  loopM Try.prog 85 34 g34_ann (cAt [0, 1, 0, 0] (bodyOf Try.f34)) [0, 1, 0] g34_K48 ((g34_l1_cs u0 u1) ++ sputs [(4, .i .i64)] s) w

/-- behind the loop, left by x0 -/
noncomputable def g34_l1_x0 (u0 : Option Addr) (t49 : Int) (w50 : World) : Option (Value × World) :=
u0.bind fun a51 =>
(st1 w50 (Addr.add a51 2) (.bool false)).bind fun w52 =>
u0.bind fun a53 =>
(st1 w52 (Addr.add a53 1) (.int .i64 (-1))).bind fun w54 =>
some (.tuple #[], w54)

noncomputable def g34 (u0 : Option Addr) (u1 : Int) (w0 : World) : Option (Value × World) :=
g34_l1 u0 u1 0 w0

theorem g34_eq (u0 : Option Addr) (u1 : Int) (w0 : World) : evFn Try.prog 34 g34_ann #[.pointer u0, .int .i64 u1] w0 = g34 u0 u1 w0 := by kernel_rfl

theorem g34_call {u0 : Option Addr} {u1 : Int} {w0 : World} {r : Value × World} (h : g34 u0 u1 w0 = some r) : callF Try.prog 34 #[.pointer u0, .int .i64 u1] w0 = some r :=
  callF_of_evFn (ann := g34_ann) Try.call34 (by kernel_rfl) ((g34_eq u0 u1 w0).trans h)

theorem g34_l1_x0_of {u0 : Option Addr} {u1 : Int} {s t : Int} {w w' : World} (h : loopS (g34_l1_b u0 u1) s w = some (.exit 0, t, w')) : g34_l1 u0 u1 s w = g34_l1_x0 u0 t w' := by
  have h1 : g34_l1 u0 u1 s w = loopM Try.prog 85 34 g34_ann (cAt [0, 1, 0, 0] (bodyOf Try.f34)) [0, 1, 0] g34_K48 ((g34_l1_cs u0 u1) ++ sputs [(4, .i .i64)] s) w := by kernel_rfl
  have h2 : loopM Try.prog 85 34 g34_ann (cAt [0, 1, 0, 0] (bodyOf Try.f34)) [0, 1, 0] g34_K48 ((g34_l1_cs u0 u1) ++ sputs [(4, .i .i64)] s) w = g34_K48 (.exit 0) (puts 85 ((g34_l1_cs u0 u1) ++ sputs [(4, .i .i64)] t)) w' :=
    loop_rule (P := Try.prog) (N := 85) (f := 34) (ann := g34_ann) (body := (cAt [0, 1, 0, 0] (bodyOf Try.f34))) (pt := [0, 1, 0]) (K := g34_K48) (g34_l1_cs u0 u1) [(4, .i .i64)] (b := g34_l1_b u0 u1) (fun s w => by kernel_rfl) (by kernel_rfl) (by kernel_rfl) (by kernel_rfl) h
  have h3 : g34_K48 (.exit 0) (puts 85 ((g34_l1_cs u0 u1) ++ sputs [(4, .i .i64)] t)) w' = g34_l1_x0 u0 t w' := by kernel_rfl
  exact h1.trans (h2.trans h3)

/-! 37: (*penstock/penstockref05.Disk).At (d: *penstockref05.Disk, name: string) -/
def g37_ann : List (List Nat × List Nat) := [([0, 1, 0, 1], [0, 1, 4, 5])]

def g37_l1_cs (u0 : Option Addr) (u1 : ByteArray) : List (Nat × Value) := ([(0, .pointer u0), (1, .string u1)] : List (Nat × Value))

/-- the round of a loop ((*penstock/penstockref05.Disk).At) -/
noncomputable def g37_l1_b (u0 : Option Addr) (u1 : ByteArray) (s2 : Int × Int) (w3 : World) : Option (Exit × (Int × Int) × World) :=
u0.bind fun a4 =>
(World.cell? w3 a4).bind fun v5 =>
(asSl v5).bind fun q6 =>
if (decide ((s2.2 : Int) < (q6.2.1 : Int))) = true then
(u0.bind fun a8 =>
(World.cell? w3 a8).bind fun v9 =>
(asSl v9).bind fun q10 =>
(idxA q10.1 q10.2.1 3 s2.2).bind fun a11 =>
(World.cell? w3 a11).bind fun v12 =>
(asS v12).bind fun s13 =>
if (s13.toList == u1.toList) = true then
(some (.ret, (s2.2, s2.2), w3))
else
(some (.normal, (s2.1, (IntKind.i64.wrap (s2.2 + 1))), w3)))
else
(some ((.exit 0), (s2.1, s2.2), w3))

noncomputable def g37_K14  : Exit → Env → World → Option (Value × World) :=
  retK Try.prog Try.f37.results.toList

noncomputable def g37_K15  : Exit → Env → World → Option (Value × World) :=
  seqK (ev Try.prog 26 37 g37_ann (cAt [1, 1] (bodyOf Try.f37)) [1, 1] g37_K14) g37_K14

noncomputable def g37_K16  : Exit → Env → World → Option (Value × World) :=
  blkK 0 g37_K15

/-- the loop, from a state on -/
noncomputable def g37_l1 (u0 : Option Addr) (u1 : ByteArray) (s : Int × Int) (w : World) : Option (Value × World) :=
  loopM Try.prog 26 37 g37_ann (cAt [1, 0, 1, 0, 0] (bodyOf Try.f37)) [0, 1, 0, 1] g37_K16 ((g37_l1_cs u0 u1) ++ sputs [(4, .i .i64), (5, .i .i64)] s) w

/-- behind the loop, left by x0 -/
noncomputable def g37_l1_x0  (t17 : Int × Int) (w18 : World) : Option (Value × World) :=
some (.int .i64 (-1), w18)

/-- behind the loop, left by ret -/
noncomputable def g37_l1_ret  (t19 : Int × Int) (w20 : World) : Option (Value × World) :=
some (.int .i64 t19.1, w20)

noncomputable def g37 (u0 : Option Addr) (u1 : ByteArray) (w0 : World) : Option (Value × World) :=
g37_l1 u0 u1 (0, 0) w0

theorem g37_eq (u0 : Option Addr) (u1 : ByteArray) (w0 : World) : evFn Try.prog 37 g37_ann #[.pointer u0, .string u1] w0 = g37 u0 u1 w0 := by kernel_rfl

theorem g37_call {u0 : Option Addr} {u1 : ByteArray} {w0 : World} {r : Value × World} (h : g37 u0 u1 w0 = some r) : callF Try.prog 37 #[.pointer u0, .string u1] w0 = some r :=
  callF_of_evFn (ann := g37_ann) Try.call37 (by kernel_rfl) ((g37_eq u0 u1 w0).trans h)

theorem g37_l1_x0_of {u0 : Option Addr} {u1 : ByteArray} {s t : Int × Int} {w w' : World} (h : loopS (g37_l1_b u0 u1) s w = some (.exit 0, t, w')) : g37_l1 u0 u1 s w = g37_l1_x0 t w' := by
  have h1 : g37_l1 u0 u1 s w = loopM Try.prog 26 37 g37_ann (cAt [1, 0, 1, 0, 0] (bodyOf Try.f37)) [0, 1, 0, 1] g37_K16 ((g37_l1_cs u0 u1) ++ sputs [(4, .i .i64), (5, .i .i64)] s) w := by kernel_rfl
  have h2 : loopM Try.prog 26 37 g37_ann (cAt [1, 0, 1, 0, 0] (bodyOf Try.f37)) [0, 1, 0, 1] g37_K16 ((g37_l1_cs u0 u1) ++ sputs [(4, .i .i64), (5, .i .i64)] s) w = g37_K16 (.exit 0) (puts 26 ((g37_l1_cs u0 u1) ++ sputs [(4, .i .i64), (5, .i .i64)] t)) w' :=
    loop_rule (P := Try.prog) (N := 26) (f := 37) (ann := g37_ann) (body := (cAt [1, 0, 1, 0, 0] (bodyOf Try.f37))) (pt := [0, 1, 0, 1]) (K := g37_K16) (g37_l1_cs u0 u1) [(4, .i .i64), (5, .i .i64)] (b := g37_l1_b u0 u1) (fun s w => by kernel_rfl) (by kernel_rfl) (by kernel_rfl) (by kernel_rfl) h
  have h3 : g37_K16 (.exit 0) (puts 26 ((g37_l1_cs u0 u1) ++ sputs [(4, .i .i64), (5, .i .i64)] t)) w' = g37_l1_x0 t w' := by kernel_rfl
  exact h1.trans (h2.trans h3)

theorem g37_l1_ret_of {u0 : Option Addr} {u1 : ByteArray} {s t : Int × Int} {w w' : World} (h : loopS (g37_l1_b u0 u1) s w = some (.ret, t, w')) : g37_l1 u0 u1 s w = g37_l1_ret t w' := by
  have h1 : g37_l1 u0 u1 s w = loopM Try.prog 26 37 g37_ann (cAt [1, 0, 1, 0, 0] (bodyOf Try.f37)) [0, 1, 0, 1] g37_K16 ((g37_l1_cs u0 u1) ++ sputs [(4, .i .i64), (5, .i .i64)] s) w := by kernel_rfl
  have h2 : loopM Try.prog 26 37 g37_ann (cAt [1, 0, 1, 0, 0] (bodyOf Try.f37)) [0, 1, 0, 1] g37_K16 ((g37_l1_cs u0 u1) ++ sputs [(4, .i .i64), (5, .i .i64)] s) w = g37_K16 (.ret) (puts 26 ((g37_l1_cs u0 u1) ++ sputs [(4, .i .i64), (5, .i .i64)] t)) w' :=
    loop_rule (P := Try.prog) (N := 26) (f := 37) (ann := g37_ann) (body := (cAt [1, 0, 1, 0, 0] (bodyOf Try.f37))) (pt := [0, 1, 0, 1]) (K := g37_K16) (g37_l1_cs u0 u1) [(4, .i .i64), (5, .i .i64)] (b := g37_l1_b u0 u1) (fun s w => by kernel_rfl) (by kernel_rfl) (by kernel_rfl) (by kernel_rfl) h
  have h3 : g37_K16 (.ret) (puts 26 ((g37_l1_cs u0 u1) ++ sputs [(4, .i .i64), (5, .i .i64)] t)) w' = g37_l1_ret t w' := by kernel_rfl
  exact h1.trans (h2.trans h3)

/-! 38: (*penstock/penstockref05.Disk).used (d: *penstockref05.Disk) -/
def g38_ann : List (List Nat × List Nat) := [([0, 1, 0, 1, 1], [0, 2, 3, 4])]

def g38_l1_cs (u0 : Option Addr) : List (Nat × Value) := ([(0, .pointer u0), (2, .int .i64 0)] : List (Nat × Value))

/-- the round of a loop ((*penstock/penstockref05.Disk).used) -/
noncomputable def g38_l1_b (u0 : Option Addr) (s2 : Int × Int) (w3 : World) : Option (Exit × (Int × Int) × World) :=
u0.bind fun a4 =>
(World.cell? w3 a4).bind fun v5 =>
(asSl v5).bind fun q6 =>
if (decide ((s2.2 : Int) < (q6.2.1 : Int))) = true then
(u0.bind fun a8 =>
(World.cell? w3 a8).bind fun v9 =>
(asSl v9).bind fun q10 =>
(idxA q10.1 q10.2.1 3 s2.2).bind fun a11 =>
(World.cell? w3 (Addr.add a11 1)).bind fun v12 =>
(asSl v12).bind fun q13 =>
some (.normal, ((IntKind.i64.wrap (s2.1 + (q13.2.1 : Int))), (IntKind.i64.wrap (s2.2 + 1))), w3))
else
(some ((.exit 0), (s2.1, s2.2), w3))

noncomputable def g38_K15  : Exit → Env → World → Option (Value × World) :=
  retK Try.prog Try.f38.results.toList

noncomputable def g38_K16  : Exit → Env → World → Option (Value × World) :=
  seqK (ev Try.prog 26 38 g38_ann (cAt [1, 1, 1] (bodyOf Try.f38)) [1, 1, 1] g38_K15) g38_K15

noncomputable def g38_K17  : Exit → Env → World → Option (Value × World) :=
  blkK 0 g38_K16

/-- the loop, from a state on -/
noncomputable def g38_l1 (u0 : Option Addr) (s : Int × Int) (w : World) : Option (Value × World) :=
  loopM Try.prog 26 38 g38_ann (cAt [1, 1, 0, 1, 0, 0] (bodyOf Try.f38)) [0, 1, 0, 1, 1] g38_K17 ((g38_l1_cs u0) ++ sputs [(3, .i .i64), (4, .i .i64)] s) w

/-- behind the loop, left by x0 -/
noncomputable def g38_l1_x0  (t18 : Int × Int) (w19 : World) : Option (Value × World) :=
some (.int .i64 t18.1, w19)

noncomputable def g38 (u0 : Option Addr) (w0 : World) : Option (Value × World) :=
g38_l1 u0 (0, 0) w0

theorem g38_eq (u0 : Option Addr) (w0 : World) : evFn Try.prog 38 g38_ann #[.pointer u0] w0 = g38 u0 w0 := by kernel_rfl

theorem g38_call {u0 : Option Addr} {w0 : World} {r : Value × World} (h : g38 u0 w0 = some r) : callF Try.prog 38 #[.pointer u0] w0 = some r :=
  callF_of_evFn (ann := g38_ann) Try.call38 (by kernel_rfl) ((g38_eq u0 w0).trans h)

theorem g38_l1_x0_of {u0 : Option Addr} {s t : Int × Int} {w w' : World} (h : loopS (g38_l1_b u0) s w = some (.exit 0, t, w')) : g38_l1 u0 s w = g38_l1_x0 t w' := by
  have h1 : g38_l1 u0 s w = loopM Try.prog 26 38 g38_ann (cAt [1, 1, 0, 1, 0, 0] (bodyOf Try.f38)) [0, 1, 0, 1, 1] g38_K17 ((g38_l1_cs u0) ++ sputs [(3, .i .i64), (4, .i .i64)] s) w := by kernel_rfl
  have h2 : loopM Try.prog 26 38 g38_ann (cAt [1, 1, 0, 1, 0, 0] (bodyOf Try.f38)) [0, 1, 0, 1, 1] g38_K17 ((g38_l1_cs u0) ++ sputs [(3, .i .i64), (4, .i .i64)] s) w = g38_K17 (.exit 0) (puts 26 ((g38_l1_cs u0) ++ sputs [(3, .i .i64), (4, .i .i64)] t)) w' :=
    loop_rule (P := Try.prog) (N := 26) (f := 38) (ann := g38_ann) (body := (cAt [1, 1, 0, 1, 0, 0] (bodyOf Try.f38))) (pt := [0, 1, 0, 1, 1]) (K := g38_K17) (g38_l1_cs u0) [(3, .i .i64), (4, .i .i64)] (b := g38_l1_b u0) (fun s w => by kernel_rfl) (by kernel_rfl) (by kernel_rfl) (by kernel_rfl) h
  have h3 : g38_K17 (.exit 0) (puts 26 ((g38_l1_cs u0) ++ sputs [(3, .i .i64), (4, .i .i64)] t)) w' = g38_l1_x0 t w' := by kernel_rfl
  exact h1.trans (h2.trans h3)

/-! 39: (*penstock/penstockref05.Disk).put (d: *penstockref05.Disk, f: penstockref05.File) -/
def g39_ann : List (List Nat × List Nat) := [([0, 1, 0, 1, 1, 1], [0, 3, 4, 5, 6])]

def g39_l1_cs (u0 : Option Addr) (w0 : World) : List (Nat × Value) := ([(0, .pointer u0), (3, .pointer (some (⟨w0.heap.size, 0, none⟩)))] : List (Nat × Value))

/-- the round of a loop ((*penstock/penstockref05.Disk).put) -/
noncomputable def g39_l1_b (u0 : Option Addr) (w0 : World) (s2 : (Option Addr × Nat × Nat) × Bool × Int) (w3 : World) : Option (Exit × ((Option Addr × Nat × Nat) × Bool × Int) × World) :=
u0.bind fun a4 =>
(World.cell? w3 a4).bind fun v5 =>
(asSl v5).bind fun q6 =>
if (decide ((s2.2.2 : Int) < (q6.2.1 : Int))) = true then
(if (!s2.2.1) = true then
(u0.bind fun a9 =>
(World.cell? (World.drew w3) a9).bind fun v10 =>
(asSl v10).bind fun q11 =>
(idxA q11.1 q11.2.1 3 s2.2.2).bind fun a12 =>
(World.cell? (World.drew w3) a12).bind fun v13 =>
(asS v13).bind fun s14 =>
(World.cell? (World.drew w3) (⟨w0.heap.size, 0, none⟩)).bind fun v15 =>
(asS v15).bind fun s16 =>
if (!((Op.bytesLess s14.toList s16.toList) || (s14.toList == s16.toList))) = true then
((ldN (World.drew w3) (⟨w0.heap.size, 0, none⟩) 0 3).bind fun l17 =>
(asS (l17.getD 0 undef)).bind fun s18 =>
(asSl (l17.getD 1 undef)).bind fun q19 =>
(asI .i64 (l17.getD 2 undef)).bind fun n20 =>
(callB Try.prog .append #[49, 49] 49 #[false, false] #[.slice s2.1.1 s2.1.2.1 s2.1.2.2, .slice (some (⟨(World.drew w3).heap.size, 0, none⟩)) 1 1] (World.alloc (World.drew w3) (.cells #[.string s18, .slice q19.1 q19.2.1 q19.2.2, .int .i64 n20] 53))).bind fun r21 =>
(asSl r21.1).bind fun q22 =>
u0.bind fun a23 =>
(World.cell? r21.2 a23).bind fun v24 =>
(asSl v24).bind fun q25 =>
(idxA q25.1 q25.2.1 3 s2.2.2).bind fun a26 =>
(ldN r21.2 a26 0 3).bind fun l27 =>
(asS (l27.getD 0 undef)).bind fun s28 =>
(asSl (l27.getD 1 undef)).bind fun q29 =>
(asI .i64 (l27.getD 2 undef)).bind fun n30 =>
(callB Try.prog .append #[49, 49] 49 #[false, false] #[.slice q22.1 q22.2.1 q22.2.2, .slice (some (⟨r21.2.heap.size, 0, none⟩)) 1 1] (World.alloc r21.2 (.cells #[.string s28, .slice q29.1 q29.2.1 q29.2.2, .int .i64 n30] 53))).bind fun r31 =>
(asSl r31.1).bind fun q32 =>
some (.normal, ((q32.1, q32.2.1, q32.2.2), true, (IntKind.i64.wrap (s2.2.2 + 1))), r31.2))
else
(u0.bind fun a33 =>
(World.cell? (World.drew w3) a33).bind fun v34 =>
(asSl v34).bind fun q35 =>
(idxA q35.1 q35.2.1 3 s2.2.2).bind fun a36 =>
(ldN (World.drew w3) a36 0 3).bind fun l37 =>
(asS (l37.getD 0 undef)).bind fun s38 =>
(asSl (l37.getD 1 undef)).bind fun q39 =>
(asI .i64 (l37.getD 2 undef)).bind fun n40 =>
(callB Try.prog .append #[49, 49] 49 #[false, false] #[.slice s2.1.1 s2.1.2.1 s2.1.2.2, .slice (some (⟨(World.drew w3).heap.size, 0, none⟩)) 1 1] (World.alloc (World.drew w3) (.cells #[.string s38, .slice q39.1 q39.2.1 q39.2.2, .int .i64 n40] 53))).bind fun r41 =>
(asSl r41.1).bind fun q42 =>
some (.normal, ((q42.1, q42.2.1, q42.2.2), s2.2.1, (IntKind.i64.wrap (s2.2.2 + 1))), r41.2)))
else
(u0.bind fun a43 =>
(World.cell? (World.drew w3) a43).bind fun v44 =>
(asSl v44).bind fun q45 =>
(idxA q45.1 q45.2.1 3 s2.2.2).bind fun a46 =>
(ldN (World.drew w3) a46 0 3).bind fun l47 =>
(asS (l47.getD 0 undef)).bind fun s48 =>
(asSl (l47.getD 1 undef)).bind fun q49 =>
(asI .i64 (l47.getD 2 undef)).bind fun n50 =>
(callB Try.prog .append #[49, 49] 49 #[false, false] #[.slice s2.1.1 s2.1.2.1 s2.1.2.2, .slice (some (⟨(World.drew w3).heap.size, 0, none⟩)) 1 1] (World.alloc (World.drew w3) (.cells #[.string s48, .slice q49.1 q49.2.1 q49.2.2, .int .i64 n50] 53))).bind fun r51 =>
(asSl r51.1).bind fun q52 =>
some (.normal, ((q52.1, q52.2.1, q52.2.2), s2.2.1, (IntKind.i64.wrap (s2.2.2 + 1))), r51.2)))
else
(some ((.exit 0), ((s2.1.1, s2.1.2.1, s2.1.2.2), s2.2.1, s2.2.2), w3))

noncomputable def g39_K53  : Exit → Env → World → Option (Value × World) :=
  retK Try.prog Try.f39.results.toList

noncomputable def g39_K54  : Exit → Env → World → Option (Value × World) :=
  seqK (ev Try.prog 55 39 g39_ann (cAt [1, 1, 1, 1] (bodyOf Try.f39)) [1, 1, 1, 1] g39_K53) g39_K53

noncomputable def g39_K55  : Exit → Env → World → Option (Value × World) :=
  blkK 0 g39_K54

/-- the loop, from a state on -/
noncomputable def g39_l1 (u0 : Option Addr) (w0 : World) (s : (Option Addr × Nat × Nat) × Bool × Int) (w : World) : Option (Value × World) :=
  loopM Try.prog 55 39 g39_ann (cAt [1, 1, 1, 0, 1, 0, 0] (bodyOf Try.f39)) [0, 1, 0, 1, 1, 1] g39_K55 ((g39_l1_cs u0 w0) ++ sputs [(4, .sl), (5, .b), (6, .i .i64)] s) w

noncomputable def g39_j58 (u0 : Option Addr) (x65 : Option Addr × Nat × Nat) (w66 : World) : Option (Value × World) :=
u0.bind fun a67 =>
(st1 w66 a67 (.slice x65.1 x65.2.1 x65.2.2)).bind fun w68 =>
some (.tuple #[], w68)

/-- behind the loop, left by x0 -/
noncomputable def g39_l1_x0 (w0 : World) (u0 : Option Addr) (t56 : (Option Addr × Nat × Nat) × Bool × Int) (w57 : World) : Option (Value × World) :=
if (!t56.2.1) = true then
((ldN w57 (⟨w0.heap.size, 0, none⟩) 0 3).bind fun l59 =>
(asS (l59.getD 0 undef)).bind fun s60 =>
(asSl (l59.getD 1 undef)).bind fun q61 =>
(asI .i64 (l59.getD 2 undef)).bind fun n62 =>
(callB Try.prog .append #[49, 49] 49 #[false, false] #[.slice t56.1.1 t56.1.2.1 t56.1.2.2, .slice (some (⟨w57.heap.size, 0, none⟩)) 1 1] (World.alloc w57 (.cells #[.string s60, .slice q61.1 q61.2.1 q61.2.2, .int .i64 n62] 53))).bind fun r63 =>
(asSl r63.1).bind fun q64 =>
g39_j58 u0 (q64.1, q64.2.1, q64.2.2) r63.2)
else
(g39_j58 u0 (t56.1.1, t56.1.2.1, t56.1.2.2) w57)

noncomputable def g39 (u0 : Option Addr) (u1c0 : ByteArray) (u1c1 : Option Addr × Nat × Nat) (u1c2 : Int) (w0 : World) : Option (Value × World) :=
g39_l1 u0 w0 ((none, 0, 0), false, 0) (World.alloc w0 (.cells #[.string u1c0, .slice u1c1.1 u1c1.2.1 u1c1.2.2, .int .i64 u1c2] 53))

theorem g39_eq (u0 : Option Addr) (u1c0 : ByteArray) (u1c1 : Option Addr × Nat × Nat) (u1c2 : Int) (w0 : World) : evFn Try.prog 39 g39_ann #[.pointer u0, .agg #[.string u1c0, .slice u1c1.1 u1c1.2.1 u1c1.2.2, .int .i64 u1c2]] w0 = g39 u0 u1c0 u1c1 u1c2 w0 := by kernel_rfl

theorem g39_call {u0 : Option Addr} {u1c0 : ByteArray} {u1c1 : Option Addr × Nat × Nat} {u1c2 : Int} {w0 : World} {r : Value × World} (h : g39 u0 u1c0 u1c1 u1c2 w0 = some r) : callF Try.prog 39 #[.pointer u0, .agg #[.string u1c0, .slice u1c1.1 u1c1.2.1 u1c1.2.2, .int .i64 u1c2]] w0 = some r :=
  callF_of_evFn (ann := g39_ann) Try.call39 (by kernel_rfl) ((g39_eq u0 u1c0 u1c1 u1c2 w0).trans h)

theorem g39_l1_x0_of {u0 : Option Addr} {w0 : World} {s t : (Option Addr × Nat × Nat) × Bool × Int} {w w' : World} (h : loopS (g39_l1_b u0 w0) s w = some (.exit 0, t, w')) : g39_l1 u0 w0 s w = g39_l1_x0 w0 u0 t w' := by
  have h1 : g39_l1 u0 w0 s w = loopM Try.prog 55 39 g39_ann (cAt [1, 1, 1, 0, 1, 0, 0] (bodyOf Try.f39)) [0, 1, 0, 1, 1, 1] g39_K55 ((g39_l1_cs u0 w0) ++ sputs [(4, .sl), (5, .b), (6, .i .i64)] s) w := by kernel_rfl
  have h2 : loopM Try.prog 55 39 g39_ann (cAt [1, 1, 1, 0, 1, 0, 0] (bodyOf Try.f39)) [0, 1, 0, 1, 1, 1] g39_K55 ((g39_l1_cs u0 w0) ++ sputs [(4, .sl), (5, .b), (6, .i .i64)] s) w = g39_K55 (.exit 0) (puts 55 ((g39_l1_cs u0 w0) ++ sputs [(4, .sl), (5, .b), (6, .i .i64)] t)) w' :=
    loop_rule (P := Try.prog) (N := 55) (f := 39) (ann := g39_ann) (body := (cAt [1, 1, 1, 0, 1, 0, 0] (bodyOf Try.f39))) (pt := [0, 1, 0, 1, 1, 1]) (K := g39_K55) (g39_l1_cs u0 w0) [(4, .sl), (5, .b), (6, .i .i64)] (b := g39_l1_b u0 w0) (fun s w => by kernel_rfl) (by kernel_rfl) (by kernel_rfl) (by kernel_rfl) h
  have h3 : g39_K55 (.exit 0) (puts 55 ((g39_l1_cs u0 w0) ++ sputs [(4, .sl), (5, .b), (6, .i .i64)] t)) w' = g39_l1_x0 w0 u0 t w' := by kernel_rfl
  exact h1.trans (h2.trans h3)

/-! 40: (*penstock/penstockref05.Disk).find (d: *penstockref05.Disk, name: string) -/
def g40_ann : List (List Nat × List Nat) := []

noncomputable def g40 (u0 : Option Addr) (u1 : ByteArray) (w0 : World) : Option (Value × World) :=
u0.bind fun a1 =>
(World.cell? w0 (Addr.add a1 2)).bind fun v2 =>
(asB v2).bind fun b3 =>
if b3 = true then
(some (.tuple #[.int .i64 (-1), .int .i64 9], w0))
else
((callF Try.prog 37 #[.pointer u0, .string u1] w0).bind fun r4 =>
(asI .i64 r4.1).bind fun n5 =>
if (decide ((n5 : Int) < 0)) = true then
(some (.tuple #[.int .i64 (-1), .int .i64 4], r4.2))
else
(some (.tuple #[.int .i64 n5, .int .i64 0], r4.2)))

theorem g40_eq (u0 : Option Addr) (u1 : ByteArray) (w0 : World) : evFn Try.prog 40 g40_ann #[.pointer u0, .string u1] w0 = g40 u0 u1 w0 := by kernel_rfl

theorem g40_call {u0 : Option Addr} {u1 : ByteArray} {w0 : World} {r : Value × World} (h : g40 u0 u1 w0 = some r) : callF Try.prog 40 #[.pointer u0, .string u1] w0 = some r :=
  callF_of_evFn (ann := g40_ann) Try.call40 (by kernel_rfl) ((g40_eq u0 u1 w0).trans h)

/-! 41: (*penstock/penstockref05.Disk).take (d: *penstockref05.Disk, i: int) -/
def g41_ann : List (List Nat × List Nat) := []

noncomputable def g41 (u0 : Option Addr) (u1 : Int) (w0 : World) : Option (Value × World) :=
u0.bind fun a1 =>
(World.cell? (World.alloc w0 (.cells #[.string (⟨#[]⟩ : ByteArray), .slice none 0 0, .int .i64 0] 53)) a1).bind fun v2 =>
(asSl v2).bind fun q3 =>
(idxA q3.1 q3.2.1 3 u1).bind fun a4 =>
(ldN (World.alloc w0 (.cells #[.string (⟨#[]⟩ : ByteArray), .slice none 0 0, .int .i64 0] 53)) a4 0 3).bind fun l5 =>
(asS (l5.getD 0 undef)).bind fun s6 =>
(asSl (l5.getD 1 undef)).bind fun q7 =>
(asI .i64 (l5.getD 2 undef)).bind fun n8 =>
(stL (World.alloc (World.alloc w0 (.cells #[.string (⟨#[]⟩ : ByteArray), .slice none 0 0, .int .i64 0] 53)) (.cells #[.string (⟨#[]⟩ : ByteArray), .slice none 0 0, .int .i64 0] 53)) (⟨(World.alloc w0 (.cells #[.string (⟨#[]⟩ : ByteArray), .slice none 0 0, .int .i64 0] 53)).heap.size, 0, none⟩) [.string s6, .slice q7.1 q7.2.1 q7.2.2, .int .i64 n8] 0).bind fun w9 =>
u0.bind fun a10 =>
(World.cell? w9 a10).bind fun v11 =>
(asSl v11).bind fun q12 =>
(slc q12.1 q12.2.1 q12.2.2 3 none (some u1) none).bind fun q13 =>
(callB Try.prog .append #[49, 49] 49 #[false, false] #[.slice none 0 0, .slice q13.1 q13.2.1 q13.2.2] w9).bind fun r14 =>
(asSl r14.1).bind fun q15 =>
u0.bind fun a16 =>
(World.cell? r14.2 a16).bind fun v17 =>
(asSl v17).bind fun q18 =>
(slc q18.1 q18.2.1 q18.2.2 3 (some (IntKind.i64.wrap (u1 + 1))) none none).bind fun q19 =>
(callB Try.prog .append #[49, 49] 49 #[false, false] #[.slice q15.1 q15.2.1 q15.2.2, .slice q19.1 q19.2.1 q19.2.2] r14.2).bind fun r20 =>
(asSl r20.1).bind fun q21 =>
u0.bind fun a22 =>
(st1 r20.2 a22 (.slice q21.1 q21.2.1 q21.2.2)).bind fun w23 =>
(ldN w23 (⟨(World.alloc w0 (.cells #[.string (⟨#[]⟩ : ByteArray), .slice none 0 0, .int .i64 0] 53)).heap.size, 0, none⟩) 0 3).bind fun l24 =>
(asS (l24.getD 0 undef)).bind fun s25 =>
(asSl (l24.getD 1 undef)).bind fun q26 =>
(asI .i64 (l24.getD 2 undef)).bind fun n27 =>
(stL w23 (⟨w0.heap.size, 0, none⟩) [.string s25, .slice q26.1 q26.2.1 q26.2.2, .int .i64 n27] 0).bind fun w28 =>
(ldN w28 (⟨w0.heap.size, 0, none⟩) 0 3).bind fun l29 =>
(asS (l29.getD 0 undef)).bind fun s30 =>
(asSl (l29.getD 1 undef)).bind fun q31 =>
(asI .i64 (l29.getD 2 undef)).bind fun n32 =>
some (.agg #[.string s30, .slice q31.1 q31.2.1 q31.2.2, .int .i64 n32], w28)

theorem g41_eq (u0 : Option Addr) (u1 : Int) (w0 : World) : evFn Try.prog 41 g41_ann #[.pointer u0, .int .i64 u1] w0 = g41 u0 u1 w0 := by kernel_rfl

theorem g41_call {u0 : Option Addr} {u1 : Int} {w0 : World} {r : Value × World} (h : g41 u0 u1 w0 = some r) : callF Try.prog 41 #[.pointer u0, .int .i64 u1] w0 = some r :=
  callF_of_evFn (ann := g41_ann) Try.call41 (by kernel_rfl) ((g41_eq u0 u1 w0).trans h)

end Go.Proofs.Ytkmidlhnlnolnaa
