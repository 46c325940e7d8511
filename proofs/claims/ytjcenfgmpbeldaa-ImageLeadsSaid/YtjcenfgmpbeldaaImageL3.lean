/-
  ImageL3: lemmas on what Go functions of this seat come to (for whatever arguments, as each says). No condition but those that stand in each lemma.
-/
import Derived.Test.YtjcenfgmpbeldaaImageT
namespace Go.Proofs.Ytjcenfgmpbeldaa
open Go Go.Ev
set_option maxRecDepth 100000
set_option linter.unusedVariables false
/-! 3: penstock/penstocklaw13.ImageLeads (l: []api.Cmd) -/
def g3_ann : List (List Nat × List Nat) := [([0, 1, 0, 1, 1, 1, 1], [3, 5, 34, 35, 2, 36]), ([0, 1, 1, 1, 0, 0, 1, 1, 0, 0, 1, 0, 1, 1, 1, 1], [3, 5, 6, 34, 35, 36, 2, 8]), ([0, 1, 0, 1, 1, 1, 0, 0, 1, 0, 0, 1, 1, 1, 0, 0, 1, 1, 0, 0, 1, 0, 1, 1, 1, 1], [3, 5, 6, 8, 9, 34, 35, 36, 70, 71, 2, 11, 72])]

def g3_l8_cs (p3 : Option Addr) (r5 : Value × World) (u0 : Option Addr × Nat × Nat) : List (Nat × Value) := ([(3, .pointer p3), (5, .pointer (some (⟨r5.2.heap.size, 0, none⟩))), (34, .slice u0.1 u0.2.1 u0.2.2), (35, .int .i64 (u0.2.1 : Int))] : List (Nat × Value))

def g3_l37_cs (p3 : Option Addr) (r5 : Value × World) (s9 : Bool × Int) (u0 : Option Addr × Nat × Nat) : List (Nat × Value) := ([(3, .pointer p3), (5, .pointer (some (⟨r5.2.heap.size, 0, none⟩))), (6, .int .i64 s9.2), (34, .slice u0.1 u0.2.1 u0.2.2), (35, .int .i64 (u0.2.1 : Int)), (36, .int .i64 s9.2)] : List (Nat × Value))

def g3_l60_cs (p3 : Option Addr) (r5 : Value × World) (s9 : Bool × Int) (s38 : Bool × Int) (r40 : Value × World) (u0 : Option Addr × Nat × Nat) (q58 : Option Addr × Nat × Nat) : List (Nat × Value) := ([(3, .pointer p3), (5, .pointer (some (⟨r5.2.heap.size, 0, none⟩))), (6, .int .i64 s9.2), (8, .int .i64 s38.2), (9, .pointer (some (⟨r40.2.heap.size, 0, none⟩))), (34, .slice u0.1 u0.2.1 u0.2.2), (35, .int .i64 (u0.2.1 : Int)), (36, .int .i64 s9.2), (70, .slice q58.1 q58.2.1 q58.2.2), (71, .int .i64 (q58.2.1 : Int))] : List (Nat × Value))

/-- the round of a loop (penstock/penstocklaw13.ImageLeads) -/
noncomputable def g3_l60_b (q58 : Option Addr × Nat × Nat) (p3 : Option Addr) (r40 : Value × World) (r5 : Value × World) (s9 : Bool × Int) (s38 : Bool × Int) (u0 : Option Addr × Nat × Nat) (s61 : Bool × Bool × Int) (w62 : World) : Option (Exit × (Bool × Bool × Int) × World) :=
if (decide ((s61.2.2 : Int) < (q58.2.1 : Int))) = true then
((idxA q58.1 q58.2.1 1 s61.2.2).bind fun a63 =>
(World.cell? w62 a63).bind fun v64 =>
(asI .i64 v64).bind fun n65 =>
(callF Try.prog 16 #[.pointer p3, .int .i64 n65] w62).bind fun r66 =>
(asTup 3 r66.1).bind fun l67 =>
(asB (l67.getD 0 undef)).bind fun b68 =>
(asI .i64 (l67.getD 1 undef)).bind fun n69 =>
(asI .u64 (l67.getD 2 undef)).bind fun n70 =>
if s61.2.1 = true then
((World.cell? r66.2 (Addr.add (⟨r40.2.heap.size, 0, none⟩) 4)).bind fun v71 =>
(asSl v71).bind fun q72 =>
(callF Try.prog 17 #[.slice q72.1 q72.2.1 q72.2.2, .int .i64 n65] r66.2).bind fun r73 =>
(asB r73.1).bind fun b74 =>
if (!b74) = true then
((World.cell? r73.2 (Addr.add (⟨r40.2.heap.size, 0, none⟩) 5)).bind fun v75 =>
(asSl v75).bind fun q76 =>
(callF Try.prog 17 #[.slice q76.1 q76.2.1 q76.2.2, .int .i64 n65] r73.2).bind fun r77 =>
(asB r77.1).bind fun b78 =>
if (!b78) = true then
(some (.ret, (false, true, s61.2.2), r77.2))
else
(some (.normal, (s61.1, true, (IntKind.i64.wrap (s61.2.2 + 1))), r77.2)))
else
(some (.normal, (s61.1, true, (IntKind.i64.wrap (s61.2.2 + 1))), r73.2)))
else
((World.cell? r66.2 (Addr.add (⟨r40.2.heap.size, 0, none⟩) 4)).bind fun v79 =>
(asSl v79).bind fun q80 =>
(callF Try.prog 17 #[.slice q80.1 q80.2.1 q80.2.2, .int .i64 n65] r66.2).bind fun r81 =>
(asB r81.1).bind fun b82 =>
if (!b82) = true then
((World.cell? r81.2 (Addr.add (⟨r40.2.heap.size, 0, none⟩) 5)).bind fun v83 =>
(asSl v83).bind fun q84 =>
(callF Try.prog 17 #[.slice q84.1 q84.2.1 q84.2.2, .int .i64 n65] r81.2).bind fun r85 =>
(asB r85.1).bind fun b86 =>
if (!b86) = true then
(some (.ret, (false, b68, s61.2.2), r85.2))
else
(some (.normal, (s61.1, b68, (IntKind.i64.wrap (s61.2.2 + 1))), r85.2)))
else
(some (.normal, (s61.1, b68, (IntKind.i64.wrap (s61.2.2 + 1))), r81.2))))
else
(some ((.exit 4), (s61.1, s61.2.1, s61.2.2), w62))

noncomputable def g3_K87 (p3 : Option Addr) (r5 : Value × World) (s9 : Bool × Int) (u0 : Option Addr × Nat × Nat) : Exit → Env → World → Option (Exit × (Bool × Int) × World) :=
  fun e ρ w => ((List.map (·.1) (g3_l37_cs p3 r5 s9 u0)).mapM ρ).bind fun _ => loopK [(2, .b), (8, .i .i64)] e ρ w

noncomputable def g3_K88 (p3 : Option Addr) (r5 : Value × World) (s9 : Bool × Int) (u0 : Option Addr × Nat × Nat) : Exit → Env → World → Option (Exit × (Bool × Int) × World) :=
  seqK (ev Try.prog 171 3 g3_ann (cAt [1, 1, 1, 1, 0, 1, 0, 0, 1, 1, 0, 0, 1, 1, 1, 0, 0, 1, 1] (bodyOf Try.f3)) [1, 1, 0, 0, 1, 1, 1, 0, 0, 1, 1, 0, 0, 1, 0, 1, 1, 1, 1] (g3_K87 p3 r5 s9 u0)) (g3_K87 p3 r5 s9 u0)

noncomputable def g3_K89 (p3 : Option Addr) (r5 : Value × World) (s9 : Bool × Int) (u0 : Option Addr × Nat × Nat) : Exit → Env → World → Option (Exit × (Bool × Int) × World) :=
  blkK 3 (g3_K88 p3 r5 s9 u0)

noncomputable def g3_K90 (p3 : Option Addr) (r5 : Value × World) (s9 : Bool × Int) (u0 : Option Addr × Nat × Nat) : Exit → Env → World → Option (Exit × (Bool × Int) × World) :=
  seqK (ev Try.prog 171 3 g3_ann (cAt [1, 1, 1, 1, 0, 1, 0, 0, 1, 1, 0, 0, 1, 1, 1, 0, 0, 1, 0, 0, 1, 1, 1, 1] (bodyOf Try.f3)) [1, 1, 1, 1, 0, 0, 1, 0, 0, 1, 1, 1, 0, 0, 1, 1, 0, 0, 1, 0, 1, 1, 1, 1] (g3_K89 p3 r5 s9 u0)) (g3_K89 p3 r5 s9 u0)

noncomputable def g3_K91 (p3 : Option Addr) (r5 : Value × World) (s9 : Bool × Int) (u0 : Option Addr × Nat × Nat) : Exit → Env → World → Option (Exit × (Bool × Int) × World) :=
  blkK 4 (g3_K90 p3 r5 s9 u0)

/-- the loop, from a state on -/
noncomputable def g3_l60 (p3 : Option Addr) (r5 : Value × World) (s9 : Bool × Int) (s38 : Bool × Int) (r40 : Value × World) (u0 : Option Addr × Nat × Nat) (q58 : Option Addr × Nat × Nat) (s : Bool × Bool × Int) (w : World) : Option (Exit × (Bool × Int) × World) :=
  loopM Try.prog 171 3 g3_ann (cAt [1, 1, 1, 1, 0, 1, 0, 0, 1, 1, 0, 0, 1, 1, 1, 0, 0, 1, 0, 0, 1, 1, 1, 0, 1, 0, 0] (bodyOf Try.f3)) [0, 1, 0, 1, 1, 1, 0, 0, 1, 0, 0, 1, 1, 1, 0, 0, 1, 1, 0, 0, 1, 0, 1, 1, 1, 1] (g3_K91 p3 r5 s9 u0) ((g3_l60_cs p3 r5 s9 s38 r40 u0 q58) ++ sputs [(2, .b), (11, .b), (72, .i .i64)] s) w

/-- behind the loop, left by x4 -/
noncomputable def g3_l60_x4 (r40 : Value × World) (p3 : Option Addr) (s38 : Bool × Int) (s9 : Bool × Int) (r5 : Value × World) (t92 : Bool × Bool × Int) (w93 : World) : Option (Exit × (Bool × Int) × World) :=
(World.cell? w93 (⟨r40.2.heap.size, 0, none⟩)).bind fun v95 =>
(asI .i64 v95).bind fun n96 =>
if (decide ((n96 : Int) ≥ 0)) = true then
((World.cell? w93 (⟨r40.2.heap.size, 0, none⟩)).bind fun v97 =>
(asI .i64 v97).bind fun n98 =>
(callF Try.prog 16 #[.pointer p3, .int .i64 n98] w93).bind fun r99 =>
(asTup 3 r99.1).bind fun l100 =>
(asB (l100.getD 0 undef)).bind fun b101 =>
(asI .i64 (l100.getD 1 undef)).bind fun n102 =>
(asI .u64 (l100.getD 2 undef)).bind fun n103 =>
if (!b101) = true then
(some (.ret, (false, s38.2), r99.2))
else
((World.cell? r99.2 (Addr.add (⟨r40.2.heap.size, 0, none⟩) 3)).bind fun v104 =>
(asSl v104).bind fun q105 =>
(World.cell? r99.2 (⟨r40.2.heap.size, 0, none⟩)).bind fun v106 =>
(asI .i64 v106).bind fun n107 =>
(callF Try.prog 17 #[.slice q105.1 q105.2.1 q105.2.2, .int .i64 n107] r99.2).bind fun r108 =>
(asB r108.1).bind fun b109 =>
if (!b109) = true then
(some (.ret, (false, s38.2), r108.2))
else
((World.cell? (World.drew r108.2) (⟨r40.2.heap.size, 0, none⟩)).bind fun v110 =>
(asI .i64 v110).bind fun n111 =>
if (decide ((n111 : Int) < 0)) = true then
(if t92.2.1 = true then
(some (.ret, (false, s38.2), (World.drew r108.2)))
else
(if (decide ((s9.2 : Int) > 0)) = true then
((World.cell? (World.drew r108.2) (Addr.add (⟨r40.2.heap.size, 0, none⟩) 1)).bind fun v112 =>
(asI .i64 v112).bind fun n113 =>
(idxA (some (⟨r5.2.heap.size, 0, none⟩)) 4 6 s38.2).bind fun a114 =>
(World.cell? (World.drew r108.2) (Addr.add a114 1)).bind fun v115 =>
(asI .i64 v115).bind fun n116 =>
if (decide ((n113 : Int) < n116)) = true then
(some (.ret, (false, s38.2), (World.drew r108.2)))
else
((World.cell? (World.drew r108.2) (Addr.add (⟨r40.2.heap.size, 0, none⟩) 2)).bind fun v117 =>
(asI .i64 v117).bind fun n118 =>
(idxA (some (⟨r5.2.heap.size, 0, none⟩)) 4 6 s38.2).bind fun a119 =>
(World.cell? (World.drew r108.2) (Addr.add a119 2)).bind fun v120 =>
(asI .i64 v120).bind fun n121 =>
if (decide ((n118 : Int) < n121)) = true then
(some (.ret, (false, s38.2), (World.drew r108.2)))
else
((World.cell? (World.drew r108.2) (⟨r40.2.heap.size, 0, none⟩)).bind fun v122 =>
(asI .i64 v122).bind fun n123 =>
(idxA (some (⟨r5.2.heap.size, 0, none⟩)) 4 6 s38.2).bind fun a124 =>
(World.cell? (World.drew r108.2) a124).bind fun v125 =>
(asI .i64 v125).bind fun n126 =>
if ((n123 : Int) != n126) = true then
((World.cell? (World.drew r108.2) (Addr.add (⟨r40.2.heap.size, 0, none⟩) 1)).bind fun v127 =>
(asI .i64 v127).bind fun n128 =>
(idxA (some (⟨r5.2.heap.size, 0, none⟩)) 4 6 s38.2).bind fun a129 =>
(World.cell? (World.drew r108.2) (Addr.add a129 1)).bind fun v130 =>
(asI .i64 v130).bind fun n131 =>
if ((n128 : Int) == n131) = true then
(some (.ret, (false, s38.2), (World.drew r108.2)))
else
((ldN (World.drew r108.2) (⟨r40.2.heap.size, 0, none⟩) 0 6).bind fun l132 =>
(asI .i64 (l132.getD 0 undef)).bind fun n133 =>
(asI .i64 (l132.getD 1 undef)).bind fun n134 =>
(asI .i64 (l132.getD 2 undef)).bind fun n135 =>
(asSl (l132.getD 3 undef)).bind fun q136 =>
(asSl (l132.getD 4 undef)).bind fun q137 =>
(asSl (l132.getD 5 undef)).bind fun q138 =>
(idxA (some (⟨r5.2.heap.size, 0, none⟩)) 4 6 s38.2).bind fun a139 =>
(stL (World.drew r108.2) a139 [.int .i64 n133, .int .i64 n134, .int .i64 n135, .slice q136.1 q136.2.1 q136.2.2, .slice q137.1 q137.2.1 q137.2.2, .slice q138.1 q138.2.1 q138.2.2] 0).bind fun w140 =>
some (.normal, (t92.1, (IntKind.i64.wrap (s38.2 + 1))), w140)))
else
((ldN (World.drew r108.2) (⟨r40.2.heap.size, 0, none⟩) 0 6).bind fun l141 =>
(asI .i64 (l141.getD 0 undef)).bind fun n142 =>
(asI .i64 (l141.getD 1 undef)).bind fun n143 =>
(asI .i64 (l141.getD 2 undef)).bind fun n144 =>
(asSl (l141.getD 3 undef)).bind fun q145 =>
(asSl (l141.getD 4 undef)).bind fun q146 =>
(asSl (l141.getD 5 undef)).bind fun q147 =>
(idxA (some (⟨r5.2.heap.size, 0, none⟩)) 4 6 s38.2).bind fun a148 =>
(stL (World.drew r108.2) a148 [.int .i64 n142, .int .i64 n143, .int .i64 n144, .slice q145.1 q145.2.1 q145.2.2, .slice q146.1 q146.2.1 q146.2.2, .slice q147.1 q147.2.1 q147.2.2] 0).bind fun w149 =>
some (.normal, (t92.1, (IntKind.i64.wrap (s38.2 + 1))), w149)))))
else
((ldN (World.drew r108.2) (⟨r40.2.heap.size, 0, none⟩) 0 6).bind fun l150 =>
(asI .i64 (l150.getD 0 undef)).bind fun n151 =>
(asI .i64 (l150.getD 1 undef)).bind fun n152 =>
(asI .i64 (l150.getD 2 undef)).bind fun n153 =>
(asSl (l150.getD 3 undef)).bind fun q154 =>
(asSl (l150.getD 4 undef)).bind fun q155 =>
(asSl (l150.getD 5 undef)).bind fun q156 =>
(idxA (some (⟨r5.2.heap.size, 0, none⟩)) 4 6 s38.2).bind fun a157 =>
(stL (World.drew r108.2) a157 [.int .i64 n151, .int .i64 n152, .int .i64 n153, .slice q154.1 q154.2.1 q154.2.2, .slice q155.1 q155.2.1 q155.2.2, .slice q156.1 q156.2.1 q156.2.2] 0).bind fun w158 =>
some (.normal, (t92.1, (IntKind.i64.wrap (s38.2 + 1))), w158))))
else
(if (decide ((s9.2 : Int) > 0)) = true then
((World.cell? (World.drew r108.2) (Addr.add (⟨r40.2.heap.size, 0, none⟩) 1)).bind fun v159 =>
(asI .i64 v159).bind fun n160 =>
(idxA (some (⟨r5.2.heap.size, 0, none⟩)) 4 6 s38.2).bind fun a161 =>
(World.cell? (World.drew r108.2) (Addr.add a161 1)).bind fun v162 =>
(asI .i64 v162).bind fun n163 =>
if (decide ((n160 : Int) < n163)) = true then
(some (.ret, (false, s38.2), (World.drew r108.2)))
else
((World.cell? (World.drew r108.2) (Addr.add (⟨r40.2.heap.size, 0, none⟩) 2)).bind fun v164 =>
(asI .i64 v164).bind fun n165 =>
(idxA (some (⟨r5.2.heap.size, 0, none⟩)) 4 6 s38.2).bind fun a166 =>
(World.cell? (World.drew r108.2) (Addr.add a166 2)).bind fun v167 =>
(asI .i64 v167).bind fun n168 =>
if (decide ((n165 : Int) < n168)) = true then
(some (.ret, (false, s38.2), (World.drew r108.2)))
else
((World.cell? (World.drew r108.2) (⟨r40.2.heap.size, 0, none⟩)).bind fun v169 =>
(asI .i64 v169).bind fun n170 =>
(idxA (some (⟨r5.2.heap.size, 0, none⟩)) 4 6 s38.2).bind fun a171 =>
(World.cell? (World.drew r108.2) a171).bind fun v172 =>
(asI .i64 v172).bind fun n173 =>
if ((n170 : Int) != n173) = true then
((World.cell? (World.drew r108.2) (Addr.add (⟨r40.2.heap.size, 0, none⟩) 1)).bind fun v174 =>
(asI .i64 v174).bind fun n175 =>
(idxA (some (⟨r5.2.heap.size, 0, none⟩)) 4 6 s38.2).bind fun a176 =>
(World.cell? (World.drew r108.2) (Addr.add a176 1)).bind fun v177 =>
(asI .i64 v177).bind fun n178 =>
if ((n175 : Int) == n178) = true then
(some (.ret, (false, s38.2), (World.drew r108.2)))
else
((ldN (World.drew r108.2) (⟨r40.2.heap.size, 0, none⟩) 0 6).bind fun l179 =>
(asI .i64 (l179.getD 0 undef)).bind fun n180 =>
(asI .i64 (l179.getD 1 undef)).bind fun n181 =>
(asI .i64 (l179.getD 2 undef)).bind fun n182 =>
(asSl (l179.getD 3 undef)).bind fun q183 =>
(asSl (l179.getD 4 undef)).bind fun q184 =>
(asSl (l179.getD 5 undef)).bind fun q185 =>
(idxA (some (⟨r5.2.heap.size, 0, none⟩)) 4 6 s38.2).bind fun a186 =>
(stL (World.drew r108.2) a186 [.int .i64 n180, .int .i64 n181, .int .i64 n182, .slice q183.1 q183.2.1 q183.2.2, .slice q184.1 q184.2.1 q184.2.2, .slice q185.1 q185.2.1 q185.2.2] 0).bind fun w187 =>
some (.normal, (t92.1, (IntKind.i64.wrap (s38.2 + 1))), w187)))
else
((ldN (World.drew r108.2) (⟨r40.2.heap.size, 0, none⟩) 0 6).bind fun l188 =>
(asI .i64 (l188.getD 0 undef)).bind fun n189 =>
(asI .i64 (l188.getD 1 undef)).bind fun n190 =>
(asI .i64 (l188.getD 2 undef)).bind fun n191 =>
(asSl (l188.getD 3 undef)).bind fun q192 =>
(asSl (l188.getD 4 undef)).bind fun q193 =>
(asSl (l188.getD 5 undef)).bind fun q194 =>
(idxA (some (⟨r5.2.heap.size, 0, none⟩)) 4 6 s38.2).bind fun a195 =>
(stL (World.drew r108.2) a195 [.int .i64 n189, .int .i64 n190, .int .i64 n191, .slice q192.1 q192.2.1 q192.2.2, .slice q193.1 q193.2.1 q193.2.2, .slice q194.1 q194.2.1 q194.2.2] 0).bind fun w196 =>
some (.normal, (t92.1, (IntKind.i64.wrap (s38.2 + 1))), w196)))))
else
((ldN (World.drew r108.2) (⟨r40.2.heap.size, 0, none⟩) 0 6).bind fun l197 =>
(asI .i64 (l197.getD 0 undef)).bind fun n198 =>
(asI .i64 (l197.getD 1 undef)).bind fun n199 =>
(asI .i64 (l197.getD 2 undef)).bind fun n200 =>
(asSl (l197.getD 3 undef)).bind fun q201 =>
(asSl (l197.getD 4 undef)).bind fun q202 =>
(asSl (l197.getD 5 undef)).bind fun q203 =>
(idxA (some (⟨r5.2.heap.size, 0, none⟩)) 4 6 s38.2).bind fun a204 =>
(stL (World.drew r108.2) a204 [.int .i64 n198, .int .i64 n199, .int .i64 n200, .slice q201.1 q201.2.1 q201.2.2, .slice q202.1 q202.2.1 q202.2.2, .slice q203.1 q203.2.1 q203.2.2] 0).bind fun w205 =>
some (.normal, (t92.1, (IntKind.i64.wrap (s38.2 + 1))), w205))))))
else
((World.cell? (World.drew w93) (⟨r40.2.heap.size, 0, none⟩)).bind fun v206 =>
(asI .i64 v206).bind fun n207 =>
if (decide ((n207 : Int) < 0)) = true then
(if t92.2.1 = true then
(some (.ret, (false, s38.2), (World.drew w93)))
else
(if (decide ((s9.2 : Int) > 0)) = true then
((World.cell? (World.drew w93) (Addr.add (⟨r40.2.heap.size, 0, none⟩) 1)).bind fun v208 =>
(asI .i64 v208).bind fun n209 =>
(idxA (some (⟨r5.2.heap.size, 0, none⟩)) 4 6 s38.2).bind fun a210 =>
(World.cell? (World.drew w93) (Addr.add a210 1)).bind fun v211 =>
(asI .i64 v211).bind fun n212 =>
if (decide ((n209 : Int) < n212)) = true then
(some (.ret, (false, s38.2), (World.drew w93)))
else
((World.cell? (World.drew w93) (Addr.add (⟨r40.2.heap.size, 0, none⟩) 2)).bind fun v213 =>
(asI .i64 v213).bind fun n214 =>
(idxA (some (⟨r5.2.heap.size, 0, none⟩)) 4 6 s38.2).bind fun a215 =>
(World.cell? (World.drew w93) (Addr.add a215 2)).bind fun v216 =>
(asI .i64 v216).bind fun n217 =>
if (decide ((n214 : Int) < n217)) = true then
(some (.ret, (false, s38.2), (World.drew w93)))
else
((World.cell? (World.drew w93) (⟨r40.2.heap.size, 0, none⟩)).bind fun v218 =>
(asI .i64 v218).bind fun n219 =>
(idxA (some (⟨r5.2.heap.size, 0, none⟩)) 4 6 s38.2).bind fun a220 =>
(World.cell? (World.drew w93) a220).bind fun v221 =>
(asI .i64 v221).bind fun n222 =>
if ((n219 : Int) != n222) = true then
((World.cell? (World.drew w93) (Addr.add (⟨r40.2.heap.size, 0, none⟩) 1)).bind fun v223 =>
(asI .i64 v223).bind fun n224 =>
(idxA (some (⟨r5.2.heap.size, 0, none⟩)) 4 6 s38.2).bind fun a225 =>
(World.cell? (World.drew w93) (Addr.add a225 1)).bind fun v226 =>
(asI .i64 v226).bind fun n227 =>
if ((n224 : Int) == n227) = true then
(some (.ret, (false, s38.2), (World.drew w93)))
else
((ldN (World.drew w93) (⟨r40.2.heap.size, 0, none⟩) 0 6).bind fun l228 =>
(asI .i64 (l228.getD 0 undef)).bind fun n229 =>
(asI .i64 (l228.getD 1 undef)).bind fun n230 =>
(asI .i64 (l228.getD 2 undef)).bind fun n231 =>
(asSl (l228.getD 3 undef)).bind fun q232 =>
(asSl (l228.getD 4 undef)).bind fun q233 =>
(asSl (l228.getD 5 undef)).bind fun q234 =>
(idxA (some (⟨r5.2.heap.size, 0, none⟩)) 4 6 s38.2).bind fun a235 =>
(stL (World.drew w93) a235 [.int .i64 n229, .int .i64 n230, .int .i64 n231, .slice q232.1 q232.2.1 q232.2.2, .slice q233.1 q233.2.1 q233.2.2, .slice q234.1 q234.2.1 q234.2.2] 0).bind fun w236 =>
some (.normal, (t92.1, (IntKind.i64.wrap (s38.2 + 1))), w236)))
else
((ldN (World.drew w93) (⟨r40.2.heap.size, 0, none⟩) 0 6).bind fun l237 =>
(asI .i64 (l237.getD 0 undef)).bind fun n238 =>
(asI .i64 (l237.getD 1 undef)).bind fun n239 =>
(asI .i64 (l237.getD 2 undef)).bind fun n240 =>
(asSl (l237.getD 3 undef)).bind fun q241 =>
(asSl (l237.getD 4 undef)).bind fun q242 =>
(asSl (l237.getD 5 undef)).bind fun q243 =>
(idxA (some (⟨r5.2.heap.size, 0, none⟩)) 4 6 s38.2).bind fun a244 =>
(stL (World.drew w93) a244 [.int .i64 n238, .int .i64 n239, .int .i64 n240, .slice q241.1 q241.2.1 q241.2.2, .slice q242.1 q242.2.1 q242.2.2, .slice q243.1 q243.2.1 q243.2.2] 0).bind fun w245 =>
some (.normal, (t92.1, (IntKind.i64.wrap (s38.2 + 1))), w245)))))
else
((ldN (World.drew w93) (⟨r40.2.heap.size, 0, none⟩) 0 6).bind fun l246 =>
(asI .i64 (l246.getD 0 undef)).bind fun n247 =>
(asI .i64 (l246.getD 1 undef)).bind fun n248 =>
(asI .i64 (l246.getD 2 undef)).bind fun n249 =>
(asSl (l246.getD 3 undef)).bind fun q250 =>
(asSl (l246.getD 4 undef)).bind fun q251 =>
(asSl (l246.getD 5 undef)).bind fun q252 =>
(idxA (some (⟨r5.2.heap.size, 0, none⟩)) 4 6 s38.2).bind fun a253 =>
(stL (World.drew w93) a253 [.int .i64 n247, .int .i64 n248, .int .i64 n249, .slice q250.1 q250.2.1 q250.2.2, .slice q251.1 q251.2.1 q251.2.2, .slice q252.1 q252.2.1 q252.2.2] 0).bind fun w254 =>
some (.normal, (t92.1, (IntKind.i64.wrap (s38.2 + 1))), w254))))
else
(if (decide ((s9.2 : Int) > 0)) = true then
((World.cell? (World.drew w93) (Addr.add (⟨r40.2.heap.size, 0, none⟩) 1)).bind fun v255 =>
(asI .i64 v255).bind fun n256 =>
(idxA (some (⟨r5.2.heap.size, 0, none⟩)) 4 6 s38.2).bind fun a257 =>
(World.cell? (World.drew w93) (Addr.add a257 1)).bind fun v258 =>
(asI .i64 v258).bind fun n259 =>
if (decide ((n256 : Int) < n259)) = true then
(some (.ret, (false, s38.2), (World.drew w93)))
else
((World.cell? (World.drew w93) (Addr.add (⟨r40.2.heap.size, 0, none⟩) 2)).bind fun v260 =>
(asI .i64 v260).bind fun n261 =>
(idxA (some (⟨r5.2.heap.size, 0, none⟩)) 4 6 s38.2).bind fun a262 =>
(World.cell? (World.drew w93) (Addr.add a262 2)).bind fun v263 =>
(asI .i64 v263).bind fun n264 =>
if (decide ((n261 : Int) < n264)) = true then
(some (.ret, (false, s38.2), (World.drew w93)))
else
((World.cell? (World.drew w93) (⟨r40.2.heap.size, 0, none⟩)).bind fun v265 =>
(asI .i64 v265).bind fun n266 =>
(idxA (some (⟨r5.2.heap.size, 0, none⟩)) 4 6 s38.2).bind fun a267 =>
(World.cell? (World.drew w93) a267).bind fun v268 =>
(asI .i64 v268).bind fun n269 =>
if ((n266 : Int) != n269) = true then
((World.cell? (World.drew w93) (Addr.add (⟨r40.2.heap.size, 0, none⟩) 1)).bind fun v270 =>
(asI .i64 v270).bind fun n271 =>
(idxA (some (⟨r5.2.heap.size, 0, none⟩)) 4 6 s38.2).bind fun a272 =>
(World.cell? (World.drew w93) (Addr.add a272 1)).bind fun v273 =>
(asI .i64 v273).bind fun n274 =>
if ((n271 : Int) == n274) = true then
(some (.ret, (false, s38.2), (World.drew w93)))
else
((ldN (World.drew w93) (⟨r40.2.heap.size, 0, none⟩) 0 6).bind fun l275 =>
(asI .i64 (l275.getD 0 undef)).bind fun n276 =>
(asI .i64 (l275.getD 1 undef)).bind fun n277 =>
(asI .i64 (l275.getD 2 undef)).bind fun n278 =>
(asSl (l275.getD 3 undef)).bind fun q279 =>
(asSl (l275.getD 4 undef)).bind fun q280 =>
(asSl (l275.getD 5 undef)).bind fun q281 =>
(idxA (some (⟨r5.2.heap.size, 0, none⟩)) 4 6 s38.2).bind fun a282 =>
(stL (World.drew w93) a282 [.int .i64 n276, .int .i64 n277, .int .i64 n278, .slice q279.1 q279.2.1 q279.2.2, .slice q280.1 q280.2.1 q280.2.2, .slice q281.1 q281.2.1 q281.2.2] 0).bind fun w283 =>
some (.normal, (t92.1, (IntKind.i64.wrap (s38.2 + 1))), w283)))
else
((ldN (World.drew w93) (⟨r40.2.heap.size, 0, none⟩) 0 6).bind fun l284 =>
(asI .i64 (l284.getD 0 undef)).bind fun n285 =>
(asI .i64 (l284.getD 1 undef)).bind fun n286 =>
(asI .i64 (l284.getD 2 undef)).bind fun n287 =>
(asSl (l284.getD 3 undef)).bind fun q288 =>
(asSl (l284.getD 4 undef)).bind fun q289 =>
(asSl (l284.getD 5 undef)).bind fun q290 =>
(idxA (some (⟨r5.2.heap.size, 0, none⟩)) 4 6 s38.2).bind fun a291 =>
(stL (World.drew w93) a291 [.int .i64 n285, .int .i64 n286, .int .i64 n287, .slice q288.1 q288.2.1 q288.2.2, .slice q289.1 q289.2.1 q289.2.2, .slice q290.1 q290.2.1 q290.2.2] 0).bind fun w292 =>
some (.normal, (t92.1, (IntKind.i64.wrap (s38.2 + 1))), w292)))))
else
((ldN (World.drew w93) (⟨r40.2.heap.size, 0, none⟩) 0 6).bind fun l293 =>
(asI .i64 (l293.getD 0 undef)).bind fun n294 =>
(asI .i64 (l293.getD 1 undef)).bind fun n295 =>
(asI .i64 (l293.getD 2 undef)).bind fun n296 =>
(asSl (l293.getD 3 undef)).bind fun q297 =>
(asSl (l293.getD 4 undef)).bind fun q298 =>
(asSl (l293.getD 5 undef)).bind fun q299 =>
(idxA (some (⟨r5.2.heap.size, 0, none⟩)) 4 6 s38.2).bind fun a300 =>
(stL (World.drew w93) a300 [.int .i64 n294, .int .i64 n295, .int .i64 n296, .slice q297.1 q297.2.1 q297.2.2, .slice q298.1 q298.2.1 q298.2.2, .slice q299.1 q299.2.1 q299.2.2] 0).bind fun w301 =>
some (.normal, (t92.1, (IntKind.i64.wrap (s38.2 + 1))), w301))))

/-- behind the loop, left by ret -/
noncomputable def g3_l60_ret (s38 : Bool × Int) (t302 : Bool × Bool × Int) (w303 : World) : Option (Exit × (Bool × Int) × World) :=
some (.ret, (t302.1, s38.2), w303)

/-- the round of a loop (penstock/penstocklaw13.ImageLeads) -/
noncomputable def g3_l37_b (p3 : Option Addr) (r5 : Value × World) (s9 : Bool × Int) (u0 : Option Addr × Nat × Nat) (s38 : Bool × Int) (w39 : World) : Option (Exit × (Bool × Int) × World) :=
if (decide ((s38.2 : Int) < 4)) = true then
((callF Try.prog 15 #[.pointer p3, .int .i64 s38.2] w39).bind fun r40 =>
(asTup 2 r40.1).bind fun l41 =>
(Ev.asAgg 6 (l41.getD 0 undef)).bind fun l42 =>
(asI .i64 (l42.getD 0 undef)).bind fun n43 =>
(asI .i64 (l42.getD 1 undef)).bind fun n44 =>
(asI .i64 (l42.getD 2 undef)).bind fun n45 =>
(asSl (l42.getD 3 undef)).bind fun q46 =>
(asSl (l42.getD 4 undef)).bind fun q47 =>
(asSl (l42.getD 5 undef)).bind fun q48 =>
(asB (l41.getD 1 undef)).bind fun b49 =>
(stL (World.alloc r40.2 (.cells #[.int .i64 0, .int .i64 0, .int .i64 0, .slice none 0 0, .slice none 0 0, .slice none 0 0] 30)) (⟨r40.2.heap.size, 0, none⟩) [.int .i64 n43, .int .i64 n44, .int .i64 n45, .slice q46.1 q46.2.1 q46.2.2, .slice q47.1 q47.2.1 q47.2.2, .slice q48.1 q48.2.1 q48.2.2] 0).bind fun w50 =>
if (!b49) = true then
(some (.ret, (false, s38.2), w50))
else
((World.cell? w50 (Addr.add (⟨r40.2.heap.size, 0, none⟩) 3)).bind fun v51 =>
(asSl v51).bind fun q52 =>
if (((q52.2.1 : Int) : Int) == 0) = true then
(some (.ret, (false, s38.2), w50))
else
((World.cell? w50 (Addr.add (⟨r40.2.heap.size, 0, none⟩) 4)).bind fun v54 =>
(asSl v54).bind fun q55 =>
if (((q55.2.1 : Int) : Int) == 0) = true then
(some (.ret, (false, s38.2), w50))
else
((World.cell? w50 (Addr.add (⟨r40.2.heap.size, 0, none⟩) 3)).bind fun v57 =>
(asSl v57).bind fun q58 =>
g3_l60 p3 r5 s9 s38 r40 u0 q58 (s38.1, false, 0) w50))))
else
(some ((.exit 2), (s38.1, s38.2), w39))

noncomputable def g3_K304 (p3 : Option Addr) (r5 : Value × World) (u0 : Option Addr × Nat × Nat) : Exit → Env → World → Option (Exit × (Bool × Int) × World) :=
  fun e ρ w => ((List.map (·.1) (g3_l8_cs p3 r5 u0)).mapM ρ).bind fun _ => loopK [(2, .b), (36, .i .i64)] e ρ w

noncomputable def g3_K305 (p3 : Option Addr) (r5 : Value × World) (u0 : Option Addr × Nat × Nat) : Exit → Env → World → Option (Exit × (Bool × Int) × World) :=
  seqK (ev Try.prog 171 3 g3_ann (cAt [1, 1, 1, 1, 0, 1, 0, 0, 1, 1, 1] (bodyOf Try.f3)) [1, 1, 1, 0, 0, 1, 0, 1, 1, 1, 1] (g3_K304 p3 r5 u0)) (g3_K304 p3 r5 u0)

noncomputable def g3_K306 (p3 : Option Addr) (r5 : Value × World) (u0 : Option Addr × Nat × Nat) : Exit → Env → World → Option (Exit × (Bool × Int) × World) :=
  blkK 1 (g3_K305 p3 r5 u0)

noncomputable def g3_K307 (p3 : Option Addr) (r5 : Value × World) (u0 : Option Addr × Nat × Nat) : Exit → Env → World → Option (Exit × (Bool × Int) × World) :=
  blkK 2 (g3_K306 p3 r5 u0)

/-- the loop, from a state on -/
noncomputable def g3_l37 (p3 : Option Addr) (r5 : Value × World) (s9 : Bool × Int) (u0 : Option Addr × Nat × Nat) (s : Bool × Int) (w : World) : Option (Exit × (Bool × Int) × World) :=
  loopM Try.prog 171 3 g3_ann (cAt [1, 1, 1, 1, 0, 1, 0, 0, 1, 1, 0, 0, 1, 1, 1, 0, 0] (bodyOf Try.f3)) [0, 1, 1, 1, 0, 0, 1, 1, 0, 0, 1, 0, 1, 1, 1, 1] (g3_K307 p3 r5 u0) ((g3_l37_cs p3 r5 s9 u0) ++ sputs [(2, .b), (8, .i .i64)] s) w

/-- behind the loop, left by x2 -/
noncomputable def g3_l37_x2 (s9 : Bool × Int) (t308 : Bool × Int) (w309 : World) : Option (Exit × (Bool × Int) × World) :=
some (.normal, (t308.1, (IntKind.i64.wrap (s9.2 + 1))), w309)

/-- behind the loop, left by ret -/
noncomputable def g3_l37_ret (s9 : Bool × Int) (t310 : Bool × Int) (w311 : World) : Option (Exit × (Bool × Int) × World) :=
some (.ret, (t310.1, s9.2), w311)

/-- the round of a loop (penstock/penstocklaw13.ImageLeads) -/
noncomputable def g3_l8_b (u0 : Option Addr × Nat × Nat) (p3 : Option Addr) (r5 : Value × World) (s9 : Bool × Int) (w10 : World) : Option (Exit × (Bool × Int) × World) :=
if (decide ((s9.2 : Int) < (u0.2.1 : Int))) = true then
((idxA u0.1 u0.2.1 6 s9.2).bind fun a11 =>
(ldN w10 a11 0 6).bind fun l12 =>
(asI .i64 (l12.getD 0 undef)).bind fun n13 =>
(asI .i64 (l12.getD 1 undef)).bind fun n14 =>
(asI .i64 (l12.getD 2 undef)).bind fun n15 =>
(asI .i64 (l12.getD 3 undef)).bind fun n16 =>
(asI .i64 (l12.getD 4 undef)).bind fun n17 =>
(asSl (l12.getD 5 undef)).bind fun q18 =>
(stL (World.alloc w10 (.cells #[.int .i64 0, .int .i64 0, .int .i64 0, .int .i64 0, .int .i64 0, .slice none 0 0] 33)) (⟨w10.heap.size, 0, none⟩) [.int .i64 n13, .int .i64 n14, .int .i64 n15, .int .i64 n16, .int .i64 n17, .slice q18.1 q18.2.1 q18.2.2] 0).bind fun w19 =>
(ldN w19 (⟨w10.heap.size, 0, none⟩) 0 6).bind fun l20 =>
(asI .i64 (l20.getD 0 undef)).bind fun n21 =>
(asI .i64 (l20.getD 1 undef)).bind fun n22 =>
(asI .i64 (l20.getD 2 undef)).bind fun n23 =>
(asI .i64 (l20.getD 3 undef)).bind fun n24 =>
(asI .i64 (l20.getD 4 undef)).bind fun n25 =>
(asSl (l20.getD 5 undef)).bind fun q26 =>
(callF Try.prog 14 #[.agg #[.int .i64 n21, .int .i64 n22, .int .i64 n23, .int .i64 n24, .int .i64 n25, .slice q26.1 q26.2.1 q26.2.2]] w19).bind fun r27 =>
(Ev.asAgg 6 r27.1).bind fun l28 =>
(asI .i64 (l28.getD 0 undef)).bind fun n29 =>
(asI .i64 (l28.getD 1 undef)).bind fun n30 =>
(asI .i64 (l28.getD 2 undef)).bind fun n31 =>
(asI .i64 (l28.getD 3 undef)).bind fun n32 =>
(asI .i64 (l28.getD 4 undef)).bind fun n33 =>
(asSl (l28.getD 5 undef)).bind fun q34 =>
(callF Try.prog 13 #[.pointer p3, .agg #[.int .i64 n29, .int .i64 n30, .int .i64 n31, .int .i64 n32, .int .i64 n33, .slice q34.1 q34.2.1 q34.2.2]] r27.2).bind fun r35 =>
(asI .i64 r35.1).bind fun n36 =>
g3_l37 p3 r5 s9 u0 (s9.1, 0) r35.2)
else
(some ((.exit 0), (s9.1, s9.2), w10))

noncomputable def g3_K312  : Exit → Env → World → Option (Value × World) :=
  retK Try.prog Try.f3.results.toList

noncomputable def g3_K313  : Exit → Env → World → Option (Value × World) :=
  seqK (ev Try.prog 171 3 g3_ann (cAt [1, 1, 1, 1, 1] (bodyOf Try.f3)) [1, 1, 1, 1, 1] g3_K312) g3_K312

noncomputable def g3_K314  : Exit → Env → World → Option (Value × World) :=
  blkK 0 g3_K313

/-- the loop, from a state on -/
noncomputable def g3_l8 (p3 : Option Addr) (r5 : Value × World) (u0 : Option Addr × Nat × Nat) (s : Bool × Int) (w : World) : Option (Value × World) :=
  loopM Try.prog 171 3 g3_ann (cAt [1, 1, 1, 1, 0, 1, 0, 0] (bodyOf Try.f3)) [0, 1, 0, 1, 1, 1, 1] g3_K314 ((g3_l8_cs p3 r5 u0) ++ sputs [(2, .b), (36, .i .i64)] s) w

/-- behind the loop, left by x0 -/
noncomputable def g3_l8_x0  (t315 : Bool × Int) (w316 : World) : Option (Value × World) :=
some (.bool true, w316)

/-- behind the loop, left by ret -/
noncomputable def g3_l8_ret  (t317 : Bool × Int) (w318 : World) : Option (Value × World) :=
some (.bool t317.1, w318)

noncomputable def g3 (u0 : Option Addr × Nat × Nat) (w0 : World) : Option (Value × World) :=
(callF Try.prog 11 #[.int .i64 5, .int .i64 4, .int .i64 3] w0).bind fun r1 =>
(asTup 2 r1.1).bind fun l2 =>
(asP (l2.getD 0 undef)).bind fun p3 =>
(asI .i64 (l2.getD 1 undef)).bind fun n4 =>
(callF Try.prog 12 #[] r1.2).bind fun r5 =>
(asB r5.1).bind fun b6 =>
if (!b6) = true then
(some (.bool false, r5.2))
else
(if (p3.isNone) = true then
(some (.bool false, r5.2))
else
(if ((n4 : Int) != 0) = true then
(some (.bool false, r5.2))
else
(g3_l8 p3 r5 u0 (false, 0) (World.alloc r5.2 (.cells #[.int .i64 0, .int .i64 0, .int .i64 0, .slice none 0 0, .slice none 0 0, .slice none 0 0, .int .i64 0, .int .i64 0, .int .i64 0, .slice none 0 0, .slice none 0 0, .slice none 0 0, .int .i64 0, .int .i64 0, .int .i64 0, .slice none 0 0, .slice none 0 0, .slice none 0 0, .int .i64 0, .int .i64 0, .int .i64 0, .slice none 0 0, .slice none 0 0, .slice none 0 0] 31)))))

theorem g3_eq (u0 : Option Addr × Nat × Nat) (w0 : World) : evFn Try.prog 3 g3_ann #[.slice u0.1 u0.2.1 u0.2.2] w0 = g3 u0 w0 := by kernel_rfl

theorem g3_call {u0 : Option Addr × Nat × Nat} {w0 : World} {r : Value × World} (h : g3 u0 w0 = some r) : callF Try.prog 3 #[.slice u0.1 u0.2.1 u0.2.2] w0 = some r :=
  callF_of_evFn (ann := g3_ann) Try.call3 (by kernel_rfl) ((g3_eq u0 w0).trans h)

theorem g3_l60_x4_of {p3 : Option Addr} {r5 : Value × World} {s9 : Bool × Int} {s38 : Bool × Int} {r40 : Value × World} {u0 : Option Addr × Nat × Nat} {q58 : Option Addr × Nat × Nat} {s t : Bool × Bool × Int} {w w' : World} (h : loopS (g3_l60_b q58 p3 r40 r5 s9 s38 u0) s w = some (.exit 4, t, w')) : g3_l60 p3 r5 s9 s38 r40 u0 q58 s w = g3_l60_x4 r40 p3 s38 s9 r5 t w' := by
  have h1 : g3_l60 p3 r5 s9 s38 r40 u0 q58 s w = loopM Try.prog 171 3 g3_ann (cAt [1, 1, 1, 1, 0, 1, 0, 0, 1, 1, 0, 0, 1, 1, 1, 0, 0, 1, 0, 0, 1, 1, 1, 0, 1, 0, 0] (bodyOf Try.f3)) [0, 1, 0, 1, 1, 1, 0, 0, 1, 0, 0, 1, 1, 1, 0, 0, 1, 1, 0, 0, 1, 0, 1, 1, 1, 1] (g3_K91 p3 r5 s9 u0) ((g3_l60_cs p3 r5 s9 s38 r40 u0 q58) ++ sputs [(2, .b), (11, .b), (72, .i .i64)] s) w := by kernel_rfl
  have h2 : loopM Try.prog 171 3 g3_ann (cAt [1, 1, 1, 1, 0, 1, 0, 0, 1, 1, 0, 0, 1, 1, 1, 0, 0, 1, 0, 0, 1, 1, 1, 0, 1, 0, 0] (bodyOf Try.f3)) [0, 1, 0, 1, 1, 1, 0, 0, 1, 0, 0, 1, 1, 1, 0, 0, 1, 1, 0, 0, 1, 0, 1, 1, 1, 1] (g3_K91 p3 r5 s9 u0) ((g3_l60_cs p3 r5 s9 s38 r40 u0 q58) ++ sputs [(2, .b), (11, .b), (72, .i .i64)] s) w = (g3_K91 p3 r5 s9 u0) (.exit 4) (puts 171 ((g3_l60_cs p3 r5 s9 s38 r40 u0 q58) ++ sputs [(2, .b), (11, .b), (72, .i .i64)] t)) w' :=
    loop_rule (P := Try.prog) (N := 171) (f := 3) (ann := g3_ann) (body := (cAt [1, 1, 1, 1, 0, 1, 0, 0, 1, 1, 0, 0, 1, 1, 1, 0, 0, 1, 0, 0, 1, 1, 1, 0, 1, 0, 0] (bodyOf Try.f3))) (pt := [0, 1, 0, 1, 1, 1, 0, 0, 1, 0, 0, 1, 1, 1, 0, 0, 1, 1, 0, 0, 1, 0, 1, 1, 1, 1]) (K := (g3_K91 p3 r5 s9 u0)) (g3_l60_cs p3 r5 s9 s38 r40 u0 q58) [(2, .b), (11, .b), (72, .i .i64)] (b := g3_l60_b q58 p3 r40 r5 s9 s38 u0) (fun s w => by kernel_rfl) (by kernel_rfl) (by kernel_rfl) (by kernel_rfl) h
  have h3 : (g3_K91 p3 r5 s9 u0) (.exit 4) (puts 171 ((g3_l60_cs p3 r5 s9 s38 r40 u0 q58) ++ sputs [(2, .b), (11, .b), (72, .i .i64)] t)) w' = g3_l60_x4 r40 p3 s38 s9 r5 t w' := by kernel_rfl
  exact h1.trans (h2.trans h3)

theorem g3_l60_ret_of {p3 : Option Addr} {r5 : Value × World} {s9 : Bool × Int} {s38 : Bool × Int} {r40 : Value × World} {u0 : Option Addr × Nat × Nat} {q58 : Option Addr × Nat × Nat} {s t : Bool × Bool × Int} {w w' : World} (h : loopS (g3_l60_b q58 p3 r40 r5 s9 s38 u0) s w = some (.ret, t, w')) : g3_l60 p3 r5 s9 s38 r40 u0 q58 s w = g3_l60_ret s38 t w' := by
  have h1 : g3_l60 p3 r5 s9 s38 r40 u0 q58 s w = loopM Try.prog 171 3 g3_ann (cAt [1, 1, 1, 1, 0, 1, 0, 0, 1, 1, 0, 0, 1, 1, 1, 0, 0, 1, 0, 0, 1, 1, 1, 0, 1, 0, 0] (bodyOf Try.f3)) [0, 1, 0, 1, 1, 1, 0, 0, 1, 0, 0, 1, 1, 1, 0, 0, 1, 1, 0, 0, 1, 0, 1, 1, 1, 1] (g3_K91 p3 r5 s9 u0) ((g3_l60_cs p3 r5 s9 s38 r40 u0 q58) ++ sputs [(2, .b), (11, .b), (72, .i .i64)] s) w := by kernel_rfl
  have h2 : loopM Try.prog 171 3 g3_ann (cAt [1, 1, 1, 1, 0, 1, 0, 0, 1, 1, 0, 0, 1, 1, 1, 0, 0, 1, 0, 0, 1, 1, 1, 0, 1, 0, 0] (bodyOf Try.f3)) [0, 1, 0, 1, 1, 1, 0, 0, 1, 0, 0, 1, 1, 1, 0, 0, 1, 1, 0, 0, 1, 0, 1, 1, 1, 1] (g3_K91 p3 r5 s9 u0) ((g3_l60_cs p3 r5 s9 s38 r40 u0 q58) ++ sputs [(2, .b), (11, .b), (72, .i .i64)] s) w = (g3_K91 p3 r5 s9 u0) (.ret) (puts 171 ((g3_l60_cs p3 r5 s9 s38 r40 u0 q58) ++ sputs [(2, .b), (11, .b), (72, .i .i64)] t)) w' :=
    loop_rule (P := Try.prog) (N := 171) (f := 3) (ann := g3_ann) (body := (cAt [1, 1, 1, 1, 0, 1, 0, 0, 1, 1, 0, 0, 1, 1, 1, 0, 0, 1, 0, 0, 1, 1, 1, 0, 1, 0, 0] (bodyOf Try.f3))) (pt := [0, 1, 0, 1, 1, 1, 0, 0, 1, 0, 0, 1, 1, 1, 0, 0, 1, 1, 0, 0, 1, 0, 1, 1, 1, 1]) (K := (g3_K91 p3 r5 s9 u0)) (g3_l60_cs p3 r5 s9 s38 r40 u0 q58) [(2, .b), (11, .b), (72, .i .i64)] (b := g3_l60_b q58 p3 r40 r5 s9 s38 u0) (fun s w => by kernel_rfl) (by kernel_rfl) (by kernel_rfl) (by kernel_rfl) h
  have h3 : (g3_K91 p3 r5 s9 u0) (.ret) (puts 171 ((g3_l60_cs p3 r5 s9 s38 r40 u0 q58) ++ sputs [(2, .b), (11, .b), (72, .i .i64)] t)) w' = g3_l60_ret s38 t w' := by kernel_rfl
  exact h1.trans (h2.trans h3)

theorem g3_l37_x2_of {p3 : Option Addr} {r5 : Value × World} {s9 : Bool × Int} {u0 : Option Addr × Nat × Nat} {s t : Bool × Int} {w w' : World} (h : loopS (g3_l37_b p3 r5 s9 u0) s w = some (.exit 2, t, w')) : g3_l37 p3 r5 s9 u0 s w = g3_l37_x2 s9 t w' := by
  have h1 : g3_l37 p3 r5 s9 u0 s w = loopM Try.prog 171 3 g3_ann (cAt [1, 1, 1, 1, 0, 1, 0, 0, 1, 1, 0, 0, 1, 1, 1, 0, 0] (bodyOf Try.f3)) [0, 1, 1, 1, 0, 0, 1, 1, 0, 0, 1, 0, 1, 1, 1, 1] (g3_K307 p3 r5 u0) ((g3_l37_cs p3 r5 s9 u0) ++ sputs [(2, .b), (8, .i .i64)] s) w := by kernel_rfl
  have h2 : loopM Try.prog 171 3 g3_ann (cAt [1, 1, 1, 1, 0, 1, 0, 0, 1, 1, 0, 0, 1, 1, 1, 0, 0] (bodyOf Try.f3)) [0, 1, 1, 1, 0, 0, 1, 1, 0, 0, 1, 0, 1, 1, 1, 1] (g3_K307 p3 r5 u0) ((g3_l37_cs p3 r5 s9 u0) ++ sputs [(2, .b), (8, .i .i64)] s) w = (g3_K307 p3 r5 u0) (.exit 2) (puts 171 ((g3_l37_cs p3 r5 s9 u0) ++ sputs [(2, .b), (8, .i .i64)] t)) w' :=
    loop_rule (P := Try.prog) (N := 171) (f := 3) (ann := g3_ann) (body := (cAt [1, 1, 1, 1, 0, 1, 0, 0, 1, 1, 0, 0, 1, 1, 1, 0, 0] (bodyOf Try.f3))) (pt := [0, 1, 1, 1, 0, 0, 1, 1, 0, 0, 1, 0, 1, 1, 1, 1]) (K := (g3_K307 p3 r5 u0)) (g3_l37_cs p3 r5 s9 u0) [(2, .b), (8, .i .i64)] (b := g3_l37_b p3 r5 s9 u0) (fun s w => by kernel_rfl) (by kernel_rfl) (by kernel_rfl) (by kernel_rfl) h
  have h3 : (g3_K307 p3 r5 u0) (.exit 2) (puts 171 ((g3_l37_cs p3 r5 s9 u0) ++ sputs [(2, .b), (8, .i .i64)] t)) w' = g3_l37_x2 s9 t w' := by kernel_rfl
  exact h1.trans (h2.trans h3)

theorem g3_l37_ret_of {p3 : Option Addr} {r5 : Value × World} {s9 : Bool × Int} {u0 : Option Addr × Nat × Nat} {s t : Bool × Int} {w w' : World} (h : loopS (g3_l37_b p3 r5 s9 u0) s w = some (.ret, t, w')) : g3_l37 p3 r5 s9 u0 s w = g3_l37_ret s9 t w' := by
  have h1 : g3_l37 p3 r5 s9 u0 s w = loopM Try.prog 171 3 g3_ann (cAt [1, 1, 1, 1, 0, 1, 0, 0, 1, 1, 0, 0, 1, 1, 1, 0, 0] (bodyOf Try.f3)) [0, 1, 1, 1, 0, 0, 1, 1, 0, 0, 1, 0, 1, 1, 1, 1] (g3_K307 p3 r5 u0) ((g3_l37_cs p3 r5 s9 u0) ++ sputs [(2, .b), (8, .i .i64)] s) w := by kernel_rfl
  have h2 : loopM Try.prog 171 3 g3_ann (cAt [1, 1, 1, 1, 0, 1, 0, 0, 1, 1, 0, 0, 1, 1, 1, 0, 0] (bodyOf Try.f3)) [0, 1, 1, 1, 0, 0, 1, 1, 0, 0, 1, 0, 1, 1, 1, 1] (g3_K307 p3 r5 u0) ((g3_l37_cs p3 r5 s9 u0) ++ sputs [(2, .b), (8, .i .i64)] s) w = (g3_K307 p3 r5 u0) (.ret) (puts 171 ((g3_l37_cs p3 r5 s9 u0) ++ sputs [(2, .b), (8, .i .i64)] t)) w' :=
    loop_rule (P := Try.prog) (N := 171) (f := 3) (ann := g3_ann) (body := (cAt [1, 1, 1, 1, 0, 1, 0, 0, 1, 1, 0, 0, 1, 1, 1, 0, 0] (bodyOf Try.f3))) (pt := [0, 1, 1, 1, 0, 0, 1, 1, 0, 0, 1, 0, 1, 1, 1, 1]) (K := (g3_K307 p3 r5 u0)) (g3_l37_cs p3 r5 s9 u0) [(2, .b), (8, .i .i64)] (b := g3_l37_b p3 r5 s9 u0) (fun s w => by kernel_rfl) (by kernel_rfl) (by kernel_rfl) (by kernel_rfl) h
  have h3 : (g3_K307 p3 r5 u0) (.ret) (puts 171 ((g3_l37_cs p3 r5 s9 u0) ++ sputs [(2, .b), (8, .i .i64)] t)) w' = g3_l37_ret s9 t w' := by kernel_rfl
  exact h1.trans (h2.trans h3)

theorem g3_l8_x0_of {p3 : Option Addr} {r5 : Value × World} {u0 : Option Addr × Nat × Nat} {s t : Bool × Int} {w w' : World} (h : loopS (g3_l8_b u0 p3 r5) s w = some (.exit 0, t, w')) : g3_l8 p3 r5 u0 s w = g3_l8_x0 t w' := by
  have h1 : g3_l8 p3 r5 u0 s w = loopM Try.prog 171 3 g3_ann (cAt [1, 1, 1, 1, 0, 1, 0, 0] (bodyOf Try.f3)) [0, 1, 0, 1, 1, 1, 1] g3_K314 ((g3_l8_cs p3 r5 u0) ++ sputs [(2, .b), (36, .i .i64)] s) w := by kernel_rfl
  have h2 : loopM Try.prog 171 3 g3_ann (cAt [1, 1, 1, 1, 0, 1, 0, 0] (bodyOf Try.f3)) [0, 1, 0, 1, 1, 1, 1] g3_K314 ((g3_l8_cs p3 r5 u0) ++ sputs [(2, .b), (36, .i .i64)] s) w = g3_K314 (.exit 0) (puts 171 ((g3_l8_cs p3 r5 u0) ++ sputs [(2, .b), (36, .i .i64)] t)) w' :=
    loop_rule (P := Try.prog) (N := 171) (f := 3) (ann := g3_ann) (body := (cAt [1, 1, 1, 1, 0, 1, 0, 0] (bodyOf Try.f3))) (pt := [0, 1, 0, 1, 1, 1, 1]) (K := g3_K314) (g3_l8_cs p3 r5 u0) [(2, .b), (36, .i .i64)] (b := g3_l8_b u0 p3 r5) (fun s w => by kernel_rfl) (by kernel_rfl) (by kernel_rfl) (by kernel_rfl) h
  have h3 : g3_K314 (.exit 0) (puts 171 ((g3_l8_cs p3 r5 u0) ++ sputs [(2, .b), (36, .i .i64)] t)) w' = g3_l8_x0 t w' := by kernel_rfl
  exact h1.trans (h2.trans h3)

theorem g3_l8_ret_of {p3 : Option Addr} {r5 : Value × World} {u0 : Option Addr × Nat × Nat} {s t : Bool × Int} {w w' : World} (h : loopS (g3_l8_b u0 p3 r5) s w = some (.ret, t, w')) : g3_l8 p3 r5 u0 s w = g3_l8_ret t w' := by
  have h1 : g3_l8 p3 r5 u0 s w = loopM Try.prog 171 3 g3_ann (cAt [1, 1, 1, 1, 0, 1, 0, 0] (bodyOf Try.f3)) [0, 1, 0, 1, 1, 1, 1] g3_K314 ((g3_l8_cs p3 r5 u0) ++ sputs [(2, .b), (36, .i .i64)] s) w := by kernel_rfl
  have h2 : loopM Try.prog 171 3 g3_ann (cAt [1, 1, 1, 1, 0, 1, 0, 0] (bodyOf Try.f3)) [0, 1, 0, 1, 1, 1, 1] g3_K314 ((g3_l8_cs p3 r5 u0) ++ sputs [(2, .b), (36, .i .i64)] s) w = g3_K314 (.ret) (puts 171 ((g3_l8_cs p3 r5 u0) ++ sputs [(2, .b), (36, .i .i64)] t)) w' :=
    loop_rule (P := Try.prog) (N := 171) (f := 3) (ann := g3_ann) (body := (cAt [1, 1, 1, 1, 0, 1, 0, 0] (bodyOf Try.f3))) (pt := [0, 1, 0, 1, 1, 1, 1]) (K := g3_K314) (g3_l8_cs p3 r5 u0) [(2, .b), (36, .i .i64)] (b := g3_l8_b u0 p3 r5) (fun s w => by kernel_rfl) (by kernel_rfl) (by kernel_rfl) (by kernel_rfl) h
  have h3 : g3_K314 (.ret) (puts 171 ((g3_l8_cs p3 r5 u0) ++ sputs [(2, .b), (36, .i .i64)] t)) w' = g3_l8_ret t w' := by kernel_rfl
  exact h1.trans (h2.trans h3)

end Go.Proofs.Ytjcenfgmpbeldaa
