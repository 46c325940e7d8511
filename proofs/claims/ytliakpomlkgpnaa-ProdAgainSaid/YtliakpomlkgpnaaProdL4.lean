/-
  ProdL4: lemmas on what Go functions of this seat come to (for whatever arguments, as each says). No condition but those that stand in each lemma.
-/
import Derived.Test.YtliakpomlkgpnaaProdF0
namespace Go.Proofs.Ytliakpomlkgpnaa
open Go Go.Ev
set_option maxRecDepth 100000
set_option linter.unusedVariables false
/-! 4: penstock/penstocklaw09.ProdAgain (l: []api.Batch) -/
def g4_ann : List (List Nat × List Nat) := [([0, 1, 0, 1, 1, 1], [3, 4, 23, 24, 2, 25]), ([0, 1, 0, 1, 1, 1, 1, 0, 0, 1, 1, 0, 0, 1, 0, 1, 1, 1], [2, 3, 4, 6, 7, 10, 23, 24, 25, 11, 12])]

def g4_l8_cs (p5 : Option Addr) (q6 : Option Addr × Nat × Nat) : List (Nat × Value) := ([(3, .pointer p5), (4, .slice q6.1 q6.2.1 q6.2.2), (23, .slice q6.1 q6.2.1 q6.2.2), (24, .int .i64 (q6.2.1 : Int))] : List (Nat × Value))

def g4_l35_cs (s9 : Bool × Int) (p5 : Option Addr) (q6 : Option Addr × Nat × Nat) (w10 : World) (n31 : Int) (b34 : Bool) : List (Nat × Value) := ([(2, .bool s9.1), (3, .pointer p5), (4, .slice q6.1 q6.2.1 q6.2.2), (6, .pointer (some (⟨w10.heap.size, 0, none⟩))), (7, .int .i64 n31), (10, .bool b34), (23, .slice q6.1 q6.2.1 q6.2.2), (24, .int .i64 (q6.2.1 : Int)), (25, .int .i64 s9.2)] : List (Nat × Value))

/-- the round of a loop (penstock/penstocklaw09.ProdAgain) -/
noncomputable def g4_l35_b (q6 : Option Addr × Nat × Nat) (w10 : World) (s9 : Bool × Int) (p5 : Option Addr) (n31 : Int) (b34 : Bool) (s36 : Int × Int) (w37 : World) : Option (Exit × (Int × Int) × World) :=
if (decide ((s36.2 : Int) < (q6.2.1 : Int))) = true then
((idxA q6.1 q6.2.1 9 s36.2).bind fun a39 =>
(World.cell? (World.drew w37) (Addr.add a39 2)).bind fun v40 =>
(asI .u64 v40).bind fun n41 =>
(World.cell? (World.drew w37) (Addr.add (⟨w10.heap.size, 0, none⟩) 2)).bind fun v42 =>
(asI .u64 v42).bind fun n43 =>
if ((n41 : Int) == n43) = true then
((idxA q6.1 q6.2.1 9 s36.2).bind fun a44 =>
(World.cell? (World.drew w37) (Addr.add a44 6)).bind fun v45 =>
(asB v45).bind fun b46 =>
if (!b46) = true then
(some (.normal, ((IntKind.i64.wrap (s36.1 + 1)), (IntKind.i64.wrap (s36.2 + 1))), (World.drew w37)))
else
(some (.normal, (s36.1, (IntKind.i64.wrap (s36.2 + 1))), (World.drew w37))))
else
(some (.normal, (s36.1, (IntKind.i64.wrap (s36.2 + 1))), (World.drew w37))))
else
(some ((.exit 2), (s36.1, s36.2), w37))

noncomputable def g4_K47 (p5 : Option Addr) (q6 : Option Addr × Nat × Nat) : Exit → Env → World → Option (Exit × (Bool × Int) × World) :=
  fun e ρ w => ((List.map (·.1) (g4_l8_cs p5 q6)).mapM ρ).bind fun _ => loopK [(2, .b), (25, .i .i64)] e ρ w

noncomputable def g4_K48 (p5 : Option Addr) (q6 : Option Addr × Nat × Nat) : Exit → Env → World → Option (Exit × (Bool × Int) × World) :=
  seqK (ev Try.prog 143 4 g4_ann (cAt [1, 1, 1, 0, 1, 0, 0, 1, 1, 1] (bodyOf Try.f4)) [1, 1, 1, 0, 0, 1, 0, 1, 1, 1] (g4_K47 p5 q6)) (g4_K47 p5 q6)

noncomputable def g4_K49 (p5 : Option Addr) (q6 : Option Addr × Nat × Nat) : Exit → Env → World → Option (Exit × (Bool × Int) × World) :=
  blkK 1 (g4_K48 p5 q6)

noncomputable def g4_K50 (p5 : Option Addr) (q6 : Option Addr × Nat × Nat) : Exit → Env → World → Option (Exit × (Bool × Int) × World) :=
  seqK (ev Try.prog 143 4 g4_ann (cAt [1, 1, 1, 0, 1, 0, 0, 1, 1, 0, 0, 1, 1, 1, 1, 1] (bodyOf Try.f4)) [1, 1, 1, 1, 1, 0, 0, 1, 1, 0, 0, 1, 0, 1, 1, 1] (g4_K49 p5 q6)) (g4_K49 p5 q6)

noncomputable def g4_K51 (p5 : Option Addr) (q6 : Option Addr × Nat × Nat) : Exit → Env → World → Option (Exit × (Bool × Int) × World) :=
  blkK 2 (g4_K50 p5 q6)

/-- the loop, from a state on -/
noncomputable def g4_l35 (s9 : Bool × Int) (p5 : Option Addr) (q6 : Option Addr × Nat × Nat) (w10 : World) (n31 : Int) (b34 : Bool) (s : Int × Int) (w : World) : Option (Exit × (Bool × Int) × World) :=
  loopM Try.prog 143 4 g4_ann (cAt [1, 1, 1, 0, 1, 0, 0, 1, 1, 0, 0, 1, 1, 1, 1, 0, 1, 0, 0] (bodyOf Try.f4)) [0, 1, 0, 1, 1, 1, 1, 0, 0, 1, 1, 0, 0, 1, 0, 1, 1, 1] (g4_K51 p5 q6) ((g4_l35_cs s9 p5 q6 w10 n31 b34) ++ sputs [(11, .i .i64), (12, .i .i64)] s) w

/-- behind the loop, left by x2 -/
noncomputable def g4_l35_x2 (w10 : World) (p5 : Option Addr) (b34 : Bool) (s9 : Bool × Int) (n31 : Int) (t52 : Int × Int) (w53 : World) : Option (Exit × (Bool × Int) × World) :=
(ldN w53 (⟨w10.heap.size, 0, none⟩) 0 9).bind fun l54 =>
(asI .i64 (l54.getD 0 undef)).bind fun n55 =>
(asI .i64 (l54.getD 1 undef)).bind fun n56 =>
(asI .u64 (l54.getD 2 undef)).bind fun n57 =>
(asI .i64 (l54.getD 3 undef)).bind fun n58 =>
(asI .i64 (l54.getD 4 undef)).bind fun n59 =>
(asB (l54.getD 5 undef)).bind fun b60 =>
(asB (l54.getD 6 undef)).bind fun b61 =>
(asB (l54.getD 7 undef)).bind fun b62 =>
(asSl (l54.getD 8 undef)).bind fun q63 =>
(callF Try.prog 11 #[.pointer p5, .agg #[.int .i64 n55, .int .i64 n56, .int .u64 n57, .int .i64 n58, .int .i64 n59, .bool b60, .bool b61, .bool b62, .slice q63.1 q63.2.1 q63.2.2]] w53).bind fun r64 =>
(asTup 3 r64.1).bind fun l65 =>
(asI .i64 (l65.getD 0 undef)).bind fun n66 =>
(asB (l65.getD 1 undef)).bind fun b67 =>
(asI .i64 (l65.getD 2 undef)).bind fun n68 =>
if (!b34) = true then
(some (.ret, (false, s9.2), r64.2))
else
((World.cell? r64.2 (Addr.add (⟨w10.heap.size, 0, none⟩) 3)).bind fun v69 =>
(asI .i64 v69).bind fun n70 =>
if ((n31 : Int) == n70) = true then
(if (decide ((t52.1 : Int) < 5)) = true then
(if ((n68 : Int) != 0) = true then
(some (.ret, (false, s9.2), r64.2))
else
(if (!b67) = true then
(some (.ret, (false, s9.2), r64.2))
else
((World.cell? r64.2 (⟨w10.heap.size, 0, none⟩)).bind fun v71 =>
(asI .i64 v71).bind fun n72 =>
if ((n66 : Int) != n72) = true then
(some (.ret, (false, s9.2), r64.2))
else
((World.cell? r64.2 (Addr.add (⟨w10.heap.size, 0, none⟩) 3)).bind fun v73 =>
(asI .i64 v73).bind fun n74 =>
if (decide ((n31 : Int) > n74)) = true then
(if ((n68 : Int) != 10) = true then
(some (.ret, (false, s9.2), r64.2))
else
((World.cell? r64.2 (Addr.add (⟨w10.heap.size, 0, none⟩) 3)).bind fun v75 =>
(asI .i64 v75).bind fun n76 =>
if ((n31 : Int) == n76) = true then
(if (decide ((t52.1 : Int) ≥ 5)) = true then
(if ((n68 : Int) != 11) = true then
(some (.ret, (false, s9.2), r64.2))
else
((World.cell? (World.alloc r64.2 (.cells #[] 61)) (Addr.add (⟨w10.heap.size, 0, none⟩) 8)).bind fun v77 =>
(asSl v77).bind fun q78 =>
(callB Try.prog .append #[28, 28] 28 #[false, false] #[.slice (some (⟨r64.2.heap.size, 0, none⟩)) 0 0, .slice q78.1 q78.2.1 q78.2.2] (World.alloc r64.2 (.cells #[] 61))).bind fun r79 =>
(asSl r79.1).bind fun q80 =>
(callB Try.prog .append #[28, 28] 28 #[false, false] #[.slice q80.1 q80.2.1 q80.2.2, .slice (some (⟨r79.2.heap.size, 0, none⟩)) 1 1] (World.alloc r79.2 (.cells #[.slice none 0 0] 61))).bind fun r81 =>
(asSl r81.1).bind fun q82 =>
(st1 r81.2 (Addr.add (⟨w10.heap.size, 0, none⟩) 8) (.slice q82.1 q82.2.1 q82.2.2)).bind fun w83 =>
(ldN w83 (⟨w10.heap.size, 0, none⟩) 0 9).bind fun l84 =>
(asI .i64 (l84.getD 0 undef)).bind fun n85 =>
(asI .i64 (l84.getD 1 undef)).bind fun n86 =>
(asI .u64 (l84.getD 2 undef)).bind fun n87 =>
(asI .i64 (l84.getD 3 undef)).bind fun n88 =>
(asI .i64 (l84.getD 4 undef)).bind fun n89 =>
(asB (l84.getD 5 undef)).bind fun b90 =>
(asB (l84.getD 6 undef)).bind fun b91 =>
(asB (l84.getD 7 undef)).bind fun b92 =>
(asSl (l84.getD 8 undef)).bind fun q93 =>
(callF Try.prog 11 #[.pointer p5, .agg #[.int .i64 n85, .int .i64 n86, .int .u64 n87, .int .i64 n88, .int .i64 n89, .bool b90, .bool b91, .bool b92, .slice q93.1 q93.2.1 q93.2.2]] w83).bind fun r94 =>
(asTup 3 r94.1).bind fun l95 =>
(asI .i64 (l95.getD 0 undef)).bind fun n96 =>
(asB (l95.getD 1 undef)).bind fun b97 =>
(asI .i64 (l95.getD 2 undef)).bind fun n98 =>
if b97 = true then
(some (.ret, (false, s9.2), r94.2))
else
(some (.normal, (s9.1, (IntKind.i64.wrap (s9.2 + 1))), r94.2))))
else
((World.cell? (World.alloc r64.2 (.cells #[] 61)) (Addr.add (⟨w10.heap.size, 0, none⟩) 8)).bind fun v99 =>
(asSl v99).bind fun q100 =>
(callB Try.prog .append #[28, 28] 28 #[false, false] #[.slice (some (⟨r64.2.heap.size, 0, none⟩)) 0 0, .slice q100.1 q100.2.1 q100.2.2] (World.alloc r64.2 (.cells #[] 61))).bind fun r101 =>
(asSl r101.1).bind fun q102 =>
(callB Try.prog .append #[28, 28] 28 #[false, false] #[.slice q102.1 q102.2.1 q102.2.2, .slice (some (⟨r101.2.heap.size, 0, none⟩)) 1 1] (World.alloc r101.2 (.cells #[.slice none 0 0] 61))).bind fun r103 =>
(asSl r103.1).bind fun q104 =>
(st1 r103.2 (Addr.add (⟨w10.heap.size, 0, none⟩) 8) (.slice q104.1 q104.2.1 q104.2.2)).bind fun w105 =>
(ldN w105 (⟨w10.heap.size, 0, none⟩) 0 9).bind fun l106 =>
(asI .i64 (l106.getD 0 undef)).bind fun n107 =>
(asI .i64 (l106.getD 1 undef)).bind fun n108 =>
(asI .u64 (l106.getD 2 undef)).bind fun n109 =>
(asI .i64 (l106.getD 3 undef)).bind fun n110 =>
(asI .i64 (l106.getD 4 undef)).bind fun n111 =>
(asB (l106.getD 5 undef)).bind fun b112 =>
(asB (l106.getD 6 undef)).bind fun b113 =>
(asB (l106.getD 7 undef)).bind fun b114 =>
(asSl (l106.getD 8 undef)).bind fun q115 =>
(callF Try.prog 11 #[.pointer p5, .agg #[.int .i64 n107, .int .i64 n108, .int .u64 n109, .int .i64 n110, .int .i64 n111, .bool b112, .bool b113, .bool b114, .slice q115.1 q115.2.1 q115.2.2]] w105).bind fun r116 =>
(asTup 3 r116.1).bind fun l117 =>
(asI .i64 (l117.getD 0 undef)).bind fun n118 =>
(asB (l117.getD 1 undef)).bind fun b119 =>
(asI .i64 (l117.getD 2 undef)).bind fun n120 =>
if b119 = true then
(some (.ret, (false, s9.2), r116.2))
else
(some (.normal, (s9.1, (IntKind.i64.wrap (s9.2 + 1))), r116.2))))
else
((World.cell? (World.alloc r64.2 (.cells #[] 61)) (Addr.add (⟨w10.heap.size, 0, none⟩) 8)).bind fun v121 =>
(asSl v121).bind fun q122 =>
(callB Try.prog .append #[28, 28] 28 #[false, false] #[.slice (some (⟨r64.2.heap.size, 0, none⟩)) 0 0, .slice q122.1 q122.2.1 q122.2.2] (World.alloc r64.2 (.cells #[] 61))).bind fun r123 =>
(asSl r123.1).bind fun q124 =>
(callB Try.prog .append #[28, 28] 28 #[false, false] #[.slice q124.1 q124.2.1 q124.2.2, .slice (some (⟨r123.2.heap.size, 0, none⟩)) 1 1] (World.alloc r123.2 (.cells #[.slice none 0 0] 61))).bind fun r125 =>
(asSl r125.1).bind fun q126 =>
(st1 r125.2 (Addr.add (⟨w10.heap.size, 0, none⟩) 8) (.slice q126.1 q126.2.1 q126.2.2)).bind fun w127 =>
(ldN w127 (⟨w10.heap.size, 0, none⟩) 0 9).bind fun l128 =>
(asI .i64 (l128.getD 0 undef)).bind fun n129 =>
(asI .i64 (l128.getD 1 undef)).bind fun n130 =>
(asI .u64 (l128.getD 2 undef)).bind fun n131 =>
(asI .i64 (l128.getD 3 undef)).bind fun n132 =>
(asI .i64 (l128.getD 4 undef)).bind fun n133 =>
(asB (l128.getD 5 undef)).bind fun b134 =>
(asB (l128.getD 6 undef)).bind fun b135 =>
(asB (l128.getD 7 undef)).bind fun b136 =>
(asSl (l128.getD 8 undef)).bind fun q137 =>
(callF Try.prog 11 #[.pointer p5, .agg #[.int .i64 n129, .int .i64 n130, .int .u64 n131, .int .i64 n132, .int .i64 n133, .bool b134, .bool b135, .bool b136, .slice q137.1 q137.2.1 q137.2.2]] w127).bind fun r138 =>
(asTup 3 r138.1).bind fun l139 =>
(asI .i64 (l139.getD 0 undef)).bind fun n140 =>
(asB (l139.getD 1 undef)).bind fun b141 =>
(asI .i64 (l139.getD 2 undef)).bind fun n142 =>
if b141 = true then
(some (.ret, (false, s9.2), r138.2))
else
(some (.normal, (s9.1, (IntKind.i64.wrap (s9.2 + 1))), r138.2)))))
else
((World.cell? r64.2 (Addr.add (⟨w10.heap.size, 0, none⟩) 3)).bind fun v143 =>
(asI .i64 v143).bind fun n144 =>
if ((n31 : Int) == n144) = true then
(if (decide ((t52.1 : Int) ≥ 5)) = true then
(if ((n68 : Int) != 11) = true then
(some (.ret, (false, s9.2), r64.2))
else
((World.cell? (World.alloc r64.2 (.cells #[] 61)) (Addr.add (⟨w10.heap.size, 0, none⟩) 8)).bind fun v145 =>
(asSl v145).bind fun q146 =>
(callB Try.prog .append #[28, 28] 28 #[false, false] #[.slice (some (⟨r64.2.heap.size, 0, none⟩)) 0 0, .slice q146.1 q146.2.1 q146.2.2] (World.alloc r64.2 (.cells #[] 61))).bind fun r147 =>
(asSl r147.1).bind fun q148 =>
(callB Try.prog .append #[28, 28] 28 #[false, false] #[.slice q148.1 q148.2.1 q148.2.2, .slice (some (⟨r147.2.heap.size, 0, none⟩)) 1 1] (World.alloc r147.2 (.cells #[.slice none 0 0] 61))).bind fun r149 =>
(asSl r149.1).bind fun q150 =>
(st1 r149.2 (Addr.add (⟨w10.heap.size, 0, none⟩) 8) (.slice q150.1 q150.2.1 q150.2.2)).bind fun w151 =>
(ldN w151 (⟨w10.heap.size, 0, none⟩) 0 9).bind fun l152 =>
(asI .i64 (l152.getD 0 undef)).bind fun n153 =>
(asI .i64 (l152.getD 1 undef)).bind fun n154 =>
(asI .u64 (l152.getD 2 undef)).bind fun n155 =>
(asI .i64 (l152.getD 3 undef)).bind fun n156 =>
(asI .i64 (l152.getD 4 undef)).bind fun n157 =>
(asB (l152.getD 5 undef)).bind fun b158 =>
(asB (l152.getD 6 undef)).bind fun b159 =>
(asB (l152.getD 7 undef)).bind fun b160 =>
(asSl (l152.getD 8 undef)).bind fun q161 =>
(callF Try.prog 11 #[.pointer p5, .agg #[.int .i64 n153, .int .i64 n154, .int .u64 n155, .int .i64 n156, .int .i64 n157, .bool b158, .bool b159, .bool b160, .slice q161.1 q161.2.1 q161.2.2]] w151).bind fun r162 =>
(asTup 3 r162.1).bind fun l163 =>
(asI .i64 (l163.getD 0 undef)).bind fun n164 =>
(asB (l163.getD 1 undef)).bind fun b165 =>
(asI .i64 (l163.getD 2 undef)).bind fun n166 =>
if b165 = true then
(some (.ret, (false, s9.2), r162.2))
else
(some (.normal, (s9.1, (IntKind.i64.wrap (s9.2 + 1))), r162.2))))
else
((World.cell? (World.alloc r64.2 (.cells #[] 61)) (Addr.add (⟨w10.heap.size, 0, none⟩) 8)).bind fun v167 =>
(asSl v167).bind fun q168 =>
(callB Try.prog .append #[28, 28] 28 #[false, false] #[.slice (some (⟨r64.2.heap.size, 0, none⟩)) 0 0, .slice q168.1 q168.2.1 q168.2.2] (World.alloc r64.2 (.cells #[] 61))).bind fun r169 =>
(asSl r169.1).bind fun q170 =>
(callB Try.prog .append #[28, 28] 28 #[false, false] #[.slice q170.1 q170.2.1 q170.2.2, .slice (some (⟨r169.2.heap.size, 0, none⟩)) 1 1] (World.alloc r169.2 (.cells #[.slice none 0 0] 61))).bind fun r171 =>
(asSl r171.1).bind fun q172 =>
(st1 r171.2 (Addr.add (⟨w10.heap.size, 0, none⟩) 8) (.slice q172.1 q172.2.1 q172.2.2)).bind fun w173 =>
(ldN w173 (⟨w10.heap.size, 0, none⟩) 0 9).bind fun l174 =>
(asI .i64 (l174.getD 0 undef)).bind fun n175 =>
(asI .i64 (l174.getD 1 undef)).bind fun n176 =>
(asI .u64 (l174.getD 2 undef)).bind fun n177 =>
(asI .i64 (l174.getD 3 undef)).bind fun n178 =>
(asI .i64 (l174.getD 4 undef)).bind fun n179 =>
(asB (l174.getD 5 undef)).bind fun b180 =>
(asB (l174.getD 6 undef)).bind fun b181 =>
(asB (l174.getD 7 undef)).bind fun b182 =>
(asSl (l174.getD 8 undef)).bind fun q183 =>
(callF Try.prog 11 #[.pointer p5, .agg #[.int .i64 n175, .int .i64 n176, .int .u64 n177, .int .i64 n178, .int .i64 n179, .bool b180, .bool b181, .bool b182, .slice q183.1 q183.2.1 q183.2.2]] w173).bind fun r184 =>
(asTup 3 r184.1).bind fun l185 =>
(asI .i64 (l185.getD 0 undef)).bind fun n186 =>
(asB (l185.getD 1 undef)).bind fun b187 =>
(asI .i64 (l185.getD 2 undef)).bind fun n188 =>
if b187 = true then
(some (.ret, (false, s9.2), r184.2))
else
(some (.normal, (s9.1, (IntKind.i64.wrap (s9.2 + 1))), r184.2))))
else
((World.cell? (World.alloc r64.2 (.cells #[] 61)) (Addr.add (⟨w10.heap.size, 0, none⟩) 8)).bind fun v189 =>
(asSl v189).bind fun q190 =>
(callB Try.prog .append #[28, 28] 28 #[false, false] #[.slice (some (⟨r64.2.heap.size, 0, none⟩)) 0 0, .slice q190.1 q190.2.1 q190.2.2] (World.alloc r64.2 (.cells #[] 61))).bind fun r191 =>
(asSl r191.1).bind fun q192 =>
(callB Try.prog .append #[28, 28] 28 #[false, false] #[.slice q192.1 q192.2.1 q192.2.2, .slice (some (⟨r191.2.heap.size, 0, none⟩)) 1 1] (World.alloc r191.2 (.cells #[.slice none 0 0] 61))).bind fun r193 =>
(asSl r193.1).bind fun q194 =>
(st1 r193.2 (Addr.add (⟨w10.heap.size, 0, none⟩) 8) (.slice q194.1 q194.2.1 q194.2.2)).bind fun w195 =>
(ldN w195 (⟨w10.heap.size, 0, none⟩) 0 9).bind fun l196 =>
(asI .i64 (l196.getD 0 undef)).bind fun n197 =>
(asI .i64 (l196.getD 1 undef)).bind fun n198 =>
(asI .u64 (l196.getD 2 undef)).bind fun n199 =>
(asI .i64 (l196.getD 3 undef)).bind fun n200 =>
(asI .i64 (l196.getD 4 undef)).bind fun n201 =>
(asB (l196.getD 5 undef)).bind fun b202 =>
(asB (l196.getD 6 undef)).bind fun b203 =>
(asB (l196.getD 7 undef)).bind fun b204 =>
(asSl (l196.getD 8 undef)).bind fun q205 =>
(callF Try.prog 11 #[.pointer p5, .agg #[.int .i64 n197, .int .i64 n198, .int .u64 n199, .int .i64 n200, .int .i64 n201, .bool b202, .bool b203, .bool b204, .slice q205.1 q205.2.1 q205.2.2]] w195).bind fun r206 =>
(asTup 3 r206.1).bind fun l207 =>
(asI .i64 (l207.getD 0 undef)).bind fun n208 =>
(asB (l207.getD 1 undef)).bind fun b209 =>
(asI .i64 (l207.getD 2 undef)).bind fun n210 =>
if b209 = true then
(some (.ret, (false, s9.2), r206.2))
else
(some (.normal, (s9.1, (IntKind.i64.wrap (s9.2 + 1))), r206.2))))))))
else
((World.cell? r64.2 (Addr.add (⟨w10.heap.size, 0, none⟩) 3)).bind fun v211 =>
(asI .i64 v211).bind fun n212 =>
if (decide ((n31 : Int) > n212)) = true then
(if ((n68 : Int) != 10) = true then
(some (.ret, (false, s9.2), r64.2))
else
((World.cell? r64.2 (Addr.add (⟨w10.heap.size, 0, none⟩) 3)).bind fun v213 =>
(asI .i64 v213).bind fun n214 =>
if ((n31 : Int) == n214) = true then
(if (decide ((t52.1 : Int) ≥ 5)) = true then
(if ((n68 : Int) != 11) = true then
(some (.ret, (false, s9.2), r64.2))
else
((World.cell? (World.alloc r64.2 (.cells #[] 61)) (Addr.add (⟨w10.heap.size, 0, none⟩) 8)).bind fun v215 =>
(asSl v215).bind fun q216 =>
(callB Try.prog .append #[28, 28] 28 #[false, false] #[.slice (some (⟨r64.2.heap.size, 0, none⟩)) 0 0, .slice q216.1 q216.2.1 q216.2.2] (World.alloc r64.2 (.cells #[] 61))).bind fun r217 =>
(asSl r217.1).bind fun q218 =>
(callB Try.prog .append #[28, 28] 28 #[false, false] #[.slice q218.1 q218.2.1 q218.2.2, .slice (some (⟨r217.2.heap.size, 0, none⟩)) 1 1] (World.alloc r217.2 (.cells #[.slice none 0 0] 61))).bind fun r219 =>
(asSl r219.1).bind fun q220 =>
(st1 r219.2 (Addr.add (⟨w10.heap.size, 0, none⟩) 8) (.slice q220.1 q220.2.1 q220.2.2)).bind fun w221 =>
(ldN w221 (⟨w10.heap.size, 0, none⟩) 0 9).bind fun l222 =>
(asI .i64 (l222.getD 0 undef)).bind fun n223 =>
(asI .i64 (l222.getD 1 undef)).bind fun n224 =>
(asI .u64 (l222.getD 2 undef)).bind fun n225 =>
(asI .i64 (l222.getD 3 undef)).bind fun n226 =>
(asI .i64 (l222.getD 4 undef)).bind fun n227 =>
(asB (l222.getD 5 undef)).bind fun b228 =>
(asB (l222.getD 6 undef)).bind fun b229 =>
(asB (l222.getD 7 undef)).bind fun b230 =>
(asSl (l222.getD 8 undef)).bind fun q231 =>
(callF Try.prog 11 #[.pointer p5, .agg #[.int .i64 n223, .int .i64 n224, .int .u64 n225, .int .i64 n226, .int .i64 n227, .bool b228, .bool b229, .bool b230, .slice q231.1 q231.2.1 q231.2.2]] w221).bind fun r232 =>
(asTup 3 r232.1).bind fun l233 =>
(asI .i64 (l233.getD 0 undef)).bind fun n234 =>
(asB (l233.getD 1 undef)).bind fun b235 =>
(asI .i64 (l233.getD 2 undef)).bind fun n236 =>
if b235 = true then
(some (.ret, (false, s9.2), r232.2))
else
(some (.normal, (s9.1, (IntKind.i64.wrap (s9.2 + 1))), r232.2))))
else
((World.cell? (World.alloc r64.2 (.cells #[] 61)) (Addr.add (⟨w10.heap.size, 0, none⟩) 8)).bind fun v237 =>
(asSl v237).bind fun q238 =>
(callB Try.prog .append #[28, 28] 28 #[false, false] #[.slice (some (⟨r64.2.heap.size, 0, none⟩)) 0 0, .slice q238.1 q238.2.1 q238.2.2] (World.alloc r64.2 (.cells #[] 61))).bind fun r239 =>
(asSl r239.1).bind fun q240 =>
(callB Try.prog .append #[28, 28] 28 #[false, false] #[.slice q240.1 q240.2.1 q240.2.2, .slice (some (⟨r239.2.heap.size, 0, none⟩)) 1 1] (World.alloc r239.2 (.cells #[.slice none 0 0] 61))).bind fun r241 =>
(asSl r241.1).bind fun q242 =>
(st1 r241.2 (Addr.add (⟨w10.heap.size, 0, none⟩) 8) (.slice q242.1 q242.2.1 q242.2.2)).bind fun w243 =>
(ldN w243 (⟨w10.heap.size, 0, none⟩) 0 9).bind fun l244 =>
(asI .i64 (l244.getD 0 undef)).bind fun n245 =>
(asI .i64 (l244.getD 1 undef)).bind fun n246 =>
(asI .u64 (l244.getD 2 undef)).bind fun n247 =>
(asI .i64 (l244.getD 3 undef)).bind fun n248 =>
(asI .i64 (l244.getD 4 undef)).bind fun n249 =>
(asB (l244.getD 5 undef)).bind fun b250 =>
(asB (l244.getD 6 undef)).bind fun b251 =>
(asB (l244.getD 7 undef)).bind fun b252 =>
(asSl (l244.getD 8 undef)).bind fun q253 =>
(callF Try.prog 11 #[.pointer p5, .agg #[.int .i64 n245, .int .i64 n246, .int .u64 n247, .int .i64 n248, .int .i64 n249, .bool b250, .bool b251, .bool b252, .slice q253.1 q253.2.1 q253.2.2]] w243).bind fun r254 =>
(asTup 3 r254.1).bind fun l255 =>
(asI .i64 (l255.getD 0 undef)).bind fun n256 =>
(asB (l255.getD 1 undef)).bind fun b257 =>
(asI .i64 (l255.getD 2 undef)).bind fun n258 =>
if b257 = true then
(some (.ret, (false, s9.2), r254.2))
else
(some (.normal, (s9.1, (IntKind.i64.wrap (s9.2 + 1))), r254.2))))
else
((World.cell? (World.alloc r64.2 (.cells #[] 61)) (Addr.add (⟨w10.heap.size, 0, none⟩) 8)).bind fun v259 =>
(asSl v259).bind fun q260 =>
(callB Try.prog .append #[28, 28] 28 #[false, false] #[.slice (some (⟨r64.2.heap.size, 0, none⟩)) 0 0, .slice q260.1 q260.2.1 q260.2.2] (World.alloc r64.2 (.cells #[] 61))).bind fun r261 =>
(asSl r261.1).bind fun q262 =>
(callB Try.prog .append #[28, 28] 28 #[false, false] #[.slice q262.1 q262.2.1 q262.2.2, .slice (some (⟨r261.2.heap.size, 0, none⟩)) 1 1] (World.alloc r261.2 (.cells #[.slice none 0 0] 61))).bind fun r263 =>
(asSl r263.1).bind fun q264 =>
(st1 r263.2 (Addr.add (⟨w10.heap.size, 0, none⟩) 8) (.slice q264.1 q264.2.1 q264.2.2)).bind fun w265 =>
(ldN w265 (⟨w10.heap.size, 0, none⟩) 0 9).bind fun l266 =>
(asI .i64 (l266.getD 0 undef)).bind fun n267 =>
(asI .i64 (l266.getD 1 undef)).bind fun n268 =>
(asI .u64 (l266.getD 2 undef)).bind fun n269 =>
(asI .i64 (l266.getD 3 undef)).bind fun n270 =>
(asI .i64 (l266.getD 4 undef)).bind fun n271 =>
(asB (l266.getD 5 undef)).bind fun b272 =>
(asB (l266.getD 6 undef)).bind fun b273 =>
(asB (l266.getD 7 undef)).bind fun b274 =>
(asSl (l266.getD 8 undef)).bind fun q275 =>
(callF Try.prog 11 #[.pointer p5, .agg #[.int .i64 n267, .int .i64 n268, .int .u64 n269, .int .i64 n270, .int .i64 n271, .bool b272, .bool b273, .bool b274, .slice q275.1 q275.2.1 q275.2.2]] w265).bind fun r276 =>
(asTup 3 r276.1).bind fun l277 =>
(asI .i64 (l277.getD 0 undef)).bind fun n278 =>
(asB (l277.getD 1 undef)).bind fun b279 =>
(asI .i64 (l277.getD 2 undef)).bind fun n280 =>
if b279 = true then
(some (.ret, (false, s9.2), r276.2))
else
(some (.normal, (s9.1, (IntKind.i64.wrap (s9.2 + 1))), r276.2)))))
else
((World.cell? r64.2 (Addr.add (⟨w10.heap.size, 0, none⟩) 3)).bind fun v281 =>
(asI .i64 v281).bind fun n282 =>
if ((n31 : Int) == n282) = true then
(if (decide ((t52.1 : Int) ≥ 5)) = true then
(if ((n68 : Int) != 11) = true then
(some (.ret, (false, s9.2), r64.2))
else
((World.cell? (World.alloc r64.2 (.cells #[] 61)) (Addr.add (⟨w10.heap.size, 0, none⟩) 8)).bind fun v283 =>
(asSl v283).bind fun q284 =>
(callB Try.prog .append #[28, 28] 28 #[false, false] #[.slice (some (⟨r64.2.heap.size, 0, none⟩)) 0 0, .slice q284.1 q284.2.1 q284.2.2] (World.alloc r64.2 (.cells #[] 61))).bind fun r285 =>
(asSl r285.1).bind fun q286 =>
(callB Try.prog .append #[28, 28] 28 #[false, false] #[.slice q286.1 q286.2.1 q286.2.2, .slice (some (⟨r285.2.heap.size, 0, none⟩)) 1 1] (World.alloc r285.2 (.cells #[.slice none 0 0] 61))).bind fun r287 =>
(asSl r287.1).bind fun q288 =>
(st1 r287.2 (Addr.add (⟨w10.heap.size, 0, none⟩) 8) (.slice q288.1 q288.2.1 q288.2.2)).bind fun w289 =>
(ldN w289 (⟨w10.heap.size, 0, none⟩) 0 9).bind fun l290 =>
(asI .i64 (l290.getD 0 undef)).bind fun n291 =>
(asI .i64 (l290.getD 1 undef)).bind fun n292 =>
(asI .u64 (l290.getD 2 undef)).bind fun n293 =>
(asI .i64 (l290.getD 3 undef)).bind fun n294 =>
(asI .i64 (l290.getD 4 undef)).bind fun n295 =>
(asB (l290.getD 5 undef)).bind fun b296 =>
(asB (l290.getD 6 undef)).bind fun b297 =>
(asB (l290.getD 7 undef)).bind fun b298 =>
(asSl (l290.getD 8 undef)).bind fun q299 =>
(callF Try.prog 11 #[.pointer p5, .agg #[.int .i64 n291, .int .i64 n292, .int .u64 n293, .int .i64 n294, .int .i64 n295, .bool b296, .bool b297, .bool b298, .slice q299.1 q299.2.1 q299.2.2]] w289).bind fun r300 =>
(asTup 3 r300.1).bind fun l301 =>
(asI .i64 (l301.getD 0 undef)).bind fun n302 =>
(asB (l301.getD 1 undef)).bind fun b303 =>
(asI .i64 (l301.getD 2 undef)).bind fun n304 =>
if b303 = true then
(some (.ret, (false, s9.2), r300.2))
else
(some (.normal, (s9.1, (IntKind.i64.wrap (s9.2 + 1))), r300.2))))
else
((World.cell? (World.alloc r64.2 (.cells #[] 61)) (Addr.add (⟨w10.heap.size, 0, none⟩) 8)).bind fun v305 =>
(asSl v305).bind fun q306 =>
(callB Try.prog .append #[28, 28] 28 #[false, false] #[.slice (some (⟨r64.2.heap.size, 0, none⟩)) 0 0, .slice q306.1 q306.2.1 q306.2.2] (World.alloc r64.2 (.cells #[] 61))).bind fun r307 =>
(asSl r307.1).bind fun q308 =>
(callB Try.prog .append #[28, 28] 28 #[false, false] #[.slice q308.1 q308.2.1 q308.2.2, .slice (some (⟨r307.2.heap.size, 0, none⟩)) 1 1] (World.alloc r307.2 (.cells #[.slice none 0 0] 61))).bind fun r309 =>
(asSl r309.1).bind fun q310 =>
(st1 r309.2 (Addr.add (⟨w10.heap.size, 0, none⟩) 8) (.slice q310.1 q310.2.1 q310.2.2)).bind fun w311 =>
(ldN w311 (⟨w10.heap.size, 0, none⟩) 0 9).bind fun l312 =>
(asI .i64 (l312.getD 0 undef)).bind fun n313 =>
(asI .i64 (l312.getD 1 undef)).bind fun n314 =>
(asI .u64 (l312.getD 2 undef)).bind fun n315 =>
(asI .i64 (l312.getD 3 undef)).bind fun n316 =>
(asI .i64 (l312.getD 4 undef)).bind fun n317 =>
(asB (l312.getD 5 undef)).bind fun b318 =>
(asB (l312.getD 6 undef)).bind fun b319 =>
(asB (l312.getD 7 undef)).bind fun b320 =>
(asSl (l312.getD 8 undef)).bind fun q321 =>
(callF Try.prog 11 #[.pointer p5, .agg #[.int .i64 n313, .int .i64 n314, .int .u64 n315, .int .i64 n316, .int .i64 n317, .bool b318, .bool b319, .bool b320, .slice q321.1 q321.2.1 q321.2.2]] w311).bind fun r322 =>
(asTup 3 r322.1).bind fun l323 =>
(asI .i64 (l323.getD 0 undef)).bind fun n324 =>
(asB (l323.getD 1 undef)).bind fun b325 =>
(asI .i64 (l323.getD 2 undef)).bind fun n326 =>
if b325 = true then
(some (.ret, (false, s9.2), r322.2))
else
(some (.normal, (s9.1, (IntKind.i64.wrap (s9.2 + 1))), r322.2))))
else
((World.cell? (World.alloc r64.2 (.cells #[] 61)) (Addr.add (⟨w10.heap.size, 0, none⟩) 8)).bind fun v327 =>
(asSl v327).bind fun q328 =>
(callB Try.prog .append #[28, 28] 28 #[false, false] #[.slice (some (⟨r64.2.heap.size, 0, none⟩)) 0 0, .slice q328.1 q328.2.1 q328.2.2] (World.alloc r64.2 (.cells #[] 61))).bind fun r329 =>
(asSl r329.1).bind fun q330 =>
(callB Try.prog .append #[28, 28] 28 #[false, false] #[.slice q330.1 q330.2.1 q330.2.2, .slice (some (⟨r329.2.heap.size, 0, none⟩)) 1 1] (World.alloc r329.2 (.cells #[.slice none 0 0] 61))).bind fun r331 =>
(asSl r331.1).bind fun q332 =>
(st1 r331.2 (Addr.add (⟨w10.heap.size, 0, none⟩) 8) (.slice q332.1 q332.2.1 q332.2.2)).bind fun w333 =>
(ldN w333 (⟨w10.heap.size, 0, none⟩) 0 9).bind fun l334 =>
(asI .i64 (l334.getD 0 undef)).bind fun n335 =>
(asI .i64 (l334.getD 1 undef)).bind fun n336 =>
(asI .u64 (l334.getD 2 undef)).bind fun n337 =>
(asI .i64 (l334.getD 3 undef)).bind fun n338 =>
(asI .i64 (l334.getD 4 undef)).bind fun n339 =>
(asB (l334.getD 5 undef)).bind fun b340 =>
(asB (l334.getD 6 undef)).bind fun b341 =>
(asB (l334.getD 7 undef)).bind fun b342 =>
(asSl (l334.getD 8 undef)).bind fun q343 =>
(callF Try.prog 11 #[.pointer p5, .agg #[.int .i64 n335, .int .i64 n336, .int .u64 n337, .int .i64 n338, .int .i64 n339, .bool b340, .bool b341, .bool b342, .slice q343.1 q343.2.1 q343.2.2]] w333).bind fun r344 =>
(asTup 3 r344.1).bind fun l345 =>
(asI .i64 (l345.getD 0 undef)).bind fun n346 =>
(asB (l345.getD 1 undef)).bind fun b347 =>
(asI .i64 (l345.getD 2 undef)).bind fun n348 =>
if b347 = true then
(some (.ret, (false, s9.2), r344.2))
else
(some (.normal, (s9.1, (IntKind.i64.wrap (s9.2 + 1))), r344.2))))))
else
((World.cell? r64.2 (Addr.add (⟨w10.heap.size, 0, none⟩) 3)).bind fun v349 =>
(asI .i64 v349).bind fun n350 =>
if (decide ((n31 : Int) > n350)) = true then
(if ((n68 : Int) != 10) = true then
(some (.ret, (false, s9.2), r64.2))
else
((World.cell? r64.2 (Addr.add (⟨w10.heap.size, 0, none⟩) 3)).bind fun v351 =>
(asI .i64 v351).bind fun n352 =>
if ((n31 : Int) == n352) = true then
(if (decide ((t52.1 : Int) ≥ 5)) = true then
(if ((n68 : Int) != 11) = true then
(some (.ret, (false, s9.2), r64.2))
else
((World.cell? (World.alloc r64.2 (.cells #[] 61)) (Addr.add (⟨w10.heap.size, 0, none⟩) 8)).bind fun v353 =>
(asSl v353).bind fun q354 =>
(callB Try.prog .append #[28, 28] 28 #[false, false] #[.slice (some (⟨r64.2.heap.size, 0, none⟩)) 0 0, .slice q354.1 q354.2.1 q354.2.2] (World.alloc r64.2 (.cells #[] 61))).bind fun r355 =>
(asSl r355.1).bind fun q356 =>
(callB Try.prog .append #[28, 28] 28 #[false, false] #[.slice q356.1 q356.2.1 q356.2.2, .slice (some (⟨r355.2.heap.size, 0, none⟩)) 1 1] (World.alloc r355.2 (.cells #[.slice none 0 0] 61))).bind fun r357 =>
(asSl r357.1).bind fun q358 =>
(st1 r357.2 (Addr.add (⟨w10.heap.size, 0, none⟩) 8) (.slice q358.1 q358.2.1 q358.2.2)).bind fun w359 =>
(ldN w359 (⟨w10.heap.size, 0, none⟩) 0 9).bind fun l360 =>
(asI .i64 (l360.getD 0 undef)).bind fun n361 =>
(asI .i64 (l360.getD 1 undef)).bind fun n362 =>
(asI .u64 (l360.getD 2 undef)).bind fun n363 =>
(asI .i64 (l360.getD 3 undef)).bind fun n364 =>
(asI .i64 (l360.getD 4 undef)).bind fun n365 =>
(asB (l360.getD 5 undef)).bind fun b366 =>
(asB (l360.getD 6 undef)).bind fun b367 =>
(asB (l360.getD 7 undef)).bind fun b368 =>
(asSl (l360.getD 8 undef)).bind fun q369 =>
(callF Try.prog 11 #[.pointer p5, .agg #[.int .i64 n361, .int .i64 n362, .int .u64 n363, .int .i64 n364, .int .i64 n365, .bool b366, .bool b367, .bool b368, .slice q369.1 q369.2.1 q369.2.2]] w359).bind fun r370 =>
(asTup 3 r370.1).bind fun l371 =>
(asI .i64 (l371.getD 0 undef)).bind fun n372 =>
(asB (l371.getD 1 undef)).bind fun b373 =>
(asI .i64 (l371.getD 2 undef)).bind fun n374 =>
if b373 = true then
(some (.ret, (false, s9.2), r370.2))
else
(some (.normal, (s9.1, (IntKind.i64.wrap (s9.2 + 1))), r370.2))))
else
((World.cell? (World.alloc r64.2 (.cells #[] 61)) (Addr.add (⟨w10.heap.size, 0, none⟩) 8)).bind fun v375 =>
(asSl v375).bind fun q376 =>
(callB Try.prog .append #[28, 28] 28 #[false, false] #[.slice (some (⟨r64.2.heap.size, 0, none⟩)) 0 0, .slice q376.1 q376.2.1 q376.2.2] (World.alloc r64.2 (.cells #[] 61))).bind fun r377 =>
(asSl r377.1).bind fun q378 =>
(callB Try.prog .append #[28, 28] 28 #[false, false] #[.slice q378.1 q378.2.1 q378.2.2, .slice (some (⟨r377.2.heap.size, 0, none⟩)) 1 1] (World.alloc r377.2 (.cells #[.slice none 0 0] 61))).bind fun r379 =>
(asSl r379.1).bind fun q380 =>
(st1 r379.2 (Addr.add (⟨w10.heap.size, 0, none⟩) 8) (.slice q380.1 q380.2.1 q380.2.2)).bind fun w381 =>
(ldN w381 (⟨w10.heap.size, 0, none⟩) 0 9).bind fun l382 =>
(asI .i64 (l382.getD 0 undef)).bind fun n383 =>
(asI .i64 (l382.getD 1 undef)).bind fun n384 =>
(asI .u64 (l382.getD 2 undef)).bind fun n385 =>
(asI .i64 (l382.getD 3 undef)).bind fun n386 =>
(asI .i64 (l382.getD 4 undef)).bind fun n387 =>
(asB (l382.getD 5 undef)).bind fun b388 =>
(asB (l382.getD 6 undef)).bind fun b389 =>
(asB (l382.getD 7 undef)).bind fun b390 =>
(asSl (l382.getD 8 undef)).bind fun q391 =>
(callF Try.prog 11 #[.pointer p5, .agg #[.int .i64 n383, .int .i64 n384, .int .u64 n385, .int .i64 n386, .int .i64 n387, .bool b388, .bool b389, .bool b390, .slice q391.1 q391.2.1 q391.2.2]] w381).bind fun r392 =>
(asTup 3 r392.1).bind fun l393 =>
(asI .i64 (l393.getD 0 undef)).bind fun n394 =>
(asB (l393.getD 1 undef)).bind fun b395 =>
(asI .i64 (l393.getD 2 undef)).bind fun n396 =>
if b395 = true then
(some (.ret, (false, s9.2), r392.2))
else
(some (.normal, (s9.1, (IntKind.i64.wrap (s9.2 + 1))), r392.2))))
else
((World.cell? (World.alloc r64.2 (.cells #[] 61)) (Addr.add (⟨w10.heap.size, 0, none⟩) 8)).bind fun v397 =>
(asSl v397).bind fun q398 =>
(callB Try.prog .append #[28, 28] 28 #[false, false] #[.slice (some (⟨r64.2.heap.size, 0, none⟩)) 0 0, .slice q398.1 q398.2.1 q398.2.2] (World.alloc r64.2 (.cells #[] 61))).bind fun r399 =>
(asSl r399.1).bind fun q400 =>
(callB Try.prog .append #[28, 28] 28 #[false, false] #[.slice q400.1 q400.2.1 q400.2.2, .slice (some (⟨r399.2.heap.size, 0, none⟩)) 1 1] (World.alloc r399.2 (.cells #[.slice none 0 0] 61))).bind fun r401 =>
(asSl r401.1).bind fun q402 =>
(st1 r401.2 (Addr.add (⟨w10.heap.size, 0, none⟩) 8) (.slice q402.1 q402.2.1 q402.2.2)).bind fun w403 =>
(ldN w403 (⟨w10.heap.size, 0, none⟩) 0 9).bind fun l404 =>
(asI .i64 (l404.getD 0 undef)).bind fun n405 =>
(asI .i64 (l404.getD 1 undef)).bind fun n406 =>
(asI .u64 (l404.getD 2 undef)).bind fun n407 =>
(asI .i64 (l404.getD 3 undef)).bind fun n408 =>
(asI .i64 (l404.getD 4 undef)).bind fun n409 =>
(asB (l404.getD 5 undef)).bind fun b410 =>
(asB (l404.getD 6 undef)).bind fun b411 =>
(asB (l404.getD 7 undef)).bind fun b412 =>
(asSl (l404.getD 8 undef)).bind fun q413 =>
(callF Try.prog 11 #[.pointer p5, .agg #[.int .i64 n405, .int .i64 n406, .int .u64 n407, .int .i64 n408, .int .i64 n409, .bool b410, .bool b411, .bool b412, .slice q413.1 q413.2.1 q413.2.2]] w403).bind fun r414 =>
(asTup 3 r414.1).bind fun l415 =>
(asI .i64 (l415.getD 0 undef)).bind fun n416 =>
(asB (l415.getD 1 undef)).bind fun b417 =>
(asI .i64 (l415.getD 2 undef)).bind fun n418 =>
if b417 = true then
(some (.ret, (false, s9.2), r414.2))
else
(some (.normal, (s9.1, (IntKind.i64.wrap (s9.2 + 1))), r414.2)))))
else
((World.cell? r64.2 (Addr.add (⟨w10.heap.size, 0, none⟩) 3)).bind fun v419 =>
(asI .i64 v419).bind fun n420 =>
if ((n31 : Int) == n420) = true then
(if (decide ((t52.1 : Int) ≥ 5)) = true then
(if ((n68 : Int) != 11) = true then
(some (.ret, (false, s9.2), r64.2))
else
((World.cell? (World.alloc r64.2 (.cells #[] 61)) (Addr.add (⟨w10.heap.size, 0, none⟩) 8)).bind fun v421 =>
(asSl v421).bind fun q422 =>
(callB Try.prog .append #[28, 28] 28 #[false, false] #[.slice (some (⟨r64.2.heap.size, 0, none⟩)) 0 0, .slice q422.1 q422.2.1 q422.2.2] (World.alloc r64.2 (.cells #[] 61))).bind fun r423 =>
(asSl r423.1).bind fun q424 =>
(callB Try.prog .append #[28, 28] 28 #[false, false] #[.slice q424.1 q424.2.1 q424.2.2, .slice (some (⟨r423.2.heap.size, 0, none⟩)) 1 1] (World.alloc r423.2 (.cells #[.slice none 0 0] 61))).bind fun r425 =>
(asSl r425.1).bind fun q426 =>
(st1 r425.2 (Addr.add (⟨w10.heap.size, 0, none⟩) 8) (.slice q426.1 q426.2.1 q426.2.2)).bind fun w427 =>
(ldN w427 (⟨w10.heap.size, 0, none⟩) 0 9).bind fun l428 =>
(asI .i64 (l428.getD 0 undef)).bind fun n429 =>
(asI .i64 (l428.getD 1 undef)).bind fun n430 =>
(asI .u64 (l428.getD 2 undef)).bind fun n431 =>
(asI .i64 (l428.getD 3 undef)).bind fun n432 =>
(asI .i64 (l428.getD 4 undef)).bind fun n433 =>
(asB (l428.getD 5 undef)).bind fun b434 =>
(asB (l428.getD 6 undef)).bind fun b435 =>
(asB (l428.getD 7 undef)).bind fun b436 =>
(asSl (l428.getD 8 undef)).bind fun q437 =>
(callF Try.prog 11 #[.pointer p5, .agg #[.int .i64 n429, .int .i64 n430, .int .u64 n431, .int .i64 n432, .int .i64 n433, .bool b434, .bool b435, .bool b436, .slice q437.1 q437.2.1 q437.2.2]] w427).bind fun r438 =>
(asTup 3 r438.1).bind fun l439 =>
(asI .i64 (l439.getD 0 undef)).bind fun n440 =>
(asB (l439.getD 1 undef)).bind fun b441 =>
(asI .i64 (l439.getD 2 undef)).bind fun n442 =>
if b441 = true then
(some (.ret, (false, s9.2), r438.2))
else
(some (.normal, (s9.1, (IntKind.i64.wrap (s9.2 + 1))), r438.2))))
else
((World.cell? (World.alloc r64.2 (.cells #[] 61)) (Addr.add (⟨w10.heap.size, 0, none⟩) 8)).bind fun v443 =>
(asSl v443).bind fun q444 =>
(callB Try.prog .append #[28, 28] 28 #[false, false] #[.slice (some (⟨r64.2.heap.size, 0, none⟩)) 0 0, .slice q444.1 q444.2.1 q444.2.2] (World.alloc r64.2 (.cells #[] 61))).bind fun r445 =>
(asSl r445.1).bind fun q446 =>
(callB Try.prog .append #[28, 28] 28 #[false, false] #[.slice q446.1 q446.2.1 q446.2.2, .slice (some (⟨r445.2.heap.size, 0, none⟩)) 1 1] (World.alloc r445.2 (.cells #[.slice none 0 0] 61))).bind fun r447 =>
(asSl r447.1).bind fun q448 =>
(st1 r447.2 (Addr.add (⟨w10.heap.size, 0, none⟩) 8) (.slice q448.1 q448.2.1 q448.2.2)).bind fun w449 =>
(ldN w449 (⟨w10.heap.size, 0, none⟩) 0 9).bind fun l450 =>
(asI .i64 (l450.getD 0 undef)).bind fun n451 =>
(asI .i64 (l450.getD 1 undef)).bind fun n452 =>
(asI .u64 (l450.getD 2 undef)).bind fun n453 =>
(asI .i64 (l450.getD 3 undef)).bind fun n454 =>
(asI .i64 (l450.getD 4 undef)).bind fun n455 =>
(asB (l450.getD 5 undef)).bind fun b456 =>
(asB (l450.getD 6 undef)).bind fun b457 =>
(asB (l450.getD 7 undef)).bind fun b458 =>
(asSl (l450.getD 8 undef)).bind fun q459 =>
(callF Try.prog 11 #[.pointer p5, .agg #[.int .i64 n451, .int .i64 n452, .int .u64 n453, .int .i64 n454, .int .i64 n455, .bool b456, .bool b457, .bool b458, .slice q459.1 q459.2.1 q459.2.2]] w449).bind fun r460 =>
(asTup 3 r460.1).bind fun l461 =>
(asI .i64 (l461.getD 0 undef)).bind fun n462 =>
(asB (l461.getD 1 undef)).bind fun b463 =>
(asI .i64 (l461.getD 2 undef)).bind fun n464 =>
if b463 = true then
(some (.ret, (false, s9.2), r460.2))
else
(some (.normal, (s9.1, (IntKind.i64.wrap (s9.2 + 1))), r460.2))))
else
((World.cell? (World.alloc r64.2 (.cells #[] 61)) (Addr.add (⟨w10.heap.size, 0, none⟩) 8)).bind fun v465 =>
(asSl v465).bind fun q466 =>
(callB Try.prog .append #[28, 28] 28 #[false, false] #[.slice (some (⟨r64.2.heap.size, 0, none⟩)) 0 0, .slice q466.1 q466.2.1 q466.2.2] (World.alloc r64.2 (.cells #[] 61))).bind fun r467 =>
(asSl r467.1).bind fun q468 =>
(callB Try.prog .append #[28, 28] 28 #[false, false] #[.slice q468.1 q468.2.1 q468.2.2, .slice (some (⟨r467.2.heap.size, 0, none⟩)) 1 1] (World.alloc r467.2 (.cells #[.slice none 0 0] 61))).bind fun r469 =>
(asSl r469.1).bind fun q470 =>
(st1 r469.2 (Addr.add (⟨w10.heap.size, 0, none⟩) 8) (.slice q470.1 q470.2.1 q470.2.2)).bind fun w471 =>
(ldN w471 (⟨w10.heap.size, 0, none⟩) 0 9).bind fun l472 =>
(asI .i64 (l472.getD 0 undef)).bind fun n473 =>
(asI .i64 (l472.getD 1 undef)).bind fun n474 =>
(asI .u64 (l472.getD 2 undef)).bind fun n475 =>
(asI .i64 (l472.getD 3 undef)).bind fun n476 =>
(asI .i64 (l472.getD 4 undef)).bind fun n477 =>
(asB (l472.getD 5 undef)).bind fun b478 =>
(asB (l472.getD 6 undef)).bind fun b479 =>
(asB (l472.getD 7 undef)).bind fun b480 =>
(asSl (l472.getD 8 undef)).bind fun q481 =>
(callF Try.prog 11 #[.pointer p5, .agg #[.int .i64 n473, .int .i64 n474, .int .u64 n475, .int .i64 n476, .int .i64 n477, .bool b478, .bool b479, .bool b480, .slice q481.1 q481.2.1 q481.2.2]] w471).bind fun r482 =>
(asTup 3 r482.1).bind fun l483 =>
(asI .i64 (l483.getD 0 undef)).bind fun n484 =>
(asB (l483.getD 1 undef)).bind fun b485 =>
(asI .i64 (l483.getD 2 undef)).bind fun n486 =>
if b485 = true then
(some (.ret, (false, s9.2), r482.2))
else
(some (.normal, (s9.1, (IntKind.i64.wrap (s9.2 + 1))), r482.2))))))

/-- the round of a loop (penstock/penstocklaw09.ProdAgain) -/
noncomputable def g4_l8_b (q6 : Option Addr × Nat × Nat) (p5 : Option Addr) (s9 : Bool × Int) (w10 : World) : Option (Exit × (Bool × Int) × World) :=
if (decide ((s9.2 : Int) < (q6.2.1 : Int))) = true then
((idxA q6.1 q6.2.1 9 s9.2).bind fun a11 =>
(ldN w10 a11 0 9).bind fun l12 =>
(asI .i64 (l12.getD 0 undef)).bind fun n13 =>
(asI .i64 (l12.getD 1 undef)).bind fun n14 =>
(asI .u64 (l12.getD 2 undef)).bind fun n15 =>
(asI .i64 (l12.getD 3 undef)).bind fun n16 =>
(asI .i64 (l12.getD 4 undef)).bind fun n17 =>
(asB (l12.getD 5 undef)).bind fun b18 =>
(asB (l12.getD 6 undef)).bind fun b19 =>
(asB (l12.getD 7 undef)).bind fun b20 =>
(asSl (l12.getD 8 undef)).bind fun q21 =>
(stL (World.alloc w10 (.cells #[.int .i64 0, .int .i64 0, .int .u64 0, .int .i64 0, .int .i64 0, .bool false, .bool false, .bool false, .slice none 0 0] 30)) (⟨w10.heap.size, 0, none⟩) [.int .i64 n13, .int .i64 n14, .int .u64 n15, .int .i64 n16, .int .i64 n17, .bool b18, .bool b19, .bool b20, .slice q21.1 q21.2.1 q21.2.2] 0).bind fun w22 =>
(World.cell? w22 (Addr.add (⟨w10.heap.size, 0, none⟩) 2)).bind fun v23 =>
(asI .u64 v23).bind fun n24 =>
if ((n24 : Int) == 0) = true then
(some (.normal, (s9.1, (IntKind.i64.wrap (s9.2 + 1))), w22))
else
((World.cell? w22 (Addr.add (⟨w10.heap.size, 0, none⟩) 6)).bind fun v25 =>
(asB v25).bind fun b26 =>
if b26 = true then
(some (.normal, (s9.1, (IntKind.i64.wrap (s9.2 + 1))), w22))
else
((World.cell? w22 (Addr.add (⟨w10.heap.size, 0, none⟩) 2)).bind fun v27 =>
(asI .u64 v27).bind fun n28 =>
(callF Try.prog 10 #[.pointer p5, .int .u64 n28] w22).bind fun r29 =>
(asTup 4 r29.1).bind fun l30 =>
(asI .i64 (l30.getD 0 undef)).bind fun n31 =>
(asI .i64 (l30.getD 1 undef)).bind fun n32 =>
(asI .i64 (l30.getD 2 undef)).bind fun n33 =>
(asB (l30.getD 3 undef)).bind fun b34 =>
g4_l35 s9 p5 q6 w10 n31 b34 (0, (IntKind.i64.wrap (s9.2 + 1))) r29.2)))
else
(some ((.exit 0), (s9.1, s9.2), w10))

noncomputable def g4_K487  : Exit → Env → World → Option (Value × World) :=
  retK Try.prog Try.f4.results.toList

noncomputable def g4_K488  : Exit → Env → World → Option (Value × World) :=
  seqK (ev Try.prog 143 4 g4_ann (cAt [1, 1, 1, 1] (bodyOf Try.f4)) [1, 1, 1, 1] g4_K487) g4_K487

noncomputable def g4_K489  : Exit → Env → World → Option (Value × World) :=
  blkK 0 g4_K488

/-- the loop, from a state on -/
noncomputable def g4_l8 (p5 : Option Addr) (q6 : Option Addr × Nat × Nat) (s : Bool × Int) (w : World) : Option (Value × World) :=
  loopM Try.prog 143 4 g4_ann (cAt [1, 1, 1, 0, 1, 0, 0] (bodyOf Try.f4)) [0, 1, 0, 1, 1, 1] g4_K489 ((g4_l8_cs p5 q6) ++ sputs [(2, .b), (25, .i .i64)] s) w

/-- behind the loop, left by x0 -/
noncomputable def g4_l8_x0  (t490 : Bool × Int) (w491 : World) : Option (Value × World) :=
some (.bool true, w491)

/-- behind the loop, left by ret -/
noncomputable def g4_l8_ret  (t492 : Bool × Int) (w493 : World) : Option (Value × World) :=
some (.bool t492.1, w493)

noncomputable def g4 (u0 : Option Addr × Nat × Nat) (w0 : World) : Option (Value × World) :=
(callF Try.prog 8 #[] w0).bind fun r1 =>
(asB r1.1).bind fun b2 =>
if (!b2) = true then
(some (.bool false, r1.2))
else
((callF Try.prog 9 #[.slice u0.1 u0.2.1 u0.2.2] r1.2).bind fun r3 =>
(asTup 2 r3.1).bind fun l4 =>
(asP (l4.getD 0 undef)).bind fun p5 =>
(asSl (l4.getD 1 undef)).bind fun q6 =>
g4_l8 p5 q6 (false, 0) r3.2)

theorem g4_eq (u0 : Option Addr × Nat × Nat) (w0 : World) : evFn Try.prog 4 g4_ann #[.slice u0.1 u0.2.1 u0.2.2] w0 = g4 u0 w0 := by kernel_rfl

theorem g4_call {u0 : Option Addr × Nat × Nat} {w0 : World} {r : Value × World} (h : g4 u0 w0 = some r) : callF Try.prog 4 #[.slice u0.1 u0.2.1 u0.2.2] w0 = some r :=
  callF_of_evFn (ann := g4_ann) Try.call4 (by kernel_rfl) ((g4_eq u0 w0).trans h)

theorem g4_l35_x2_of {s9 : Bool × Int} {p5 : Option Addr} {q6 : Option Addr × Nat × Nat} {w10 : World} {n31 : Int} {b34 : Bool} {s t : Int × Int} {w w' : World} (h : loopS (g4_l35_b q6 w10 s9 p5 n31 b34) s w = some (.exit 2, t, w')) : g4_l35 s9 p5 q6 w10 n31 b34 s w = g4_l35_x2 w10 p5 b34 s9 n31 t w' := by
  have h1 : g4_l35 s9 p5 q6 w10 n31 b34 s w = loopM Try.prog 143 4 g4_ann (cAt [1, 1, 1, 0, 1, 0, 0, 1, 1, 0, 0, 1, 1, 1, 1, 0, 1, 0, 0] (bodyOf Try.f4)) [0, 1, 0, 1, 1, 1, 1, 0, 0, 1, 1, 0, 0, 1, 0, 1, 1, 1] (g4_K51 p5 q6) ((g4_l35_cs s9 p5 q6 w10 n31 b34) ++ sputs [(11, .i .i64), (12, .i .i64)] s) w := by kernel_rfl
  have h2 : loopM Try.prog 143 4 g4_ann (cAt [1, 1, 1, 0, 1, 0, 0, 1, 1, 0, 0, 1, 1, 1, 1, 0, 1, 0, 0] (bodyOf Try.f4)) [0, 1, 0, 1, 1, 1, 1, 0, 0, 1, 1, 0, 0, 1, 0, 1, 1, 1] (g4_K51 p5 q6) ((g4_l35_cs s9 p5 q6 w10 n31 b34) ++ sputs [(11, .i .i64), (12, .i .i64)] s) w = (g4_K51 p5 q6) (.exit 2) (puts 143 ((g4_l35_cs s9 p5 q6 w10 n31 b34) ++ sputs [(11, .i .i64), (12, .i .i64)] t)) w' :=
    loop_rule (P := Try.prog) (N := 143) (f := 4) (ann := g4_ann) (body := (cAt [1, 1, 1, 0, 1, 0, 0, 1, 1, 0, 0, 1, 1, 1, 1, 0, 1, 0, 0] (bodyOf Try.f4))) (pt := [0, 1, 0, 1, 1, 1, 1, 0, 0, 1, 1, 0, 0, 1, 0, 1, 1, 1]) (K := (g4_K51 p5 q6)) (g4_l35_cs s9 p5 q6 w10 n31 b34) [(11, .i .i64), (12, .i .i64)] (b := g4_l35_b q6 w10 s9 p5 n31 b34) (fun s w => by kernel_rfl) (by kernel_rfl) (by kernel_rfl) (by kernel_rfl) h
  have h3 : (g4_K51 p5 q6) (.exit 2) (puts 143 ((g4_l35_cs s9 p5 q6 w10 n31 b34) ++ sputs [(11, .i .i64), (12, .i .i64)] t)) w' = g4_l35_x2 w10 p5 b34 s9 n31 t w' := by kernel_rfl
  exact h1.trans (h2.trans h3)

theorem g4_l8_x0_of {p5 : Option Addr} {q6 : Option Addr × Nat × Nat} {s t : Bool × Int} {w w' : World} (h : loopS (g4_l8_b q6 p5) s w = some (.exit 0, t, w')) : g4_l8 p5 q6 s w = g4_l8_x0 t w' := by
  have h1 : g4_l8 p5 q6 s w = loopM Try.prog 143 4 g4_ann (cAt [1, 1, 1, 0, 1, 0, 0] (bodyOf Try.f4)) [0, 1, 0, 1, 1, 1] g4_K489 ((g4_l8_cs p5 q6) ++ sputs [(2, .b), (25, .i .i64)] s) w := by kernel_rfl
  have h2 : loopM Try.prog 143 4 g4_ann (cAt [1, 1, 1, 0, 1, 0, 0] (bodyOf Try.f4)) [0, 1, 0, 1, 1, 1] g4_K489 ((g4_l8_cs p5 q6) ++ sputs [(2, .b), (25, .i .i64)] s) w = g4_K489 (.exit 0) (puts 143 ((g4_l8_cs p5 q6) ++ sputs [(2, .b), (25, .i .i64)] t)) w' :=
    loop_rule (P := Try.prog) (N := 143) (f := 4) (ann := g4_ann) (body := (cAt [1, 1, 1, 0, 1, 0, 0] (bodyOf Try.f4))) (pt := [0, 1, 0, 1, 1, 1]) (K := g4_K489) (g4_l8_cs p5 q6) [(2, .b), (25, .i .i64)] (b := g4_l8_b q6 p5) (fun s w => by kernel_rfl) (by kernel_rfl) (by kernel_rfl) (by kernel_rfl) h
  have h3 : g4_K489 (.exit 0) (puts 143 ((g4_l8_cs p5 q6) ++ sputs [(2, .b), (25, .i .i64)] t)) w' = g4_l8_x0 t w' := by kernel_rfl
  exact h1.trans (h2.trans h3)

theorem g4_l8_ret_of {p5 : Option Addr} {q6 : Option Addr × Nat × Nat} {s t : Bool × Int} {w w' : World} (h : loopS (g4_l8_b q6 p5) s w = some (.ret, t, w')) : g4_l8 p5 q6 s w = g4_l8_ret t w' := by
  have h1 : g4_l8 p5 q6 s w = loopM Try.prog 143 4 g4_ann (cAt [1, 1, 1, 0, 1, 0, 0] (bodyOf Try.f4)) [0, 1, 0, 1, 1, 1] g4_K489 ((g4_l8_cs p5 q6) ++ sputs [(2, .b), (25, .i .i64)] s) w := by kernel_rfl
  have h2 : loopM Try.prog 143 4 g4_ann (cAt [1, 1, 1, 0, 1, 0, 0] (bodyOf Try.f4)) [0, 1, 0, 1, 1, 1] g4_K489 ((g4_l8_cs p5 q6) ++ sputs [(2, .b), (25, .i .i64)] s) w = g4_K489 (.ret) (puts 143 ((g4_l8_cs p5 q6) ++ sputs [(2, .b), (25, .i .i64)] t)) w' :=
    loop_rule (P := Try.prog) (N := 143) (f := 4) (ann := g4_ann) (body := (cAt [1, 1, 1, 0, 1, 0, 0] (bodyOf Try.f4))) (pt := [0, 1, 0, 1, 1, 1]) (K := g4_K489) (g4_l8_cs p5 q6) [(2, .b), (25, .i .i64)] (b := g4_l8_b q6 p5) (fun s w => by kernel_rfl) (by kernel_rfl) (by kernel_rfl) (by kernel_rfl) h
  have h3 : g4_K489 (.ret) (puts 143 ((g4_l8_cs p5 q6) ++ sputs [(2, .b), (25, .i .i64)] t)) w' = g4_l8_ret t w' := by kernel_rfl
  exact h1.trans (h2.trans h3)

end Go.Proofs.Ytliakpomlkgpnaa
