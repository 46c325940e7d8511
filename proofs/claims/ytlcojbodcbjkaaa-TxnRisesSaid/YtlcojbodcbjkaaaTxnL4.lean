/-
  TxnL4: lemmas on what Go functions of this seat come to (for whatever arguments, as each says). No condition but those that stand in each lemma.
-/
import Derived.Test.YtlcojbodcbjkaaaTxnF0
namespace Go.Proofs.Ytlcojbodcbjkaaa
open Go Go.Ev
set_option maxRecDepth 100000
set_option linter.unusedVariables false
/-! 4: penstock/penstocklaw15.TxnRises (script: []penstocklaw15.Op) -/
def g4_ann : List (List Nat × List Nat) := [([0, 1, 0, 1, 1, 1, 1, 1], [3, 5, 19, 20, 2, 4, 21])]

def g4_l17_cs (p2 : Option Addr) (r5 : Value × World) (u0 : Option Addr × Nat × Nat) : List (Nat × Value) := ([(3, .pointer p2), (5, .pointer (some (⟨r5.2.heap.size, 0, none⟩))), (19, .slice u0.1 u0.2.1 u0.2.2), (20, .int .i64 (u0.2.1 : Int))] : List (Nat × Value))

/-- the round of a loop (penstock/penstocklaw15.TxnRises) -/
noncomputable def g4_l17_b (u0 : Option Addr × Nat × Nat) (p2 : Option Addr) (r5 : Value × World) (s18 : Bool × Int × Int) (w19 : World) : Option (Exit × (Bool × Int × Int) × World) :=
if (decide ((s18.2.2 : Int) < (u0.2.1 : Int))) = true then
((idxA u0.1 u0.2.1 15 s18.2.2).bind fun a20 =>
(ldN w19 a20 0 15).bind fun l21 =>
(asI .i64 (l21.getD 0 undef)).bind fun n22 =>
(asI .i64 (l21.getD 1 undef)).bind fun n23 =>
(asI .i64 (l21.getD 2 undef)).bind fun n24 =>
(asI .i64 (l21.getD 3 undef)).bind fun n25 =>
(asI .i64 (l21.getD 4 undef)).bind fun n26 =>
(asI .u64 (l21.getD 5 undef)).bind fun n27 =>
(asB (l21.getD 6 undef)).bind fun b28 =>
(asB (l21.getD 7 undef)).bind fun b29 =>
(asI .i64 (l21.getD 8 undef)).bind fun n30 =>
(asI .i64 (l21.getD 9 undef)).bind fun n31 =>
(asI .i64 (l21.getD 10 undef)).bind fun n32 =>
(asI .u64 (l21.getD 11 undef)).bind fun n33 =>
(asI .i64 (l21.getD 12 undef)).bind fun n34 =>
(asSl (l21.getD 13 undef)).bind fun q35 =>
(asB (l21.getD 14 undef)).bind fun b36 =>
(stL (World.alloc w19 (.cells #[.int .i64 0, .int .i64 0, .int .i64 0, .int .i64 0, .int .i64 0, .int .u64 0, .bool false, .bool false, .int .i64 0, .int .i64 0, .int .i64 0, .int .u64 0, .int .i64 0, .slice none 0 0, .bool false] 32)) (⟨w19.heap.size, 0, none⟩) [.int .i64 n22, .int .i64 n23, .int .i64 n24, .int .i64 n25, .int .i64 n26, .int .u64 n27, .bool b28, .bool b29, .int .i64 n30, .int .i64 n31, .int .i64 n32, .int .u64 n33, .int .i64 n34, .slice q35.1 q35.2.1 q35.2.2, .bool b36] 0).bind fun w37 =>
(ldN w37 (⟨w19.heap.size, 0, none⟩) 0 15).bind fun l39 =>
(asI .i64 (l39.getD 0 undef)).bind fun n40 =>
(asI .i64 (l39.getD 1 undef)).bind fun n41 =>
(asI .i64 (l39.getD 2 undef)).bind fun n42 =>
(asI .i64 (l39.getD 3 undef)).bind fun n43 =>
(asI .i64 (l39.getD 4 undef)).bind fun n44 =>
(asI .u64 (l39.getD 5 undef)).bind fun n45 =>
(asB (l39.getD 6 undef)).bind fun b46 =>
(asB (l39.getD 7 undef)).bind fun b47 =>
(asI .i64 (l39.getD 8 undef)).bind fun n48 =>
(asI .i64 (l39.getD 9 undef)).bind fun n49 =>
(asI .i64 (l39.getD 10 undef)).bind fun n50 =>
(asI .u64 (l39.getD 11 undef)).bind fun n51 =>
(asI .i64 (l39.getD 12 undef)).bind fun n52 =>
(asSl (l39.getD 13 undef)).bind fun q53 =>
(asB (l39.getD 14 undef)).bind fun b54 =>
(callF Try.prog 24 #[.pointer p2, .agg #[.int .i64 n40, .int .i64 n41, .int .i64 n42, .int .i64 n43, .int .i64 n44, .int .u64 n45, .bool b46, .bool b47, .int .i64 n48, .int .i64 n49, .int .i64 n50, .int .u64 n51, .int .i64 n52, .slice q53.1 q53.2.1 q53.2.2, .bool b54], .int .u64 s18.2.1] w37).bind fun r55 =>
(asB r55.1).bind fun b56 =>
if b56 = true then
((callF Try.prog 21 #[.pointer p2, .int .i64 0] r55.2).bind fun r57 =>
(Ev.asAgg 8 r57.1).bind fun l58 =>
(asI .i64 (l58.getD 0 undef)).bind fun n59 =>
(asI .i64 (l58.getD 1 undef)).bind fun n60 =>
(asI .u64 (l58.getD 2 undef)).bind fun n61 =>
(asI .i64 (l58.getD 3 undef)).bind fun n62 =>
(asSl (l58.getD 4 undef)).bind fun q63 =>
(asI .i64 (l58.getD 5 undef)).bind fun n64 =>
(asI .u64 (l58.getD 6 undef)).bind fun n65 =>
(asB (l58.getD 7 undef)).bind fun b66 =>
(stL (World.alloc r57.2 (.cells #[.int .i64 0, .int .i64 0, .int .u64 0, .int .i64 0, .slice none 0 0, .int .i64 0, .int .u64 0, .bool false] 46)) (⟨r57.2.heap.size, 0, none⟩) [.int .i64 n59, .int .i64 n60, .int .u64 n61, .int .i64 n62, .slice q63.1 q63.2.1 q63.2.2, .int .i64 n64, .int .u64 n65, .bool b66] 0).bind fun w67 =>
(World.cell? w67 (Addr.add (⟨r57.2.heap.size, 0, none⟩) 3)).bind fun v68 =>
(asI .i64 v68).bind fun n69 =>
if (((Int.tmod n69 2) : Int) != 0) = true then
(some (.ret, (false, (IntKind.u64.wrap (s18.2.1 + 1)), s18.2.2), w67))
else
((World.cell? w67 (Addr.add (⟨r57.2.heap.size, 0, none⟩) 3)).bind fun v70 =>
(asI .i64 v70).bind fun n71 =>
if (decide ((n71 : Int) < 0)) = true then
(some (.ret, (false, (IntKind.u64.wrap (s18.2.1 + 1)), s18.2.2), w67))
else
((World.cell? w67 (Addr.add (⟨r57.2.heap.size, 0, none⟩) 3)).bind fun v72 =>
(asI .i64 v72).bind fun n73 =>
if (decide ((n73 : Int) > 1000)) = true then
(some (.ret, (false, (IntKind.u64.wrap (s18.2.1 + 1)), s18.2.2), w67))
else
((World.cell? w67 (Addr.add (⟨r57.2.heap.size, 0, none⟩) 2)).bind fun v74 =>
(asI .u64 v74).bind fun n75 =>
(World.cell? w67 (Addr.add (⟨r5.2.heap.size, 0, none⟩) 2)).bind fun v76 =>
(asI .u64 v76).bind fun n77 =>
if ((n75 : Int) == n77) = true then
((World.cell? w67 (Addr.add (⟨r57.2.heap.size, 0, none⟩) 3)).bind fun v78 =>
(asI .i64 v78).bind fun n79 =>
(World.cell? w67 (Addr.add (⟨r5.2.heap.size, 0, none⟩) 3)).bind fun v80 =>
(asI .i64 v80).bind fun n81 =>
if (decide ((n79 : Int) < n81)) = true then
(some (.ret, (false, (IntKind.u64.wrap (s18.2.1 + 1)), s18.2.2), w67))
else
((World.cell? w67 (Addr.add (⟨r57.2.heap.size, 0, none⟩) 2)).bind fun v82 =>
(asI .u64 v82).bind fun n83 =>
(World.cell? w67 (Addr.add (⟨r5.2.heap.size, 0, none⟩) 2)).bind fun v84 =>
(asI .u64 v84).bind fun n85 =>
if ((n83 : Int) != n85) = true then
((World.cell? w67 (Addr.add (⟨r57.2.heap.size, 0, none⟩) 3)).bind fun v86 =>
(asI .i64 v86).bind fun n87 =>
if ((n87 : Int) != 0) = true then
(some (.ret, (false, (IntKind.u64.wrap (s18.2.1 + 1)), s18.2.2), w67))
else
((World.cell? w67 (⟨r57.2.heap.size, 0, none⟩)).bind fun v88 =>
(asI .i64 v88).bind fun n89 =>
if ((n89 : Int) == 2) = true then
((World.cell? w67 (Addr.add (⟨r57.2.heap.size, 0, none⟩) 4)).bind fun v90 =>
(asSl v90).bind fun q91 =>
if (!(true == (decide (((q91.2.1 : Int) : Int) > 0)))) = true then
(some (.ret, (false, (IntKind.u64.wrap (s18.2.1 + 1)), s18.2.2), w67))
else
((World.cell? w67 (⟨r57.2.heap.size, 0, none⟩)).bind fun v93 =>
(asI .i64 v93).bind fun n94 =>
if ((n94 : Int) == 3) = true then
((World.cell? w67 (Addr.add (⟨r57.2.heap.size, 0, none⟩) 5)).bind fun v95 =>
(asI .i64 v95).bind fun n96 =>
(World.cell? w67 (Addr.add (⟨r57.2.heap.size, 0, none⟩) 3)).bind fun v97 =>
(asI .i64 v97).bind fun n98 =>
if ((n96 : Int) != n98) = true then
(some (.ret, (false, (IntKind.u64.wrap (s18.2.1 + 1)), s18.2.2), w67))
else
((World.cell? w67 (Addr.add (⟨r57.2.heap.size, 0, none⟩) 6)).bind fun v99 =>
(asI .u64 v99).bind fun n100 =>
(World.cell? w67 (Addr.add (⟨r57.2.heap.size, 0, none⟩) 2)).bind fun v101 =>
(asI .u64 v101).bind fun n102 =>
if ((n100 : Int) != n102) = true then
(some (.ret, (false, (IntKind.u64.wrap (s18.2.1 + 1)), s18.2.2), w67))
else
((World.cell? w67 (Addr.add (⟨r57.2.heap.size, 0, none⟩) 1)).bind fun v103 =>
(asI .i64 v103).bind fun n104 =>
(World.cell? w67 (Addr.add (⟨r5.2.heap.size, 0, none⟩) 1)).bind fun v105 =>
(asI .i64 v105).bind fun n106 =>
if (decide ((n104 : Int) < n106)) = true then
(some (.ret, (false, (IntKind.u64.wrap (s18.2.1 + 1)), s18.2.2), w67))
else
((ldN w67 (⟨r57.2.heap.size, 0, none⟩) 0 8).bind fun l107 =>
(asI .i64 (l107.getD 0 undef)).bind fun n108 =>
(asI .i64 (l107.getD 1 undef)).bind fun n109 =>
(asI .u64 (l107.getD 2 undef)).bind fun n110 =>
(asI .i64 (l107.getD 3 undef)).bind fun n111 =>
(asSl (l107.getD 4 undef)).bind fun q112 =>
(asI .i64 (l107.getD 5 undef)).bind fun n113 =>
(asI .u64 (l107.getD 6 undef)).bind fun n114 =>
(asB (l107.getD 7 undef)).bind fun b115 =>
(stL w67 (⟨r5.2.heap.size, 0, none⟩) [.int .i64 n108, .int .i64 n109, .int .u64 n110, .int .i64 n111, .slice q112.1 q112.2.1 q112.2.2, .int .i64 n113, .int .u64 n114, .bool b115] 0).bind fun w116 =>
some (.normal, (s18.1, (IntKind.u64.wrap (s18.2.1 + 1)), (IntKind.i64.wrap (s18.2.2 + 1))), w116)))))
else
((World.cell? w67 (Addr.add (⟨r57.2.heap.size, 0, none⟩) 1)).bind fun v117 =>
(asI .i64 v117).bind fun n118 =>
(World.cell? w67 (Addr.add (⟨r5.2.heap.size, 0, none⟩) 1)).bind fun v119 =>
(asI .i64 v119).bind fun n120 =>
if (decide ((n118 : Int) < n120)) = true then
(some (.ret, (false, (IntKind.u64.wrap (s18.2.1 + 1)), s18.2.2), w67))
else
((ldN w67 (⟨r57.2.heap.size, 0, none⟩) 0 8).bind fun l121 =>
(asI .i64 (l121.getD 0 undef)).bind fun n122 =>
(asI .i64 (l121.getD 1 undef)).bind fun n123 =>
(asI .u64 (l121.getD 2 undef)).bind fun n124 =>
(asI .i64 (l121.getD 3 undef)).bind fun n125 =>
(asSl (l121.getD 4 undef)).bind fun q126 =>
(asI .i64 (l121.getD 5 undef)).bind fun n127 =>
(asI .u64 (l121.getD 6 undef)).bind fun n128 =>
(asB (l121.getD 7 undef)).bind fun b129 =>
(stL w67 (⟨r5.2.heap.size, 0, none⟩) [.int .i64 n122, .int .i64 n123, .int .u64 n124, .int .i64 n125, .slice q126.1 q126.2.1 q126.2.2, .int .i64 n127, .int .u64 n128, .bool b129] 0).bind fun w130 =>
some (.normal, (s18.1, (IntKind.u64.wrap (s18.2.1 + 1)), (IntKind.i64.wrap (s18.2.2 + 1))), w130)))))
else
((World.cell? w67 (⟨r57.2.heap.size, 0, none⟩)).bind fun v131 =>
(asI .i64 v131).bind fun n132 =>
(World.cell? w67 (Addr.add (⟨r57.2.heap.size, 0, none⟩) 4)).bind fun v133 =>
(asSl v133).bind fun q134 =>
if (!(((n132 : Int) == 3) == (decide (((q134.2.1 : Int) : Int) > 0)))) = true then
(some (.ret, (false, (IntKind.u64.wrap (s18.2.1 + 1)), s18.2.2), w67))
else
((World.cell? w67 (⟨r57.2.heap.size, 0, none⟩)).bind fun v136 =>
(asI .i64 v136).bind fun n137 =>
if ((n137 : Int) == 3) = true then
((World.cell? w67 (Addr.add (⟨r57.2.heap.size, 0, none⟩) 5)).bind fun v138 =>
(asI .i64 v138).bind fun n139 =>
(World.cell? w67 (Addr.add (⟨r57.2.heap.size, 0, none⟩) 3)).bind fun v140 =>
(asI .i64 v140).bind fun n141 =>
if ((n139 : Int) != n141) = true then
(some (.ret, (false, (IntKind.u64.wrap (s18.2.1 + 1)), s18.2.2), w67))
else
((World.cell? w67 (Addr.add (⟨r57.2.heap.size, 0, none⟩) 6)).bind fun v142 =>
(asI .u64 v142).bind fun n143 =>
(World.cell? w67 (Addr.add (⟨r57.2.heap.size, 0, none⟩) 2)).bind fun v144 =>
(asI .u64 v144).bind fun n145 =>
if ((n143 : Int) != n145) = true then
(some (.ret, (false, (IntKind.u64.wrap (s18.2.1 + 1)), s18.2.2), w67))
else
((World.cell? w67 (Addr.add (⟨r57.2.heap.size, 0, none⟩) 1)).bind fun v146 =>
(asI .i64 v146).bind fun n147 =>
(World.cell? w67 (Addr.add (⟨r5.2.heap.size, 0, none⟩) 1)).bind fun v148 =>
(asI .i64 v148).bind fun n149 =>
if (decide ((n147 : Int) < n149)) = true then
(some (.ret, (false, (IntKind.u64.wrap (s18.2.1 + 1)), s18.2.2), w67))
else
((ldN w67 (⟨r57.2.heap.size, 0, none⟩) 0 8).bind fun l150 =>
(asI .i64 (l150.getD 0 undef)).bind fun n151 =>
(asI .i64 (l150.getD 1 undef)).bind fun n152 =>
(asI .u64 (l150.getD 2 undef)).bind fun n153 =>
(asI .i64 (l150.getD 3 undef)).bind fun n154 =>
(asSl (l150.getD 4 undef)).bind fun q155 =>
(asI .i64 (l150.getD 5 undef)).bind fun n156 =>
(asI .u64 (l150.getD 6 undef)).bind fun n157 =>
(asB (l150.getD 7 undef)).bind fun b158 =>
(stL w67 (⟨r5.2.heap.size, 0, none⟩) [.int .i64 n151, .int .i64 n152, .int .u64 n153, .int .i64 n154, .slice q155.1 q155.2.1 q155.2.2, .int .i64 n156, .int .u64 n157, .bool b158] 0).bind fun w159 =>
some (.normal, (s18.1, (IntKind.u64.wrap (s18.2.1 + 1)), (IntKind.i64.wrap (s18.2.2 + 1))), w159)))))
else
((World.cell? w67 (Addr.add (⟨r57.2.heap.size, 0, none⟩) 1)).bind fun v160 =>
(asI .i64 v160).bind fun n161 =>
(World.cell? w67 (Addr.add (⟨r5.2.heap.size, 0, none⟩) 1)).bind fun v162 =>
(asI .i64 v162).bind fun n163 =>
if (decide ((n161 : Int) < n163)) = true then
(some (.ret, (false, (IntKind.u64.wrap (s18.2.1 + 1)), s18.2.2), w67))
else
((ldN w67 (⟨r57.2.heap.size, 0, none⟩) 0 8).bind fun l164 =>
(asI .i64 (l164.getD 0 undef)).bind fun n165 =>
(asI .i64 (l164.getD 1 undef)).bind fun n166 =>
(asI .u64 (l164.getD 2 undef)).bind fun n167 =>
(asI .i64 (l164.getD 3 undef)).bind fun n168 =>
(asSl (l164.getD 4 undef)).bind fun q169 =>
(asI .i64 (l164.getD 5 undef)).bind fun n170 =>
(asI .u64 (l164.getD 6 undef)).bind fun n171 =>
(asB (l164.getD 7 undef)).bind fun b172 =>
(stL w67 (⟨r5.2.heap.size, 0, none⟩) [.int .i64 n165, .int .i64 n166, .int .u64 n167, .int .i64 n168, .slice q169.1 q169.2.1 q169.2.2, .int .i64 n170, .int .u64 n171, .bool b172] 0).bind fun w173 =>
some (.normal, (s18.1, (IntKind.u64.wrap (s18.2.1 + 1)), (IntKind.i64.wrap (s18.2.2 + 1))), w173)))))))
else
((World.cell? w67 (⟨r57.2.heap.size, 0, none⟩)).bind fun v174 =>
(asI .i64 v174).bind fun n175 =>
if ((n175 : Int) == 2) = true then
((World.cell? w67 (Addr.add (⟨r57.2.heap.size, 0, none⟩) 4)).bind fun v176 =>
(asSl v176).bind fun q177 =>
if (!(true == (decide (((q177.2.1 : Int) : Int) > 0)))) = true then
(some (.ret, (false, (IntKind.u64.wrap (s18.2.1 + 1)), s18.2.2), w67))
else
((World.cell? w67 (⟨r57.2.heap.size, 0, none⟩)).bind fun v179 =>
(asI .i64 v179).bind fun n180 =>
if ((n180 : Int) == 3) = true then
((World.cell? w67 (Addr.add (⟨r57.2.heap.size, 0, none⟩) 5)).bind fun v181 =>
(asI .i64 v181).bind fun n182 =>
(World.cell? w67 (Addr.add (⟨r57.2.heap.size, 0, none⟩) 3)).bind fun v183 =>
(asI .i64 v183).bind fun n184 =>
if ((n182 : Int) != n184) = true then
(some (.ret, (false, (IntKind.u64.wrap (s18.2.1 + 1)), s18.2.2), w67))
else
((World.cell? w67 (Addr.add (⟨r57.2.heap.size, 0, none⟩) 6)).bind fun v185 =>
(asI .u64 v185).bind fun n186 =>
(World.cell? w67 (Addr.add (⟨r57.2.heap.size, 0, none⟩) 2)).bind fun v187 =>
(asI .u64 v187).bind fun n188 =>
if ((n186 : Int) != n188) = true then
(some (.ret, (false, (IntKind.u64.wrap (s18.2.1 + 1)), s18.2.2), w67))
else
((World.cell? w67 (Addr.add (⟨r57.2.heap.size, 0, none⟩) 1)).bind fun v189 =>
(asI .i64 v189).bind fun n190 =>
(World.cell? w67 (Addr.add (⟨r5.2.heap.size, 0, none⟩) 1)).bind fun v191 =>
(asI .i64 v191).bind fun n192 =>
if (decide ((n190 : Int) < n192)) = true then
(some (.ret, (false, (IntKind.u64.wrap (s18.2.1 + 1)), s18.2.2), w67))
else
((ldN w67 (⟨r57.2.heap.size, 0, none⟩) 0 8).bind fun l193 =>
(asI .i64 (l193.getD 0 undef)).bind fun n194 =>
(asI .i64 (l193.getD 1 undef)).bind fun n195 =>
(asI .u64 (l193.getD 2 undef)).bind fun n196 =>
(asI .i64 (l193.getD 3 undef)).bind fun n197 =>
(asSl (l193.getD 4 undef)).bind fun q198 =>
(asI .i64 (l193.getD 5 undef)).bind fun n199 =>
(asI .u64 (l193.getD 6 undef)).bind fun n200 =>
(asB (l193.getD 7 undef)).bind fun b201 =>
(stL w67 (⟨r5.2.heap.size, 0, none⟩) [.int .i64 n194, .int .i64 n195, .int .u64 n196, .int .i64 n197, .slice q198.1 q198.2.1 q198.2.2, .int .i64 n199, .int .u64 n200, .bool b201] 0).bind fun w202 =>
some (.normal, (s18.1, (IntKind.u64.wrap (s18.2.1 + 1)), (IntKind.i64.wrap (s18.2.2 + 1))), w202)))))
else
((World.cell? w67 (Addr.add (⟨r57.2.heap.size, 0, none⟩) 1)).bind fun v203 =>
(asI .i64 v203).bind fun n204 =>
(World.cell? w67 (Addr.add (⟨r5.2.heap.size, 0, none⟩) 1)).bind fun v205 =>
(asI .i64 v205).bind fun n206 =>
if (decide ((n204 : Int) < n206)) = true then
(some (.ret, (false, (IntKind.u64.wrap (s18.2.1 + 1)), s18.2.2), w67))
else
((ldN w67 (⟨r57.2.heap.size, 0, none⟩) 0 8).bind fun l207 =>
(asI .i64 (l207.getD 0 undef)).bind fun n208 =>
(asI .i64 (l207.getD 1 undef)).bind fun n209 =>
(asI .u64 (l207.getD 2 undef)).bind fun n210 =>
(asI .i64 (l207.getD 3 undef)).bind fun n211 =>
(asSl (l207.getD 4 undef)).bind fun q212 =>
(asI .i64 (l207.getD 5 undef)).bind fun n213 =>
(asI .u64 (l207.getD 6 undef)).bind fun n214 =>
(asB (l207.getD 7 undef)).bind fun b215 =>
(stL w67 (⟨r5.2.heap.size, 0, none⟩) [.int .i64 n208, .int .i64 n209, .int .u64 n210, .int .i64 n211, .slice q212.1 q212.2.1 q212.2.2, .int .i64 n213, .int .u64 n214, .bool b215] 0).bind fun w216 =>
some (.normal, (s18.1, (IntKind.u64.wrap (s18.2.1 + 1)), (IntKind.i64.wrap (s18.2.2 + 1))), w216)))))
else
((World.cell? w67 (⟨r57.2.heap.size, 0, none⟩)).bind fun v217 =>
(asI .i64 v217).bind fun n218 =>
(World.cell? w67 (Addr.add (⟨r57.2.heap.size, 0, none⟩) 4)).bind fun v219 =>
(asSl v219).bind fun q220 =>
if (!(((n218 : Int) == 3) == (decide (((q220.2.1 : Int) : Int) > 0)))) = true then
(some (.ret, (false, (IntKind.u64.wrap (s18.2.1 + 1)), s18.2.2), w67))
else
((World.cell? w67 (⟨r57.2.heap.size, 0, none⟩)).bind fun v222 =>
(asI .i64 v222).bind fun n223 =>
if ((n223 : Int) == 3) = true then
((World.cell? w67 (Addr.add (⟨r57.2.heap.size, 0, none⟩) 5)).bind fun v224 =>
(asI .i64 v224).bind fun n225 =>
(World.cell? w67 (Addr.add (⟨r57.2.heap.size, 0, none⟩) 3)).bind fun v226 =>
(asI .i64 v226).bind fun n227 =>
if ((n225 : Int) != n227) = true then
(some (.ret, (false, (IntKind.u64.wrap (s18.2.1 + 1)), s18.2.2), w67))
else
((World.cell? w67 (Addr.add (⟨r57.2.heap.size, 0, none⟩) 6)).bind fun v228 =>
(asI .u64 v228).bind fun n229 =>
(World.cell? w67 (Addr.add (⟨r57.2.heap.size, 0, none⟩) 2)).bind fun v230 =>
(asI .u64 v230).bind fun n231 =>
if ((n229 : Int) != n231) = true then
(some (.ret, (false, (IntKind.u64.wrap (s18.2.1 + 1)), s18.2.2), w67))
else
((World.cell? w67 (Addr.add (⟨r57.2.heap.size, 0, none⟩) 1)).bind fun v232 =>
(asI .i64 v232).bind fun n233 =>
(World.cell? w67 (Addr.add (⟨r5.2.heap.size, 0, none⟩) 1)).bind fun v234 =>
(asI .i64 v234).bind fun n235 =>
if (decide ((n233 : Int) < n235)) = true then
(some (.ret, (false, (IntKind.u64.wrap (s18.2.1 + 1)), s18.2.2), w67))
else
((ldN w67 (⟨r57.2.heap.size, 0, none⟩) 0 8).bind fun l236 =>
(asI .i64 (l236.getD 0 undef)).bind fun n237 =>
(asI .i64 (l236.getD 1 undef)).bind fun n238 =>
(asI .u64 (l236.getD 2 undef)).bind fun n239 =>
(asI .i64 (l236.getD 3 undef)).bind fun n240 =>
(asSl (l236.getD 4 undef)).bind fun q241 =>
(asI .i64 (l236.getD 5 undef)).bind fun n242 =>
(asI .u64 (l236.getD 6 undef)).bind fun n243 =>
(asB (l236.getD 7 undef)).bind fun b244 =>
(stL w67 (⟨r5.2.heap.size, 0, none⟩) [.int .i64 n237, .int .i64 n238, .int .u64 n239, .int .i64 n240, .slice q241.1 q241.2.1 q241.2.2, .int .i64 n242, .int .u64 n243, .bool b244] 0).bind fun w245 =>
some (.normal, (s18.1, (IntKind.u64.wrap (s18.2.1 + 1)), (IntKind.i64.wrap (s18.2.2 + 1))), w245)))))
else
((World.cell? w67 (Addr.add (⟨r57.2.heap.size, 0, none⟩) 1)).bind fun v246 =>
(asI .i64 v246).bind fun n247 =>
(World.cell? w67 (Addr.add (⟨r5.2.heap.size, 0, none⟩) 1)).bind fun v248 =>
(asI .i64 v248).bind fun n249 =>
if (decide ((n247 : Int) < n249)) = true then
(some (.ret, (false, (IntKind.u64.wrap (s18.2.1 + 1)), s18.2.2), w67))
else
((ldN w67 (⟨r57.2.heap.size, 0, none⟩) 0 8).bind fun l250 =>
(asI .i64 (l250.getD 0 undef)).bind fun n251 =>
(asI .i64 (l250.getD 1 undef)).bind fun n252 =>
(asI .u64 (l250.getD 2 undef)).bind fun n253 =>
(asI .i64 (l250.getD 3 undef)).bind fun n254 =>
(asSl (l250.getD 4 undef)).bind fun q255 =>
(asI .i64 (l250.getD 5 undef)).bind fun n256 =>
(asI .u64 (l250.getD 6 undef)).bind fun n257 =>
(asB (l250.getD 7 undef)).bind fun b258 =>
(stL w67 (⟨r5.2.heap.size, 0, none⟩) [.int .i64 n251, .int .i64 n252, .int .u64 n253, .int .i64 n254, .slice q255.1 q255.2.1 q255.2.2, .int .i64 n256, .int .u64 n257, .bool b258] 0).bind fun w259 =>
some (.normal, (s18.1, (IntKind.u64.wrap (s18.2.1 + 1)), (IntKind.i64.wrap (s18.2.2 + 1))), w259))))))))
else
((World.cell? w67 (Addr.add (⟨r57.2.heap.size, 0, none⟩) 2)).bind fun v260 =>
(asI .u64 v260).bind fun n261 =>
(World.cell? w67 (Addr.add (⟨r5.2.heap.size, 0, none⟩) 2)).bind fun v262 =>
(asI .u64 v262).bind fun n263 =>
if ((n261 : Int) != n263) = true then
((World.cell? w67 (Addr.add (⟨r57.2.heap.size, 0, none⟩) 3)).bind fun v264 =>
(asI .i64 v264).bind fun n265 =>
if ((n265 : Int) != 0) = true then
(some (.ret, (false, (IntKind.u64.wrap (s18.2.1 + 1)), s18.2.2), w67))
else
((World.cell? w67 (⟨r57.2.heap.size, 0, none⟩)).bind fun v266 =>
(asI .i64 v266).bind fun n267 =>
if ((n267 : Int) == 2) = true then
((World.cell? w67 (Addr.add (⟨r57.2.heap.size, 0, none⟩) 4)).bind fun v268 =>
(asSl v268).bind fun q269 =>
if (!(true == (decide (((q269.2.1 : Int) : Int) > 0)))) = true then
(some (.ret, (false, (IntKind.u64.wrap (s18.2.1 + 1)), s18.2.2), w67))
else
((World.cell? w67 (⟨r57.2.heap.size, 0, none⟩)).bind fun v271 =>
(asI .i64 v271).bind fun n272 =>
if ((n272 : Int) == 3) = true then
((World.cell? w67 (Addr.add (⟨r57.2.heap.size, 0, none⟩) 5)).bind fun v273 =>
(asI .i64 v273).bind fun n274 =>
(World.cell? w67 (Addr.add (⟨r57.2.heap.size, 0, none⟩) 3)).bind fun v275 =>
(asI .i64 v275).bind fun n276 =>
if ((n274 : Int) != n276) = true then
(some (.ret, (false, (IntKind.u64.wrap (s18.2.1 + 1)), s18.2.2), w67))
else
((World.cell? w67 (Addr.add (⟨r57.2.heap.size, 0, none⟩) 6)).bind fun v277 =>
(asI .u64 v277).bind fun n278 =>
(World.cell? w67 (Addr.add (⟨r57.2.heap.size, 0, none⟩) 2)).bind fun v279 =>
(asI .u64 v279).bind fun n280 =>
if ((n278 : Int) != n280) = true then
(some (.ret, (false, (IntKind.u64.wrap (s18.2.1 + 1)), s18.2.2), w67))
else
((World.cell? w67 (Addr.add (⟨r57.2.heap.size, 0, none⟩) 1)).bind fun v281 =>
(asI .i64 v281).bind fun n282 =>
(World.cell? w67 (Addr.add (⟨r5.2.heap.size, 0, none⟩) 1)).bind fun v283 =>
(asI .i64 v283).bind fun n284 =>
if (decide ((n282 : Int) < n284)) = true then
(some (.ret, (false, (IntKind.u64.wrap (s18.2.1 + 1)), s18.2.2), w67))
else
((ldN w67 (⟨r57.2.heap.size, 0, none⟩) 0 8).bind fun l285 =>
(asI .i64 (l285.getD 0 undef)).bind fun n286 =>
(asI .i64 (l285.getD 1 undef)).bind fun n287 =>
(asI .u64 (l285.getD 2 undef)).bind fun n288 =>
(asI .i64 (l285.getD 3 undef)).bind fun n289 =>
(asSl (l285.getD 4 undef)).bind fun q290 =>
(asI .i64 (l285.getD 5 undef)).bind fun n291 =>
(asI .u64 (l285.getD 6 undef)).bind fun n292 =>
(asB (l285.getD 7 undef)).bind fun b293 =>
(stL w67 (⟨r5.2.heap.size, 0, none⟩) [.int .i64 n286, .int .i64 n287, .int .u64 n288, .int .i64 n289, .slice q290.1 q290.2.1 q290.2.2, .int .i64 n291, .int .u64 n292, .bool b293] 0).bind fun w294 =>
some (.normal, (s18.1, (IntKind.u64.wrap (s18.2.1 + 1)), (IntKind.i64.wrap (s18.2.2 + 1))), w294)))))
else
((World.cell? w67 (Addr.add (⟨r57.2.heap.size, 0, none⟩) 1)).bind fun v295 =>
(asI .i64 v295).bind fun n296 =>
(World.cell? w67 (Addr.add (⟨r5.2.heap.size, 0, none⟩) 1)).bind fun v297 =>
(asI .i64 v297).bind fun n298 =>
if (decide ((n296 : Int) < n298)) = true then
(some (.ret, (false, (IntKind.u64.wrap (s18.2.1 + 1)), s18.2.2), w67))
else
((ldN w67 (⟨r57.2.heap.size, 0, none⟩) 0 8).bind fun l299 =>
(asI .i64 (l299.getD 0 undef)).bind fun n300 =>
(asI .i64 (l299.getD 1 undef)).bind fun n301 =>
(asI .u64 (l299.getD 2 undef)).bind fun n302 =>
(asI .i64 (l299.getD 3 undef)).bind fun n303 =>
(asSl (l299.getD 4 undef)).bind fun q304 =>
(asI .i64 (l299.getD 5 undef)).bind fun n305 =>
(asI .u64 (l299.getD 6 undef)).bind fun n306 =>
(asB (l299.getD 7 undef)).bind fun b307 =>
(stL w67 (⟨r5.2.heap.size, 0, none⟩) [.int .i64 n300, .int .i64 n301, .int .u64 n302, .int .i64 n303, .slice q304.1 q304.2.1 q304.2.2, .int .i64 n305, .int .u64 n306, .bool b307] 0).bind fun w308 =>
some (.normal, (s18.1, (IntKind.u64.wrap (s18.2.1 + 1)), (IntKind.i64.wrap (s18.2.2 + 1))), w308)))))
else
((World.cell? w67 (⟨r57.2.heap.size, 0, none⟩)).bind fun v309 =>
(asI .i64 v309).bind fun n310 =>
(World.cell? w67 (Addr.add (⟨r57.2.heap.size, 0, none⟩) 4)).bind fun v311 =>
(asSl v311).bind fun q312 =>
if (!(((n310 : Int) == 3) == (decide (((q312.2.1 : Int) : Int) > 0)))) = true then
(some (.ret, (false, (IntKind.u64.wrap (s18.2.1 + 1)), s18.2.2), w67))
else
((World.cell? w67 (⟨r57.2.heap.size, 0, none⟩)).bind fun v314 =>
(asI .i64 v314).bind fun n315 =>
if ((n315 : Int) == 3) = true then
((World.cell? w67 (Addr.add (⟨r57.2.heap.size, 0, none⟩) 5)).bind fun v316 =>
(asI .i64 v316).bind fun n317 =>
(World.cell? w67 (Addr.add (⟨r57.2.heap.size, 0, none⟩) 3)).bind fun v318 =>
(asI .i64 v318).bind fun n319 =>
if ((n317 : Int) != n319) = true then
(some (.ret, (false, (IntKind.u64.wrap (s18.2.1 + 1)), s18.2.2), w67))
else
((World.cell? w67 (Addr.add (⟨r57.2.heap.size, 0, none⟩) 6)).bind fun v320 =>
(asI .u64 v320).bind fun n321 =>
(World.cell? w67 (Addr.add (⟨r57.2.heap.size, 0, none⟩) 2)).bind fun v322 =>
(asI .u64 v322).bind fun n323 =>
if ((n321 : Int) != n323) = true then
(some (.ret, (false, (IntKind.u64.wrap (s18.2.1 + 1)), s18.2.2), w67))
else
((World.cell? w67 (Addr.add (⟨r57.2.heap.size, 0, none⟩) 1)).bind fun v324 =>
(asI .i64 v324).bind fun n325 =>
(World.cell? w67 (Addr.add (⟨r5.2.heap.size, 0, none⟩) 1)).bind fun v326 =>
(asI .i64 v326).bind fun n327 =>
if (decide ((n325 : Int) < n327)) = true then
(some (.ret, (false, (IntKind.u64.wrap (s18.2.1 + 1)), s18.2.2), w67))
else
((ldN w67 (⟨r57.2.heap.size, 0, none⟩) 0 8).bind fun l328 =>
(asI .i64 (l328.getD 0 undef)).bind fun n329 =>
(asI .i64 (l328.getD 1 undef)).bind fun n330 =>
(asI .u64 (l328.getD 2 undef)).bind fun n331 =>
(asI .i64 (l328.getD 3 undef)).bind fun n332 =>
(asSl (l328.getD 4 undef)).bind fun q333 =>
(asI .i64 (l328.getD 5 undef)).bind fun n334 =>
(asI .u64 (l328.getD 6 undef)).bind fun n335 =>
(asB (l328.getD 7 undef)).bind fun b336 =>
(stL w67 (⟨r5.2.heap.size, 0, none⟩) [.int .i64 n329, .int .i64 n330, .int .u64 n331, .int .i64 n332, .slice q333.1 q333.2.1 q333.2.2, .int .i64 n334, .int .u64 n335, .bool b336] 0).bind fun w337 =>
some (.normal, (s18.1, (IntKind.u64.wrap (s18.2.1 + 1)), (IntKind.i64.wrap (s18.2.2 + 1))), w337)))))
else
((World.cell? w67 (Addr.add (⟨r57.2.heap.size, 0, none⟩) 1)).bind fun v338 =>
(asI .i64 v338).bind fun n339 =>
(World.cell? w67 (Addr.add (⟨r5.2.heap.size, 0, none⟩) 1)).bind fun v340 =>
(asI .i64 v340).bind fun n341 =>
if (decide ((n339 : Int) < n341)) = true then
(some (.ret, (false, (IntKind.u64.wrap (s18.2.1 + 1)), s18.2.2), w67))
else
((ldN w67 (⟨r57.2.heap.size, 0, none⟩) 0 8).bind fun l342 =>
(asI .i64 (l342.getD 0 undef)).bind fun n343 =>
(asI .i64 (l342.getD 1 undef)).bind fun n344 =>
(asI .u64 (l342.getD 2 undef)).bind fun n345 =>
(asI .i64 (l342.getD 3 undef)).bind fun n346 =>
(asSl (l342.getD 4 undef)).bind fun q347 =>
(asI .i64 (l342.getD 5 undef)).bind fun n348 =>
(asI .u64 (l342.getD 6 undef)).bind fun n349 =>
(asB (l342.getD 7 undef)).bind fun b350 =>
(stL w67 (⟨r5.2.heap.size, 0, none⟩) [.int .i64 n343, .int .i64 n344, .int .u64 n345, .int .i64 n346, .slice q347.1 q347.2.1 q347.2.2, .int .i64 n348, .int .u64 n349, .bool b350] 0).bind fun w351 =>
some (.normal, (s18.1, (IntKind.u64.wrap (s18.2.1 + 1)), (IntKind.i64.wrap (s18.2.2 + 1))), w351)))))))
else
((World.cell? w67 (⟨r57.2.heap.size, 0, none⟩)).bind fun v352 =>
(asI .i64 v352).bind fun n353 =>
if ((n353 : Int) == 2) = true then
((World.cell? w67 (Addr.add (⟨r57.2.heap.size, 0, none⟩) 4)).bind fun v354 =>
(asSl v354).bind fun q355 =>
if (!(true == (decide (((q355.2.1 : Int) : Int) > 0)))) = true then
(some (.ret, (false, (IntKind.u64.wrap (s18.2.1 + 1)), s18.2.2), w67))
else
((World.cell? w67 (⟨r57.2.heap.size, 0, none⟩)).bind fun v357 =>
(asI .i64 v357).bind fun n358 =>
if ((n358 : Int) == 3) = true then
((World.cell? w67 (Addr.add (⟨r57.2.heap.size, 0, none⟩) 5)).bind fun v359 =>
(asI .i64 v359).bind fun n360 =>
(World.cell? w67 (Addr.add (⟨r57.2.heap.size, 0, none⟩) 3)).bind fun v361 =>
(asI .i64 v361).bind fun n362 =>
if ((n360 : Int) != n362) = true then
(some (.ret, (false, (IntKind.u64.wrap (s18.2.1 + 1)), s18.2.2), w67))
else
((World.cell? w67 (Addr.add (⟨r57.2.heap.size, 0, none⟩) 6)).bind fun v363 =>
(asI .u64 v363).bind fun n364 =>
(World.cell? w67 (Addr.add (⟨r57.2.heap.size, 0, none⟩) 2)).bind fun v365 =>
(asI .u64 v365).bind fun n366 =>
if ((n364 : Int) != n366) = true then
(some (.ret, (false, (IntKind.u64.wrap (s18.2.1 + 1)), s18.2.2), w67))
else
((World.cell? w67 (Addr.add (⟨r57.2.heap.size, 0, none⟩) 1)).bind fun v367 =>
(asI .i64 v367).bind fun n368 =>
(World.cell? w67 (Addr.add (⟨r5.2.heap.size, 0, none⟩) 1)).bind fun v369 =>
(asI .i64 v369).bind fun n370 =>
if (decide ((n368 : Int) < n370)) = true then
(some (.ret, (false, (IntKind.u64.wrap (s18.2.1 + 1)), s18.2.2), w67))
else
((ldN w67 (⟨r57.2.heap.size, 0, none⟩) 0 8).bind fun l371 =>
(asI .i64 (l371.getD 0 undef)).bind fun n372 =>
(asI .i64 (l371.getD 1 undef)).bind fun n373 =>
(asI .u64 (l371.getD 2 undef)).bind fun n374 =>
(asI .i64 (l371.getD 3 undef)).bind fun n375 =>
(asSl (l371.getD 4 undef)).bind fun q376 =>
(asI .i64 (l371.getD 5 undef)).bind fun n377 =>
(asI .u64 (l371.getD 6 undef)).bind fun n378 =>
(asB (l371.getD 7 undef)).bind fun b379 =>
(stL w67 (⟨r5.2.heap.size, 0, none⟩) [.int .i64 n372, .int .i64 n373, .int .u64 n374, .int .i64 n375, .slice q376.1 q376.2.1 q376.2.2, .int .i64 n377, .int .u64 n378, .bool b379] 0).bind fun w380 =>
some (.normal, (s18.1, (IntKind.u64.wrap (s18.2.1 + 1)), (IntKind.i64.wrap (s18.2.2 + 1))), w380)))))
else
((World.cell? w67 (Addr.add (⟨r57.2.heap.size, 0, none⟩) 1)).bind fun v381 =>
(asI .i64 v381).bind fun n382 =>
(World.cell? w67 (Addr.add (⟨r5.2.heap.size, 0, none⟩) 1)).bind fun v383 =>
(asI .i64 v383).bind fun n384 =>
if (decide ((n382 : Int) < n384)) = true then
(some (.ret, (false, (IntKind.u64.wrap (s18.2.1 + 1)), s18.2.2), w67))
else
((ldN w67 (⟨r57.2.heap.size, 0, none⟩) 0 8).bind fun l385 =>
(asI .i64 (l385.getD 0 undef)).bind fun n386 =>
(asI .i64 (l385.getD 1 undef)).bind fun n387 =>
(asI .u64 (l385.getD 2 undef)).bind fun n388 =>
(asI .i64 (l385.getD 3 undef)).bind fun n389 =>
(asSl (l385.getD 4 undef)).bind fun q390 =>
(asI .i64 (l385.getD 5 undef)).bind fun n391 =>
(asI .u64 (l385.getD 6 undef)).bind fun n392 =>
(asB (l385.getD 7 undef)).bind fun b393 =>
(stL w67 (⟨r5.2.heap.size, 0, none⟩) [.int .i64 n386, .int .i64 n387, .int .u64 n388, .int .i64 n389, .slice q390.1 q390.2.1 q390.2.2, .int .i64 n391, .int .u64 n392, .bool b393] 0).bind fun w394 =>
some (.normal, (s18.1, (IntKind.u64.wrap (s18.2.1 + 1)), (IntKind.i64.wrap (s18.2.2 + 1))), w394)))))
else
((World.cell? w67 (⟨r57.2.heap.size, 0, none⟩)).bind fun v395 =>
(asI .i64 v395).bind fun n396 =>
(World.cell? w67 (Addr.add (⟨r57.2.heap.size, 0, none⟩) 4)).bind fun v397 =>
(asSl v397).bind fun q398 =>
if (!(((n396 : Int) == 3) == (decide (((q398.2.1 : Int) : Int) > 0)))) = true then
(some (.ret, (false, (IntKind.u64.wrap (s18.2.1 + 1)), s18.2.2), w67))
else
((World.cell? w67 (⟨r57.2.heap.size, 0, none⟩)).bind fun v400 =>
(asI .i64 v400).bind fun n401 =>
if ((n401 : Int) == 3) = true then
((World.cell? w67 (Addr.add (⟨r57.2.heap.size, 0, none⟩) 5)).bind fun v402 =>
(asI .i64 v402).bind fun n403 =>
(World.cell? w67 (Addr.add (⟨r57.2.heap.size, 0, none⟩) 3)).bind fun v404 =>
(asI .i64 v404).bind fun n405 =>
if ((n403 : Int) != n405) = true then
(some (.ret, (false, (IntKind.u64.wrap (s18.2.1 + 1)), s18.2.2), w67))
else
((World.cell? w67 (Addr.add (⟨r57.2.heap.size, 0, none⟩) 6)).bind fun v406 =>
(asI .u64 v406).bind fun n407 =>
(World.cell? w67 (Addr.add (⟨r57.2.heap.size, 0, none⟩) 2)).bind fun v408 =>
(asI .u64 v408).bind fun n409 =>
if ((n407 : Int) != n409) = true then
(some (.ret, (false, (IntKind.u64.wrap (s18.2.1 + 1)), s18.2.2), w67))
else
((World.cell? w67 (Addr.add (⟨r57.2.heap.size, 0, none⟩) 1)).bind fun v410 =>
(asI .i64 v410).bind fun n411 =>
(World.cell? w67 (Addr.add (⟨r5.2.heap.size, 0, none⟩) 1)).bind fun v412 =>
(asI .i64 v412).bind fun n413 =>
if (decide ((n411 : Int) < n413)) = true then
(some (.ret, (false, (IntKind.u64.wrap (s18.2.1 + 1)), s18.2.2), w67))
else
((ldN w67 (⟨r57.2.heap.size, 0, none⟩) 0 8).bind fun l414 =>
(asI .i64 (l414.getD 0 undef)).bind fun n415 =>
(asI .i64 (l414.getD 1 undef)).bind fun n416 =>
(asI .u64 (l414.getD 2 undef)).bind fun n417 =>
(asI .i64 (l414.getD 3 undef)).bind fun n418 =>
(asSl (l414.getD 4 undef)).bind fun q419 =>
(asI .i64 (l414.getD 5 undef)).bind fun n420 =>
(asI .u64 (l414.getD 6 undef)).bind fun n421 =>
(asB (l414.getD 7 undef)).bind fun b422 =>
(stL w67 (⟨r5.2.heap.size, 0, none⟩) [.int .i64 n415, .int .i64 n416, .int .u64 n417, .int .i64 n418, .slice q419.1 q419.2.1 q419.2.2, .int .i64 n420, .int .u64 n421, .bool b422] 0).bind fun w423 =>
some (.normal, (s18.1, (IntKind.u64.wrap (s18.2.1 + 1)), (IntKind.i64.wrap (s18.2.2 + 1))), w423)))))
else
((World.cell? w67 (Addr.add (⟨r57.2.heap.size, 0, none⟩) 1)).bind fun v424 =>
(asI .i64 v424).bind fun n425 =>
(World.cell? w67 (Addr.add (⟨r5.2.heap.size, 0, none⟩) 1)).bind fun v426 =>
(asI .i64 v426).bind fun n427 =>
if (decide ((n425 : Int) < n427)) = true then
(some (.ret, (false, (IntKind.u64.wrap (s18.2.1 + 1)), s18.2.2), w67))
else
((ldN w67 (⟨r57.2.heap.size, 0, none⟩) 0 8).bind fun l428 =>
(asI .i64 (l428.getD 0 undef)).bind fun n429 =>
(asI .i64 (l428.getD 1 undef)).bind fun n430 =>
(asI .u64 (l428.getD 2 undef)).bind fun n431 =>
(asI .i64 (l428.getD 3 undef)).bind fun n432 =>
(asSl (l428.getD 4 undef)).bind fun q433 =>
(asI .i64 (l428.getD 5 undef)).bind fun n434 =>
(asI .u64 (l428.getD 6 undef)).bind fun n435 =>
(asB (l428.getD 7 undef)).bind fun b436 =>
(stL w67 (⟨r5.2.heap.size, 0, none⟩) [.int .i64 n429, .int .i64 n430, .int .u64 n431, .int .i64 n432, .slice q433.1 q433.2.1 q433.2.2, .int .i64 n434, .int .u64 n435, .bool b436] 0).bind fun w437 =>
some (.normal, (s18.1, (IntKind.u64.wrap (s18.2.1 + 1)), (IntKind.i64.wrap (s18.2.2 + 1))), w437)))))))))))
else
((callF Try.prog 21 #[.pointer p2, .int .i64 0] r55.2).bind fun r438 =>
(Ev.asAgg 8 r438.1).bind fun l439 =>
(asI .i64 (l439.getD 0 undef)).bind fun n440 =>
(asI .i64 (l439.getD 1 undef)).bind fun n441 =>
(asI .u64 (l439.getD 2 undef)).bind fun n442 =>
(asI .i64 (l439.getD 3 undef)).bind fun n443 =>
(asSl (l439.getD 4 undef)).bind fun q444 =>
(asI .i64 (l439.getD 5 undef)).bind fun n445 =>
(asI .u64 (l439.getD 6 undef)).bind fun n446 =>
(asB (l439.getD 7 undef)).bind fun b447 =>
(stL (World.alloc r438.2 (.cells #[.int .i64 0, .int .i64 0, .int .u64 0, .int .i64 0, .slice none 0 0, .int .i64 0, .int .u64 0, .bool false] 46)) (⟨r438.2.heap.size, 0, none⟩) [.int .i64 n440, .int .i64 n441, .int .u64 n442, .int .i64 n443, .slice q444.1 q444.2.1 q444.2.2, .int .i64 n445, .int .u64 n446, .bool b447] 0).bind fun w448 =>
(World.cell? w448 (Addr.add (⟨r438.2.heap.size, 0, none⟩) 3)).bind fun v449 =>
(asI .i64 v449).bind fun n450 =>
if (((Int.tmod n450 2) : Int) != 0) = true then
(some (.ret, (false, s18.2.1, s18.2.2), w448))
else
((World.cell? w448 (Addr.add (⟨r438.2.heap.size, 0, none⟩) 3)).bind fun v451 =>
(asI .i64 v451).bind fun n452 =>
if (decide ((n452 : Int) < 0)) = true then
(some (.ret, (false, s18.2.1, s18.2.2), w448))
else
((World.cell? w448 (Addr.add (⟨r438.2.heap.size, 0, none⟩) 3)).bind fun v453 =>
(asI .i64 v453).bind fun n454 =>
if (decide ((n454 : Int) > 1000)) = true then
(some (.ret, (false, s18.2.1, s18.2.2), w448))
else
((World.cell? w448 (Addr.add (⟨r438.2.heap.size, 0, none⟩) 2)).bind fun v455 =>
(asI .u64 v455).bind fun n456 =>
(World.cell? w448 (Addr.add (⟨r5.2.heap.size, 0, none⟩) 2)).bind fun v457 =>
(asI .u64 v457).bind fun n458 =>
if ((n456 : Int) == n458) = true then
((World.cell? w448 (Addr.add (⟨r438.2.heap.size, 0, none⟩) 3)).bind fun v459 =>
(asI .i64 v459).bind fun n460 =>
(World.cell? w448 (Addr.add (⟨r5.2.heap.size, 0, none⟩) 3)).bind fun v461 =>
(asI .i64 v461).bind fun n462 =>
if (decide ((n460 : Int) < n462)) = true then
(some (.ret, (false, s18.2.1, s18.2.2), w448))
else
((World.cell? w448 (Addr.add (⟨r438.2.heap.size, 0, none⟩) 2)).bind fun v463 =>
(asI .u64 v463).bind fun n464 =>
(World.cell? w448 (Addr.add (⟨r5.2.heap.size, 0, none⟩) 2)).bind fun v465 =>
(asI .u64 v465).bind fun n466 =>
if ((n464 : Int) != n466) = true then
((World.cell? w448 (Addr.add (⟨r438.2.heap.size, 0, none⟩) 3)).bind fun v467 =>
(asI .i64 v467).bind fun n468 =>
if ((n468 : Int) != 0) = true then
(some (.ret, (false, s18.2.1, s18.2.2), w448))
else
((World.cell? w448 (⟨r438.2.heap.size, 0, none⟩)).bind fun v469 =>
(asI .i64 v469).bind fun n470 =>
if ((n470 : Int) == 2) = true then
((World.cell? w448 (Addr.add (⟨r438.2.heap.size, 0, none⟩) 4)).bind fun v471 =>
(asSl v471).bind fun q472 =>
if (!(true == (decide (((q472.2.1 : Int) : Int) > 0)))) = true then
(some (.ret, (false, s18.2.1, s18.2.2), w448))
else
((World.cell? w448 (⟨r438.2.heap.size, 0, none⟩)).bind fun v474 =>
(asI .i64 v474).bind fun n475 =>
if ((n475 : Int) == 3) = true then
((World.cell? w448 (Addr.add (⟨r438.2.heap.size, 0, none⟩) 5)).bind fun v476 =>
(asI .i64 v476).bind fun n477 =>
(World.cell? w448 (Addr.add (⟨r438.2.heap.size, 0, none⟩) 3)).bind fun v478 =>
(asI .i64 v478).bind fun n479 =>
if ((n477 : Int) != n479) = true then
(some (.ret, (false, s18.2.1, s18.2.2), w448))
else
((World.cell? w448 (Addr.add (⟨r438.2.heap.size, 0, none⟩) 6)).bind fun v480 =>
(asI .u64 v480).bind fun n481 =>
(World.cell? w448 (Addr.add (⟨r438.2.heap.size, 0, none⟩) 2)).bind fun v482 =>
(asI .u64 v482).bind fun n483 =>
if ((n481 : Int) != n483) = true then
(some (.ret, (false, s18.2.1, s18.2.2), w448))
else
((World.cell? w448 (Addr.add (⟨r438.2.heap.size, 0, none⟩) 1)).bind fun v484 =>
(asI .i64 v484).bind fun n485 =>
(World.cell? w448 (Addr.add (⟨r5.2.heap.size, 0, none⟩) 1)).bind fun v486 =>
(asI .i64 v486).bind fun n487 =>
if (decide ((n485 : Int) < n487)) = true then
(some (.ret, (false, s18.2.1, s18.2.2), w448))
else
((ldN w448 (⟨r438.2.heap.size, 0, none⟩) 0 8).bind fun l488 =>
(asI .i64 (l488.getD 0 undef)).bind fun n489 =>
(asI .i64 (l488.getD 1 undef)).bind fun n490 =>
(asI .u64 (l488.getD 2 undef)).bind fun n491 =>
(asI .i64 (l488.getD 3 undef)).bind fun n492 =>
(asSl (l488.getD 4 undef)).bind fun q493 =>
(asI .i64 (l488.getD 5 undef)).bind fun n494 =>
(asI .u64 (l488.getD 6 undef)).bind fun n495 =>
(asB (l488.getD 7 undef)).bind fun b496 =>
(stL w448 (⟨r5.2.heap.size, 0, none⟩) [.int .i64 n489, .int .i64 n490, .int .u64 n491, .int .i64 n492, .slice q493.1 q493.2.1 q493.2.2, .int .i64 n494, .int .u64 n495, .bool b496] 0).bind fun w497 =>
some (.normal, (s18.1, s18.2.1, (IntKind.i64.wrap (s18.2.2 + 1))), w497)))))
else
((World.cell? w448 (Addr.add (⟨r438.2.heap.size, 0, none⟩) 1)).bind fun v498 =>
(asI .i64 v498).bind fun n499 =>
(World.cell? w448 (Addr.add (⟨r5.2.heap.size, 0, none⟩) 1)).bind fun v500 =>
(asI .i64 v500).bind fun n501 =>
if (decide ((n499 : Int) < n501)) = true then
(some (.ret, (false, s18.2.1, s18.2.2), w448))
else
((ldN w448 (⟨r438.2.heap.size, 0, none⟩) 0 8).bind fun l502 =>
(asI .i64 (l502.getD 0 undef)).bind fun n503 =>
(asI .i64 (l502.getD 1 undef)).bind fun n504 =>
(asI .u64 (l502.getD 2 undef)).bind fun n505 =>
(asI .i64 (l502.getD 3 undef)).bind fun n506 =>
(asSl (l502.getD 4 undef)).bind fun q507 =>
(asI .i64 (l502.getD 5 undef)).bind fun n508 =>
(asI .u64 (l502.getD 6 undef)).bind fun n509 =>
(asB (l502.getD 7 undef)).bind fun b510 =>
(stL w448 (⟨r5.2.heap.size, 0, none⟩) [.int .i64 n503, .int .i64 n504, .int .u64 n505, .int .i64 n506, .slice q507.1 q507.2.1 q507.2.2, .int .i64 n508, .int .u64 n509, .bool b510] 0).bind fun w511 =>
some (.normal, (s18.1, s18.2.1, (IntKind.i64.wrap (s18.2.2 + 1))), w511)))))
else
((World.cell? w448 (⟨r438.2.heap.size, 0, none⟩)).bind fun v512 =>
(asI .i64 v512).bind fun n513 =>
(World.cell? w448 (Addr.add (⟨r438.2.heap.size, 0, none⟩) 4)).bind fun v514 =>
(asSl v514).bind fun q515 =>
if (!(((n513 : Int) == 3) == (decide (((q515.2.1 : Int) : Int) > 0)))) = true then
(some (.ret, (false, s18.2.1, s18.2.2), w448))
else
((World.cell? w448 (⟨r438.2.heap.size, 0, none⟩)).bind fun v517 =>
(asI .i64 v517).bind fun n518 =>
if ((n518 : Int) == 3) = true then
((World.cell? w448 (Addr.add (⟨r438.2.heap.size, 0, none⟩) 5)).bind fun v519 =>
(asI .i64 v519).bind fun n520 =>
(World.cell? w448 (Addr.add (⟨r438.2.heap.size, 0, none⟩) 3)).bind fun v521 =>
(asI .i64 v521).bind fun n522 =>
if ((n520 : Int) != n522) = true then
(some (.ret, (false, s18.2.1, s18.2.2), w448))
else
((World.cell? w448 (Addr.add (⟨r438.2.heap.size, 0, none⟩) 6)).bind fun v523 =>
(asI .u64 v523).bind fun n524 =>
(World.cell? w448 (Addr.add (⟨r438.2.heap.size, 0, none⟩) 2)).bind fun v525 =>
(asI .u64 v525).bind fun n526 =>
if ((n524 : Int) != n526) = true then
(some (.ret, (false, s18.2.1, s18.2.2), w448))
else
((World.cell? w448 (Addr.add (⟨r438.2.heap.size, 0, none⟩) 1)).bind fun v527 =>
(asI .i64 v527).bind fun n528 =>
(World.cell? w448 (Addr.add (⟨r5.2.heap.size, 0, none⟩) 1)).bind fun v529 =>
(asI .i64 v529).bind fun n530 =>
if (decide ((n528 : Int) < n530)) = true then
(some (.ret, (false, s18.2.1, s18.2.2), w448))
else
((ldN w448 (⟨r438.2.heap.size, 0, none⟩) 0 8).bind fun l531 =>
(asI .i64 (l531.getD 0 undef)).bind fun n532 =>
(asI .i64 (l531.getD 1 undef)).bind fun n533 =>
(asI .u64 (l531.getD 2 undef)).bind fun n534 =>
(asI .i64 (l531.getD 3 undef)).bind fun n535 =>
(asSl (l531.getD 4 undef)).bind fun q536 =>
(asI .i64 (l531.getD 5 undef)).bind fun n537 =>
(asI .u64 (l531.getD 6 undef)).bind fun n538 =>
(asB (l531.getD 7 undef)).bind fun b539 =>
(stL w448 (⟨r5.2.heap.size, 0, none⟩) [.int .i64 n532, .int .i64 n533, .int .u64 n534, .int .i64 n535, .slice q536.1 q536.2.1 q536.2.2, .int .i64 n537, .int .u64 n538, .bool b539] 0).bind fun w540 =>
some (.normal, (s18.1, s18.2.1, (IntKind.i64.wrap (s18.2.2 + 1))), w540)))))
else
((World.cell? w448 (Addr.add (⟨r438.2.heap.size, 0, none⟩) 1)).bind fun v541 =>
(asI .i64 v541).bind fun n542 =>
(World.cell? w448 (Addr.add (⟨r5.2.heap.size, 0, none⟩) 1)).bind fun v543 =>
(asI .i64 v543).bind fun n544 =>
if (decide ((n542 : Int) < n544)) = true then
(some (.ret, (false, s18.2.1, s18.2.2), w448))
else
((ldN w448 (⟨r438.2.heap.size, 0, none⟩) 0 8).bind fun l545 =>
(asI .i64 (l545.getD 0 undef)).bind fun n546 =>
(asI .i64 (l545.getD 1 undef)).bind fun n547 =>
(asI .u64 (l545.getD 2 undef)).bind fun n548 =>
(asI .i64 (l545.getD 3 undef)).bind fun n549 =>
(asSl (l545.getD 4 undef)).bind fun q550 =>
(asI .i64 (l545.getD 5 undef)).bind fun n551 =>
(asI .u64 (l545.getD 6 undef)).bind fun n552 =>
(asB (l545.getD 7 undef)).bind fun b553 =>
(stL w448 (⟨r5.2.heap.size, 0, none⟩) [.int .i64 n546, .int .i64 n547, .int .u64 n548, .int .i64 n549, .slice q550.1 q550.2.1 q550.2.2, .int .i64 n551, .int .u64 n552, .bool b553] 0).bind fun w554 =>
some (.normal, (s18.1, s18.2.1, (IntKind.i64.wrap (s18.2.2 + 1))), w554)))))))
else
((World.cell? w448 (⟨r438.2.heap.size, 0, none⟩)).bind fun v555 =>
(asI .i64 v555).bind fun n556 =>
if ((n556 : Int) == 2) = true then
((World.cell? w448 (Addr.add (⟨r438.2.heap.size, 0, none⟩) 4)).bind fun v557 =>
(asSl v557).bind fun q558 =>
if (!(true == (decide (((q558.2.1 : Int) : Int) > 0)))) = true then
(some (.ret, (false, s18.2.1, s18.2.2), w448))
else
((World.cell? w448 (⟨r438.2.heap.size, 0, none⟩)).bind fun v560 =>
(asI .i64 v560).bind fun n561 =>
if ((n561 : Int) == 3) = true then
((World.cell? w448 (Addr.add (⟨r438.2.heap.size, 0, none⟩) 5)).bind fun v562 =>
(asI .i64 v562).bind fun n563 =>
(World.cell? w448 (Addr.add (⟨r438.2.heap.size, 0, none⟩) 3)).bind fun v564 =>
(asI .i64 v564).bind fun n565 =>
if ((n563 : Int) != n565) = true then
(some (.ret, (false, s18.2.1, s18.2.2), w448))
else
((World.cell? w448 (Addr.add (⟨r438.2.heap.size, 0, none⟩) 6)).bind fun v566 =>
(asI .u64 v566).bind fun n567 =>
(World.cell? w448 (Addr.add (⟨r438.2.heap.size, 0, none⟩) 2)).bind fun v568 =>
(asI .u64 v568).bind fun n569 =>
if ((n567 : Int) != n569) = true then
(some (.ret, (false, s18.2.1, s18.2.2), w448))
else
((World.cell? w448 (Addr.add (⟨r438.2.heap.size, 0, none⟩) 1)).bind fun v570 =>
(asI .i64 v570).bind fun n571 =>
(World.cell? w448 (Addr.add (⟨r5.2.heap.size, 0, none⟩) 1)).bind fun v572 =>
(asI .i64 v572).bind fun n573 =>
if (decide ((n571 : Int) < n573)) = true then
(some (.ret, (false, s18.2.1, s18.2.2), w448))
else
((ldN w448 (⟨r438.2.heap.size, 0, none⟩) 0 8).bind fun l574 =>
(asI .i64 (l574.getD 0 undef)).bind fun n575 =>
(asI .i64 (l574.getD 1 undef)).bind fun n576 =>
(asI .u64 (l574.getD 2 undef)).bind fun n577 =>
(asI .i64 (l574.getD 3 undef)).bind fun n578 =>
(asSl (l574.getD 4 undef)).bind fun q579 =>
(asI .i64 (l574.getD 5 undef)).bind fun n580 =>
(asI .u64 (l574.getD 6 undef)).bind fun n581 =>
(asB (l574.getD 7 undef)).bind fun b582 =>
(stL w448 (⟨r5.2.heap.size, 0, none⟩) [.int .i64 n575, .int .i64 n576, .int .u64 n577, .int .i64 n578, .slice q579.1 q579.2.1 q579.2.2, .int .i64 n580, .int .u64 n581, .bool b582] 0).bind fun w583 =>
some (.normal, (s18.1, s18.2.1, (IntKind.i64.wrap (s18.2.2 + 1))), w583)))))
else
((World.cell? w448 (Addr.add (⟨r438.2.heap.size, 0, none⟩) 1)).bind fun v584 =>
(asI .i64 v584).bind fun n585 =>
(World.cell? w448 (Addr.add (⟨r5.2.heap.size, 0, none⟩) 1)).bind fun v586 =>
(asI .i64 v586).bind fun n587 =>
if (decide ((n585 : Int) < n587)) = true then
(some (.ret, (false, s18.2.1, s18.2.2), w448))
else
((ldN w448 (⟨r438.2.heap.size, 0, none⟩) 0 8).bind fun l588 =>
(asI .i64 (l588.getD 0 undef)).bind fun n589 =>
(asI .i64 (l588.getD 1 undef)).bind fun n590 =>
(asI .u64 (l588.getD 2 undef)).bind fun n591 =>
(asI .i64 (l588.getD 3 undef)).bind fun n592 =>
(asSl (l588.getD 4 undef)).bind fun q593 =>
(asI .i64 (l588.getD 5 undef)).bind fun n594 =>
(asI .u64 (l588.getD 6 undef)).bind fun n595 =>
(asB (l588.getD 7 undef)).bind fun b596 =>
(stL w448 (⟨r5.2.heap.size, 0, none⟩) [.int .i64 n589, .int .i64 n590, .int .u64 n591, .int .i64 n592, .slice q593.1 q593.2.1 q593.2.2, .int .i64 n594, .int .u64 n595, .bool b596] 0).bind fun w597 =>
some (.normal, (s18.1, s18.2.1, (IntKind.i64.wrap (s18.2.2 + 1))), w597)))))
else
((World.cell? w448 (⟨r438.2.heap.size, 0, none⟩)).bind fun v598 =>
(asI .i64 v598).bind fun n599 =>
(World.cell? w448 (Addr.add (⟨r438.2.heap.size, 0, none⟩) 4)).bind fun v600 =>
(asSl v600).bind fun q601 =>
if (!(((n599 : Int) == 3) == (decide (((q601.2.1 : Int) : Int) > 0)))) = true then
(some (.ret, (false, s18.2.1, s18.2.2), w448))
else
((World.cell? w448 (⟨r438.2.heap.size, 0, none⟩)).bind fun v603 =>
(asI .i64 v603).bind fun n604 =>
if ((n604 : Int) == 3) = true then
((World.cell? w448 (Addr.add (⟨r438.2.heap.size, 0, none⟩) 5)).bind fun v605 =>
(asI .i64 v605).bind fun n606 =>
(World.cell? w448 (Addr.add (⟨r438.2.heap.size, 0, none⟩) 3)).bind fun v607 =>
(asI .i64 v607).bind fun n608 =>
if ((n606 : Int) != n608) = true then
(some (.ret, (false, s18.2.1, s18.2.2), w448))
else
((World.cell? w448 (Addr.add (⟨r438.2.heap.size, 0, none⟩) 6)).bind fun v609 =>
(asI .u64 v609).bind fun n610 =>
(World.cell? w448 (Addr.add (⟨r438.2.heap.size, 0, none⟩) 2)).bind fun v611 =>
(asI .u64 v611).bind fun n612 =>
if ((n610 : Int) != n612) = true then
(some (.ret, (false, s18.2.1, s18.2.2), w448))
else
((World.cell? w448 (Addr.add (⟨r438.2.heap.size, 0, none⟩) 1)).bind fun v613 =>
(asI .i64 v613).bind fun n614 =>
(World.cell? w448 (Addr.add (⟨r5.2.heap.size, 0, none⟩) 1)).bind fun v615 =>
(asI .i64 v615).bind fun n616 =>
if (decide ((n614 : Int) < n616)) = true then
(some (.ret, (false, s18.2.1, s18.2.2), w448))
else
((ldN w448 (⟨r438.2.heap.size, 0, none⟩) 0 8).bind fun l617 =>
(asI .i64 (l617.getD 0 undef)).bind fun n618 =>
(asI .i64 (l617.getD 1 undef)).bind fun n619 =>
(asI .u64 (l617.getD 2 undef)).bind fun n620 =>
(asI .i64 (l617.getD 3 undef)).bind fun n621 =>
(asSl (l617.getD 4 undef)).bind fun q622 =>
(asI .i64 (l617.getD 5 undef)).bind fun n623 =>
(asI .u64 (l617.getD 6 undef)).bind fun n624 =>
(asB (l617.getD 7 undef)).bind fun b625 =>
(stL w448 (⟨r5.2.heap.size, 0, none⟩) [.int .i64 n618, .int .i64 n619, .int .u64 n620, .int .i64 n621, .slice q622.1 q622.2.1 q622.2.2, .int .i64 n623, .int .u64 n624, .bool b625] 0).bind fun w626 =>
some (.normal, (s18.1, s18.2.1, (IntKind.i64.wrap (s18.2.2 + 1))), w626)))))
else
((World.cell? w448 (Addr.add (⟨r438.2.heap.size, 0, none⟩) 1)).bind fun v627 =>
(asI .i64 v627).bind fun n628 =>
(World.cell? w448 (Addr.add (⟨r5.2.heap.size, 0, none⟩) 1)).bind fun v629 =>
(asI .i64 v629).bind fun n630 =>
if (decide ((n628 : Int) < n630)) = true then
(some (.ret, (false, s18.2.1, s18.2.2), w448))
else
((ldN w448 (⟨r438.2.heap.size, 0, none⟩) 0 8).bind fun l631 =>
(asI .i64 (l631.getD 0 undef)).bind fun n632 =>
(asI .i64 (l631.getD 1 undef)).bind fun n633 =>
(asI .u64 (l631.getD 2 undef)).bind fun n634 =>
(asI .i64 (l631.getD 3 undef)).bind fun n635 =>
(asSl (l631.getD 4 undef)).bind fun q636 =>
(asI .i64 (l631.getD 5 undef)).bind fun n637 =>
(asI .u64 (l631.getD 6 undef)).bind fun n638 =>
(asB (l631.getD 7 undef)).bind fun b639 =>
(stL w448 (⟨r5.2.heap.size, 0, none⟩) [.int .i64 n632, .int .i64 n633, .int .u64 n634, .int .i64 n635, .slice q636.1 q636.2.1 q636.2.2, .int .i64 n637, .int .u64 n638, .bool b639] 0).bind fun w640 =>
some (.normal, (s18.1, s18.2.1, (IntKind.i64.wrap (s18.2.2 + 1))), w640))))))))
else
((World.cell? w448 (Addr.add (⟨r438.2.heap.size, 0, none⟩) 2)).bind fun v641 =>
(asI .u64 v641).bind fun n642 =>
(World.cell? w448 (Addr.add (⟨r5.2.heap.size, 0, none⟩) 2)).bind fun v643 =>
(asI .u64 v643).bind fun n644 =>
if ((n642 : Int) != n644) = true then
((World.cell? w448 (Addr.add (⟨r438.2.heap.size, 0, none⟩) 3)).bind fun v645 =>
(asI .i64 v645).bind fun n646 =>
if ((n646 : Int) != 0) = true then
(some (.ret, (false, s18.2.1, s18.2.2), w448))
else
((World.cell? w448 (⟨r438.2.heap.size, 0, none⟩)).bind fun v647 =>
(asI .i64 v647).bind fun n648 =>
if ((n648 : Int) == 2) = true then
((World.cell? w448 (Addr.add (⟨r438.2.heap.size, 0, none⟩) 4)).bind fun v649 =>
(asSl v649).bind fun q650 =>
if (!(true == (decide (((q650.2.1 : Int) : Int) > 0)))) = true then
(some (.ret, (false, s18.2.1, s18.2.2), w448))
else
((World.cell? w448 (⟨r438.2.heap.size, 0, none⟩)).bind fun v652 =>
(asI .i64 v652).bind fun n653 =>
if ((n653 : Int) == 3) = true then
((World.cell? w448 (Addr.add (⟨r438.2.heap.size, 0, none⟩) 5)).bind fun v654 =>
(asI .i64 v654).bind fun n655 =>
(World.cell? w448 (Addr.add (⟨r438.2.heap.size, 0, none⟩) 3)).bind fun v656 =>
(asI .i64 v656).bind fun n657 =>
if ((n655 : Int) != n657) = true then
(some (.ret, (false, s18.2.1, s18.2.2), w448))
else
((World.cell? w448 (Addr.add (⟨r438.2.heap.size, 0, none⟩) 6)).bind fun v658 =>
(asI .u64 v658).bind fun n659 =>
(World.cell? w448 (Addr.add (⟨r438.2.heap.size, 0, none⟩) 2)).bind fun v660 =>
(asI .u64 v660).bind fun n661 =>
if ((n659 : Int) != n661) = true then
(some (.ret, (false, s18.2.1, s18.2.2), w448))
else
((World.cell? w448 (Addr.add (⟨r438.2.heap.size, 0, none⟩) 1)).bind fun v662 =>
(asI .i64 v662).bind fun n663 =>
(World.cell? w448 (Addr.add (⟨r5.2.heap.size, 0, none⟩) 1)).bind fun v664 =>
(asI .i64 v664).bind fun n665 =>
if (decide ((n663 : Int) < n665)) = true then
(some (.ret, (false, s18.2.1, s18.2.2), w448))
else
((ldN w448 (⟨r438.2.heap.size, 0, none⟩) 0 8).bind fun l666 =>
(asI .i64 (l666.getD 0 undef)).bind fun n667 =>
(asI .i64 (l666.getD 1 undef)).bind fun n668 =>
(asI .u64 (l666.getD 2 undef)).bind fun n669 =>
(asI .i64 (l666.getD 3 undef)).bind fun n670 =>
(asSl (l666.getD 4 undef)).bind fun q671 =>
(asI .i64 (l666.getD 5 undef)).bind fun n672 =>
(asI .u64 (l666.getD 6 undef)).bind fun n673 =>
(asB (l666.getD 7 undef)).bind fun b674 =>
(stL w448 (⟨r5.2.heap.size, 0, none⟩) [.int .i64 n667, .int .i64 n668, .int .u64 n669, .int .i64 n670, .slice q671.1 q671.2.1 q671.2.2, .int .i64 n672, .int .u64 n673, .bool b674] 0).bind fun w675 =>
some (.normal, (s18.1, s18.2.1, (IntKind.i64.wrap (s18.2.2 + 1))), w675)))))
else
((World.cell? w448 (Addr.add (⟨r438.2.heap.size, 0, none⟩) 1)).bind fun v676 =>
(asI .i64 v676).bind fun n677 =>
(World.cell? w448 (Addr.add (⟨r5.2.heap.size, 0, none⟩) 1)).bind fun v678 =>
(asI .i64 v678).bind fun n679 =>
if (decide ((n677 : Int) < n679)) = true then
(some (.ret, (false, s18.2.1, s18.2.2), w448))
else
((ldN w448 (⟨r438.2.heap.size, 0, none⟩) 0 8).bind fun l680 =>
(asI .i64 (l680.getD 0 undef)).bind fun n681 =>
(asI .i64 (l680.getD 1 undef)).bind fun n682 =>
(asI .u64 (l680.getD 2 undef)).bind fun n683 =>
(asI .i64 (l680.getD 3 undef)).bind fun n684 =>
(asSl (l680.getD 4 undef)).bind fun q685 =>
(asI .i64 (l680.getD 5 undef)).bind fun n686 =>
(asI .u64 (l680.getD 6 undef)).bind fun n687 =>
(asB (l680.getD 7 undef)).bind fun b688 =>
(stL w448 (⟨r5.2.heap.size, 0, none⟩) [.int .i64 n681, .int .i64 n682, .int .u64 n683, .int .i64 n684, .slice q685.1 q685.2.1 q685.2.2, .int .i64 n686, .int .u64 n687, .bool b688] 0).bind fun w689 =>
some (.normal, (s18.1, s18.2.1, (IntKind.i64.wrap (s18.2.2 + 1))), w689)))))
else
((World.cell? w448 (⟨r438.2.heap.size, 0, none⟩)).bind fun v690 =>
(asI .i64 v690).bind fun n691 =>
(World.cell? w448 (Addr.add (⟨r438.2.heap.size, 0, none⟩) 4)).bind fun v692 =>
(asSl v692).bind fun q693 =>
if (!(((n691 : Int) == 3) == (decide (((q693.2.1 : Int) : Int) > 0)))) = true then
(some (.ret, (false, s18.2.1, s18.2.2), w448))
else
((World.cell? w448 (⟨r438.2.heap.size, 0, none⟩)).bind fun v695 =>
(asI .i64 v695).bind fun n696 =>
if ((n696 : Int) == 3) = true then
((World.cell? w448 (Addr.add (⟨r438.2.heap.size, 0, none⟩) 5)).bind fun v697 =>
(asI .i64 v697).bind fun n698 =>
(World.cell? w448 (Addr.add (⟨r438.2.heap.size, 0, none⟩) 3)).bind fun v699 =>
(asI .i64 v699).bind fun n700 =>
if ((n698 : Int) != n700) = true then
(some (.ret, (false, s18.2.1, s18.2.2), w448))
else
((World.cell? w448 (Addr.add (⟨r438.2.heap.size, 0, none⟩) 6)).bind fun v701 =>
(asI .u64 v701).bind fun n702 =>
(World.cell? w448 (Addr.add (⟨r438.2.heap.size, 0, none⟩) 2)).bind fun v703 =>
(asI .u64 v703).bind fun n704 =>
if ((n702 : Int) != n704) = true then
(some (.ret, (false, s18.2.1, s18.2.2), w448))
else
((World.cell? w448 (Addr.add (⟨r438.2.heap.size, 0, none⟩) 1)).bind fun v705 =>
(asI .i64 v705).bind fun n706 =>
(World.cell? w448 (Addr.add (⟨r5.2.heap.size, 0, none⟩) 1)).bind fun v707 =>
(asI .i64 v707).bind fun n708 =>
if (decide ((n706 : Int) < n708)) = true then
(some (.ret, (false, s18.2.1, s18.2.2), w448))
else
((ldN w448 (⟨r438.2.heap.size, 0, none⟩) 0 8).bind fun l709 =>
(asI .i64 (l709.getD 0 undef)).bind fun n710 =>
(asI .i64 (l709.getD 1 undef)).bind fun n711 =>
(asI .u64 (l709.getD 2 undef)).bind fun n712 =>
(asI .i64 (l709.getD 3 undef)).bind fun n713 =>
(asSl (l709.getD 4 undef)).bind fun q714 =>
(asI .i64 (l709.getD 5 undef)).bind fun n715 =>
(asI .u64 (l709.getD 6 undef)).bind fun n716 =>
(asB (l709.getD 7 undef)).bind fun b717 =>
(stL w448 (⟨r5.2.heap.size, 0, none⟩) [.int .i64 n710, .int .i64 n711, .int .u64 n712, .int .i64 n713, .slice q714.1 q714.2.1 q714.2.2, .int .i64 n715, .int .u64 n716, .bool b717] 0).bind fun w718 =>
some (.normal, (s18.1, s18.2.1, (IntKind.i64.wrap (s18.2.2 + 1))), w718)))))
else
((World.cell? w448 (Addr.add (⟨r438.2.heap.size, 0, none⟩) 1)).bind fun v719 =>
(asI .i64 v719).bind fun n720 =>
(World.cell? w448 (Addr.add (⟨r5.2.heap.size, 0, none⟩) 1)).bind fun v721 =>
(asI .i64 v721).bind fun n722 =>
if (decide ((n720 : Int) < n722)) = true then
(some (.ret, (false, s18.2.1, s18.2.2), w448))
else
((ldN w448 (⟨r438.2.heap.size, 0, none⟩) 0 8).bind fun l723 =>
(asI .i64 (l723.getD 0 undef)).bind fun n724 =>
(asI .i64 (l723.getD 1 undef)).bind fun n725 =>
(asI .u64 (l723.getD 2 undef)).bind fun n726 =>
(asI .i64 (l723.getD 3 undef)).bind fun n727 =>
(asSl (l723.getD 4 undef)).bind fun q728 =>
(asI .i64 (l723.getD 5 undef)).bind fun n729 =>
(asI .u64 (l723.getD 6 undef)).bind fun n730 =>
(asB (l723.getD 7 undef)).bind fun b731 =>
(stL w448 (⟨r5.2.heap.size, 0, none⟩) [.int .i64 n724, .int .i64 n725, .int .u64 n726, .int .i64 n727, .slice q728.1 q728.2.1 q728.2.2, .int .i64 n729, .int .u64 n730, .bool b731] 0).bind fun w732 =>
some (.normal, (s18.1, s18.2.1, (IntKind.i64.wrap (s18.2.2 + 1))), w732)))))))
else
((World.cell? w448 (⟨r438.2.heap.size, 0, none⟩)).bind fun v733 =>
(asI .i64 v733).bind fun n734 =>
if ((n734 : Int) == 2) = true then
((World.cell? w448 (Addr.add (⟨r438.2.heap.size, 0, none⟩) 4)).bind fun v735 =>
(asSl v735).bind fun q736 =>
if (!(true == (decide (((q736.2.1 : Int) : Int) > 0)))) = true then
(some (.ret, (false, s18.2.1, s18.2.2), w448))
else
((World.cell? w448 (⟨r438.2.heap.size, 0, none⟩)).bind fun v738 =>
(asI .i64 v738).bind fun n739 =>
if ((n739 : Int) == 3) = true then
((World.cell? w448 (Addr.add (⟨r438.2.heap.size, 0, none⟩) 5)).bind fun v740 =>
(asI .i64 v740).bind fun n741 =>
(World.cell? w448 (Addr.add (⟨r438.2.heap.size, 0, none⟩) 3)).bind fun v742 =>
(asI .i64 v742).bind fun n743 =>
if ((n741 : Int) != n743) = true then
(some (.ret, (false, s18.2.1, s18.2.2), w448))
else
((World.cell? w448 (Addr.add (⟨r438.2.heap.size, 0, none⟩) 6)).bind fun v744 =>
(asI .u64 v744).bind fun n745 =>
(World.cell? w448 (Addr.add (⟨r438.2.heap.size, 0, none⟩) 2)).bind fun v746 =>
(asI .u64 v746).bind fun n747 =>
if ((n745 : Int) != n747) = true then
(some (.ret, (false, s18.2.1, s18.2.2), w448))
else
((World.cell? w448 (Addr.add (⟨r438.2.heap.size, 0, none⟩) 1)).bind fun v748 =>
(asI .i64 v748).bind fun n749 =>
(World.cell? w448 (Addr.add (⟨r5.2.heap.size, 0, none⟩) 1)).bind fun v750 =>
(asI .i64 v750).bind fun n751 =>
if (decide ((n749 : Int) < n751)) = true then
(some (.ret, (false, s18.2.1, s18.2.2), w448))
else
((ldN w448 (⟨r438.2.heap.size, 0, none⟩) 0 8).bind fun l752 =>
(asI .i64 (l752.getD 0 undef)).bind fun n753 =>
(asI .i64 (l752.getD 1 undef)).bind fun n754 =>
(asI .u64 (l752.getD 2 undef)).bind fun n755 =>
(asI .i64 (l752.getD 3 undef)).bind fun n756 =>
(asSl (l752.getD 4 undef)).bind fun q757 =>
(asI .i64 (l752.getD 5 undef)).bind fun n758 =>
(asI .u64 (l752.getD 6 undef)).bind fun n759 =>
(asB (l752.getD 7 undef)).bind fun b760 =>
(stL w448 (⟨r5.2.heap.size, 0, none⟩) [.int .i64 n753, .int .i64 n754, .int .u64 n755, .int .i64 n756, .slice q757.1 q757.2.1 q757.2.2, .int .i64 n758, .int .u64 n759, .bool b760] 0).bind fun w761 =>
some (.normal, (s18.1, s18.2.1, (IntKind.i64.wrap (s18.2.2 + 1))), w761)))))
else
((World.cell? w448 (Addr.add (⟨r438.2.heap.size, 0, none⟩) 1)).bind fun v762 =>
(asI .i64 v762).bind fun n763 =>
(World.cell? w448 (Addr.add (⟨r5.2.heap.size, 0, none⟩) 1)).bind fun v764 =>
(asI .i64 v764).bind fun n765 =>
if (decide ((n763 : Int) < n765)) = true then
(some (.ret, (false, s18.2.1, s18.2.2), w448))
else
((ldN w448 (⟨r438.2.heap.size, 0, none⟩) 0 8).bind fun l766 =>
(asI .i64 (l766.getD 0 undef)).bind fun n767 =>
(asI .i64 (l766.getD 1 undef)).bind fun n768 =>
(asI .u64 (l766.getD 2 undef)).bind fun n769 =>
(asI .i64 (l766.getD 3 undef)).bind fun n770 =>
(asSl (l766.getD 4 undef)).bind fun q771 =>
(asI .i64 (l766.getD 5 undef)).bind fun n772 =>
(asI .u64 (l766.getD 6 undef)).bind fun n773 =>
(asB (l766.getD 7 undef)).bind fun b774 =>
(stL w448 (⟨r5.2.heap.size, 0, none⟩) [.int .i64 n767, .int .i64 n768, .int .u64 n769, .int .i64 n770, .slice q771.1 q771.2.1 q771.2.2, .int .i64 n772, .int .u64 n773, .bool b774] 0).bind fun w775 =>
some (.normal, (s18.1, s18.2.1, (IntKind.i64.wrap (s18.2.2 + 1))), w775)))))
else
((World.cell? w448 (⟨r438.2.heap.size, 0, none⟩)).bind fun v776 =>
(asI .i64 v776).bind fun n777 =>
(World.cell? w448 (Addr.add (⟨r438.2.heap.size, 0, none⟩) 4)).bind fun v778 =>
(asSl v778).bind fun q779 =>
if (!(((n777 : Int) == 3) == (decide (((q779.2.1 : Int) : Int) > 0)))) = true then
(some (.ret, (false, s18.2.1, s18.2.2), w448))
else
((World.cell? w448 (⟨r438.2.heap.size, 0, none⟩)).bind fun v781 =>
(asI .i64 v781).bind fun n782 =>
if ((n782 : Int) == 3) = true then
((World.cell? w448 (Addr.add (⟨r438.2.heap.size, 0, none⟩) 5)).bind fun v783 =>
(asI .i64 v783).bind fun n784 =>
(World.cell? w448 (Addr.add (⟨r438.2.heap.size, 0, none⟩) 3)).bind fun v785 =>
(asI .i64 v785).bind fun n786 =>
if ((n784 : Int) != n786) = true then
(some (.ret, (false, s18.2.1, s18.2.2), w448))
else
((World.cell? w448 (Addr.add (⟨r438.2.heap.size, 0, none⟩) 6)).bind fun v787 =>
(asI .u64 v787).bind fun n788 =>
(World.cell? w448 (Addr.add (⟨r438.2.heap.size, 0, none⟩) 2)).bind fun v789 =>
(asI .u64 v789).bind fun n790 =>
if ((n788 : Int) != n790) = true then
(some (.ret, (false, s18.2.1, s18.2.2), w448))
else
((World.cell? w448 (Addr.add (⟨r438.2.heap.size, 0, none⟩) 1)).bind fun v791 =>
(asI .i64 v791).bind fun n792 =>
(World.cell? w448 (Addr.add (⟨r5.2.heap.size, 0, none⟩) 1)).bind fun v793 =>
(asI .i64 v793).bind fun n794 =>
if (decide ((n792 : Int) < n794)) = true then
(some (.ret, (false, s18.2.1, s18.2.2), w448))
else
((ldN w448 (⟨r438.2.heap.size, 0, none⟩) 0 8).bind fun l795 =>
(asI .i64 (l795.getD 0 undef)).bind fun n796 =>
(asI .i64 (l795.getD 1 undef)).bind fun n797 =>
(asI .u64 (l795.getD 2 undef)).bind fun n798 =>
(asI .i64 (l795.getD 3 undef)).bind fun n799 =>
(asSl (l795.getD 4 undef)).bind fun q800 =>
(asI .i64 (l795.getD 5 undef)).bind fun n801 =>
(asI .u64 (l795.getD 6 undef)).bind fun n802 =>
(asB (l795.getD 7 undef)).bind fun b803 =>
(stL w448 (⟨r5.2.heap.size, 0, none⟩) [.int .i64 n796, .int .i64 n797, .int .u64 n798, .int .i64 n799, .slice q800.1 q800.2.1 q800.2.2, .int .i64 n801, .int .u64 n802, .bool b803] 0).bind fun w804 =>
some (.normal, (s18.1, s18.2.1, (IntKind.i64.wrap (s18.2.2 + 1))), w804)))))
else
((World.cell? w448 (Addr.add (⟨r438.2.heap.size, 0, none⟩) 1)).bind fun v805 =>
(asI .i64 v805).bind fun n806 =>
(World.cell? w448 (Addr.add (⟨r5.2.heap.size, 0, none⟩) 1)).bind fun v807 =>
(asI .i64 v807).bind fun n808 =>
if (decide ((n806 : Int) < n808)) = true then
(some (.ret, (false, s18.2.1, s18.2.2), w448))
else
((ldN w448 (⟨r438.2.heap.size, 0, none⟩) 0 8).bind fun l809 =>
(asI .i64 (l809.getD 0 undef)).bind fun n810 =>
(asI .i64 (l809.getD 1 undef)).bind fun n811 =>
(asI .u64 (l809.getD 2 undef)).bind fun n812 =>
(asI .i64 (l809.getD 3 undef)).bind fun n813 =>
(asSl (l809.getD 4 undef)).bind fun q814 =>
(asI .i64 (l809.getD 5 undef)).bind fun n815 =>
(asI .u64 (l809.getD 6 undef)).bind fun n816 =>
(asB (l809.getD 7 undef)).bind fun b817 =>
(stL w448 (⟨r5.2.heap.size, 0, none⟩) [.int .i64 n810, .int .i64 n811, .int .u64 n812, .int .i64 n813, .slice q814.1 q814.2.1 q814.2.2, .int .i64 n815, .int .u64 n816, .bool b817] 0).bind fun w818 =>
some (.normal, (s18.1, s18.2.1, (IntKind.i64.wrap (s18.2.2 + 1))), w818))))))))))))
else
(some ((.exit 0), (s18.1, s18.2.1, s18.2.2), w19))

noncomputable def g4_K819  : Exit → Env → World → Option (Value × World) :=
  retK Try.prog Try.f4.results.toList

noncomputable def g4_K820  : Exit → Env → World → Option (Value × World) :=
  seqK (ev Try.prog 115 4 g4_ann (cAt [1, 1, 1, 1, 1, 1] (bodyOf Try.f4)) [1, 1, 1, 1, 1, 1] g4_K819) g4_K819

noncomputable def g4_K821  : Exit → Env → World → Option (Value × World) :=
  blkK 0 g4_K820

/-- the loop, from a state on -/
noncomputable def g4_l17 (p2 : Option Addr) (r5 : Value × World) (u0 : Option Addr × Nat × Nat) (s : Bool × Int × Int) (w : World) : Option (Value × World) :=
  loopM Try.prog 115 4 g4_ann (cAt [1, 1, 1, 1, 1, 0, 1, 0, 0] (bodyOf Try.f4)) [0, 1, 0, 1, 1, 1, 1, 1] g4_K821 ((g4_l17_cs p2 r5 u0) ++ sputs [(2, .b), (4, .i .u64), (21, .i .i64)] s) w

/-- behind the loop, left by x0 -/
noncomputable def g4_l17_x0  (t822 : Bool × Int × Int) (w823 : World) : Option (Value × World) :=
some (.bool true, w823)

/-- behind the loop, left by ret -/
noncomputable def g4_l17_ret  (t824 : Bool × Int × Int) (w825 : World) : Option (Value × World) :=
some (.bool t824.1, w825)

noncomputable def g4 (u0 : Option Addr × Nat × Nat) (w0 : World) : Option (Value × World) :=
(callF Try.prog 10 #[] w0).bind fun r1 =>
(asP r1.1).bind fun p2 =>
(callF Try.prog 11 #[] r1.2).bind fun r3 =>
(asB r3.1).bind fun b4 =>
if (!b4) = true then
(some (.bool false, r3.2))
else
(if (p2.isNone) = true then
(some (.bool false, r3.2))
else
((callF Try.prog 21 #[.pointer p2, .int .i64 0] r3.2).bind fun r5 =>
(Ev.asAgg 8 r5.1).bind fun l6 =>
(asI .i64 (l6.getD 0 undef)).bind fun n7 =>
(asI .i64 (l6.getD 1 undef)).bind fun n8 =>
(asI .u64 (l6.getD 2 undef)).bind fun n9 =>
(asI .i64 (l6.getD 3 undef)).bind fun n10 =>
(asSl (l6.getD 4 undef)).bind fun q11 =>
(asI .i64 (l6.getD 5 undef)).bind fun n12 =>
(asI .u64 (l6.getD 6 undef)).bind fun n13 =>
(asB (l6.getD 7 undef)).bind fun b14 =>
(stL (World.alloc r5.2 (.cells #[.int .i64 0, .int .i64 0, .int .u64 0, .int .i64 0, .slice none 0 0, .int .i64 0, .int .u64 0, .bool false] 46)) (⟨r5.2.heap.size, 0, none⟩) [.int .i64 n7, .int .i64 n8, .int .u64 n9, .int .i64 n10, .slice q11.1 q11.2.1 q11.2.2, .int .i64 n12, .int .u64 n13, .bool b14] 0).bind fun w15 =>
g4_l17 p2 r5 u0 (false, 1, 0) w15))

theorem g4_eq (u0 : Option Addr × Nat × Nat) (w0 : World) : evFn Try.prog 4 g4_ann #[.slice u0.1 u0.2.1 u0.2.2] w0 = g4 u0 w0 := by kernel_rfl

theorem g4_call {u0 : Option Addr × Nat × Nat} {w0 : World} {r : Value × World} (h : g4 u0 w0 = some r) : callF Try.prog 4 #[.slice u0.1 u0.2.1 u0.2.2] w0 = some r :=
  callF_of_evFn (ann := g4_ann) Try.call4 (by kernel_rfl) ((g4_eq u0 w0).trans h)

theorem g4_l17_x0_of {p2 : Option Addr} {r5 : Value × World} {u0 : Option Addr × Nat × Nat} {s t : Bool × Int × Int} {w w' : World} (h : loopS (g4_l17_b u0 p2 r5) s w = some (.exit 0, t, w')) : g4_l17 p2 r5 u0 s w = g4_l17_x0 t w' := by
  have h1 : g4_l17 p2 r5 u0 s w = loopM Try.prog 115 4 g4_ann (cAt [1, 1, 1, 1, 1, 0, 1, 0, 0] (bodyOf Try.f4)) [0, 1, 0, 1, 1, 1, 1, 1] g4_K821 ((g4_l17_cs p2 r5 u0) ++ sputs [(2, .b), (4, .i .u64), (21, .i .i64)] s) w := by kernel_rfl
  have h2 : loopM Try.prog 115 4 g4_ann (cAt [1, 1, 1, 1, 1, 0, 1, 0, 0] (bodyOf Try.f4)) [0, 1, 0, 1, 1, 1, 1, 1] g4_K821 ((g4_l17_cs p2 r5 u0) ++ sputs [(2, .b), (4, .i .u64), (21, .i .i64)] s) w = g4_K821 (.exit 0) (puts 115 ((g4_l17_cs p2 r5 u0) ++ sputs [(2, .b), (4, .i .u64), (21, .i .i64)] t)) w' :=
    loop_rule (P := Try.prog) (N := 115) (f := 4) (ann := g4_ann) (body := (cAt [1, 1, 1, 1, 1, 0, 1, 0, 0] (bodyOf Try.f4))) (pt := [0, 1, 0, 1, 1, 1, 1, 1]) (K := g4_K821) (g4_l17_cs p2 r5 u0) [(2, .b), (4, .i .u64), (21, .i .i64)] (b := g4_l17_b u0 p2 r5) (fun s w => by kernel_rfl) (by kernel_rfl) (by kernel_rfl) (by kernel_rfl) h
  have h3 : g4_K821 (.exit 0) (puts 115 ((g4_l17_cs p2 r5 u0) ++ sputs [(2, .b), (4, .i .u64), (21, .i .i64)] t)) w' = g4_l17_x0 t w' := by kernel_rfl
  exact h1.trans (h2.trans h3)

theorem g4_l17_ret_of {p2 : Option Addr} {r5 : Value × World} {u0 : Option Addr × Nat × Nat} {s t : Bool × Int × Int} {w w' : World} (h : loopS (g4_l17_b u0 p2 r5) s w = some (.ret, t, w')) : g4_l17 p2 r5 u0 s w = g4_l17_ret t w' := by
  have h1 : g4_l17 p2 r5 u0 s w = loopM Try.prog 115 4 g4_ann (cAt [1, 1, 1, 1, 1, 0, 1, 0, 0] (bodyOf Try.f4)) [0, 1, 0, 1, 1, 1, 1, 1] g4_K821 ((g4_l17_cs p2 r5 u0) ++ sputs [(2, .b), (4, .i .u64), (21, .i .i64)] s) w := by kernel_rfl
  have h2 : loopM Try.prog 115 4 g4_ann (cAt [1, 1, 1, 1, 1, 0, 1, 0, 0] (bodyOf Try.f4)) [0, 1, 0, 1, 1, 1, 1, 1] g4_K821 ((g4_l17_cs p2 r5 u0) ++ sputs [(2, .b), (4, .i .u64), (21, .i .i64)] s) w = g4_K821 (.ret) (puts 115 ((g4_l17_cs p2 r5 u0) ++ sputs [(2, .b), (4, .i .u64), (21, .i .i64)] t)) w' :=
    loop_rule (P := Try.prog) (N := 115) (f := 4) (ann := g4_ann) (body := (cAt [1, 1, 1, 1, 1, 0, 1, 0, 0] (bodyOf Try.f4))) (pt := [0, 1, 0, 1, 1, 1, 1, 1]) (K := g4_K821) (g4_l17_cs p2 r5 u0) [(2, .b), (4, .i .u64), (21, .i .i64)] (b := g4_l17_b u0 p2 r5) (fun s w => by kernel_rfl) (by kernel_rfl) (by kernel_rfl) (by kernel_rfl) h
  have h3 : g4_K821 (.ret) (puts 115 ((g4_l17_cs p2 r5 u0) ++ sputs [(2, .b), (4, .i .u64), (21, .i .i64)] t)) w' = g4_l17_ret t w' := by kernel_rfl
  exact h1.trans (h2.trans h3)

end Go.Proofs.Ytlcojbodcbjkaaa
