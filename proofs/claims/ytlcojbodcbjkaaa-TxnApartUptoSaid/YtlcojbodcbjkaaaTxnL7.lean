/-
  TxnL7: lemmas on what Go functions of this seat come to (for whatever arguments, as each says). No condition but those that stand in each lemma.
-/
import Derived.Test.YtlcojbodcbjkaaaTxnF0
namespace Go.Proofs.Ytlcojbodcbjkaaa
open Go Go.Ev
set_option maxRecDepth 100000
set_option linter.unusedVariables false
/-! 7: penstock/penstocklaw15.TxnApart (a: []api.TxRec, b: []api.TxRec) -/
def g7_ann : List (List Nat × List Nat) := [([0, 1, 0, 1, 1, 1], [0, 1, 4, 5, 6, 7])]

def g7_l7_cs (u0 : Option Addr × Nat × Nat) (u1 : Option Addr × Nat × Nat) (p2 : Option Addr) (p4 : Option Addr) : List (Nat × Value) := ([(0, .slice u0.1 u0.2.1 u0.2.2), (1, .slice u1.1 u1.2.1 u1.2.2), (4, .bool false), (5, .pointer p2), (6, .pointer p4)] : List (Nat × Value))

/-- the round of a loop (penstock/penstocklaw15.TxnApart) -/
noncomputable def g7_l7_b (u0 : Option Addr × Nat × Nat) (p2 : Option Addr) (p4 : Option Addr) (u1 : Option Addr × Nat × Nat) (s8 : Int) (w9 : World) : Option (Exit × (Int) × World) :=
if (decide ((s8 : Int) < (u0.2.1 : Int))) = true then
(if (decide ((s8 : Int) < (u0.2.1 : Int))) = true then
((idxA u0.1 u0.2.1 7 s8).bind fun a13 =>
(ldN w9 a13 0 7).bind fun l14 =>
(asI .i64 (l14.getD 0 undef)).bind fun n15 =>
(asI .i64 (l14.getD 1 undef)).bind fun n16 =>
(asI .i64 (l14.getD 2 undef)).bind fun n17 =>
(asI .u64 (l14.getD 3 undef)).bind fun n18 =>
(asI .i64 (l14.getD 4 undef)).bind fun n19 =>
(asSl (l14.getD 5 undef)).bind fun q20 =>
(asB (l14.getD 6 undef)).bind fun b21 =>
(callF Try.prog 12 #[.agg #[.int .i64 n15, .int .i64 n16, .int .i64 n17, .int .u64 n18, .int .i64 n19, .slice q20.1 q20.2.1 q20.2.2, .bool b21]] w9).bind fun r22 =>
(Ev.asAgg 7 r22.1).bind fun l23 =>
(asI .i64 (l23.getD 0 undef)).bind fun n24 =>
(asI .i64 (l23.getD 1 undef)).bind fun n25 =>
(asI .i64 (l23.getD 2 undef)).bind fun n26 =>
(asI .u64 (l23.getD 3 undef)).bind fun n27 =>
(asI .i64 (l23.getD 4 undef)).bind fun n28 =>
(asSl (l23.getD 5 undef)).bind fun q29 =>
(asB (l23.getD 6 undef)).bind fun b30 =>
(stL (World.alloc r22.2 (.cells #[.int .i64 0, .int .i64 0, .int .i64 0, .int .u64 0, .int .i64 0, .slice none 0 0, .bool false] 30)) (⟨r22.2.heap.size, 0, none⟩) [.int .i64 n24, .int .i64 n25, .int .i64 n26, .int .u64 n27, .int .i64 n28, .slice q29.1 q29.2.1 q29.2.2, .bool b30] 0).bind fun w31 =>
(st1 w31 (Addr.add (⟨r22.2.heap.size, 0, none⟩) 1) (.int .i64 1)).bind fun w32 =>
(ldN w32 (⟨r22.2.heap.size, 0, none⟩) 0 7).bind fun l33 =>
(asI .i64 (l33.getD 0 undef)).bind fun n34 =>
(asI .i64 (l33.getD 1 undef)).bind fun n35 =>
(asI .i64 (l33.getD 2 undef)).bind fun n36 =>
(asI .u64 (l33.getD 3 undef)).bind fun n37 =>
(asI .i64 (l33.getD 4 undef)).bind fun n38 =>
(asSl (l33.getD 5 undef)).bind fun q39 =>
(asB (l33.getD 6 undef)).bind fun b40 =>
(callF Try.prog 13 #[.pointer p2, .agg #[.int .i64 n34, .int .i64 n35, .int .i64 n36, .int .u64 n37, .int .i64 n38, .slice q39.1 q39.2.1 q39.2.2, .bool b40]] w32).bind fun r41 =>
(asTup 0 r41.1).bind fun _ =>
(ldN r41.2 (⟨r22.2.heap.size, 0, none⟩) 0 7).bind fun l42 =>
(asI .i64 (l42.getD 0 undef)).bind fun n43 =>
(asI .i64 (l42.getD 1 undef)).bind fun n44 =>
(asI .i64 (l42.getD 2 undef)).bind fun n45 =>
(asI .u64 (l42.getD 3 undef)).bind fun n46 =>
(asI .i64 (l42.getD 4 undef)).bind fun n47 =>
(asSl (l42.getD 5 undef)).bind fun q48 =>
(asB (l42.getD 6 undef)).bind fun b49 =>
(callF Try.prog 13 #[.pointer p4, .agg #[.int .i64 n43, .int .i64 n44, .int .i64 n45, .int .u64 n46, .int .i64 n47, .slice q48.1 q48.2.1 q48.2.2, .bool b49]] r41.2).bind fun r50 =>
(asTup 0 r50.1).bind fun _ =>
if (decide ((s8 : Int) < (u1.2.1 : Int))) = true then
((idxA u1.1 u1.2.1 7 s8).bind fun a52 =>
(ldN r50.2 a52 0 7).bind fun l53 =>
(asI .i64 (l53.getD 0 undef)).bind fun n54 =>
(asI .i64 (l53.getD 1 undef)).bind fun n55 =>
(asI .i64 (l53.getD 2 undef)).bind fun n56 =>
(asI .u64 (l53.getD 3 undef)).bind fun n57 =>
(asI .i64 (l53.getD 4 undef)).bind fun n58 =>
(asSl (l53.getD 5 undef)).bind fun q59 =>
(asB (l53.getD 6 undef)).bind fun b60 =>
(callF Try.prog 12 #[.agg #[.int .i64 n54, .int .i64 n55, .int .i64 n56, .int .u64 n57, .int .i64 n58, .slice q59.1 q59.2.1 q59.2.2, .bool b60]] r50.2).bind fun r61 =>
(Ev.asAgg 7 r61.1).bind fun l62 =>
(asI .i64 (l62.getD 0 undef)).bind fun n63 =>
(asI .i64 (l62.getD 1 undef)).bind fun n64 =>
(asI .i64 (l62.getD 2 undef)).bind fun n65 =>
(asI .u64 (l62.getD 3 undef)).bind fun n66 =>
(asI .i64 (l62.getD 4 undef)).bind fun n67 =>
(asSl (l62.getD 5 undef)).bind fun q68 =>
(asB (l62.getD 6 undef)).bind fun b69 =>
(stL (World.alloc r61.2 (.cells #[.int .i64 0, .int .i64 0, .int .i64 0, .int .u64 0, .int .i64 0, .slice none 0 0, .bool false] 30)) (⟨r61.2.heap.size, 0, none⟩) [.int .i64 n63, .int .i64 n64, .int .i64 n65, .int .u64 n66, .int .i64 n67, .slice q68.1 q68.2.1 q68.2.2, .bool b69] 0).bind fun w70 =>
(st1 w70 (Addr.add (⟨r61.2.heap.size, 0, none⟩) 1) (.int .i64 2)).bind fun w71 =>
(ldN w71 (⟨r61.2.heap.size, 0, none⟩) 0 7).bind fun l72 =>
(asI .i64 (l72.getD 0 undef)).bind fun n73 =>
(asI .i64 (l72.getD 1 undef)).bind fun n74 =>
(asI .i64 (l72.getD 2 undef)).bind fun n75 =>
(asI .u64 (l72.getD 3 undef)).bind fun n76 =>
(asI .i64 (l72.getD 4 undef)).bind fun n77 =>
(asSl (l72.getD 5 undef)).bind fun q78 =>
(asB (l72.getD 6 undef)).bind fun b79 =>
(callF Try.prog 13 #[.pointer p2, .agg #[.int .i64 n73, .int .i64 n74, .int .i64 n75, .int .u64 n76, .int .i64 n77, .slice q78.1 q78.2.1 q78.2.2, .bool b79]] w71).bind fun r80 =>
(asTup 0 r80.1).bind fun _ =>
some (.normal, (IntKind.i64.wrap (s8 + 1)), r80.2))
else
(some (.normal, (IntKind.i64.wrap (s8 + 1)), r50.2)))
else
(if (decide ((s8 : Int) < (u1.2.1 : Int))) = true then
((idxA u1.1 u1.2.1 7 s8).bind fun a82 =>
(ldN w9 a82 0 7).bind fun l83 =>
(asI .i64 (l83.getD 0 undef)).bind fun n84 =>
(asI .i64 (l83.getD 1 undef)).bind fun n85 =>
(asI .i64 (l83.getD 2 undef)).bind fun n86 =>
(asI .u64 (l83.getD 3 undef)).bind fun n87 =>
(asI .i64 (l83.getD 4 undef)).bind fun n88 =>
(asSl (l83.getD 5 undef)).bind fun q89 =>
(asB (l83.getD 6 undef)).bind fun b90 =>
(callF Try.prog 12 #[.agg #[.int .i64 n84, .int .i64 n85, .int .i64 n86, .int .u64 n87, .int .i64 n88, .slice q89.1 q89.2.1 q89.2.2, .bool b90]] w9).bind fun r91 =>
(Ev.asAgg 7 r91.1).bind fun l92 =>
(asI .i64 (l92.getD 0 undef)).bind fun n93 =>
(asI .i64 (l92.getD 1 undef)).bind fun n94 =>
(asI .i64 (l92.getD 2 undef)).bind fun n95 =>
(asI .u64 (l92.getD 3 undef)).bind fun n96 =>
(asI .i64 (l92.getD 4 undef)).bind fun n97 =>
(asSl (l92.getD 5 undef)).bind fun q98 =>
(asB (l92.getD 6 undef)).bind fun b99 =>
(stL (World.alloc r91.2 (.cells #[.int .i64 0, .int .i64 0, .int .i64 0, .int .u64 0, .int .i64 0, .slice none 0 0, .bool false] 30)) (⟨r91.2.heap.size, 0, none⟩) [.int .i64 n93, .int .i64 n94, .int .i64 n95, .int .u64 n96, .int .i64 n97, .slice q98.1 q98.2.1 q98.2.2, .bool b99] 0).bind fun w100 =>
(st1 w100 (Addr.add (⟨r91.2.heap.size, 0, none⟩) 1) (.int .i64 2)).bind fun w101 =>
(ldN w101 (⟨r91.2.heap.size, 0, none⟩) 0 7).bind fun l102 =>
(asI .i64 (l102.getD 0 undef)).bind fun n103 =>
(asI .i64 (l102.getD 1 undef)).bind fun n104 =>
(asI .i64 (l102.getD 2 undef)).bind fun n105 =>
(asI .u64 (l102.getD 3 undef)).bind fun n106 =>
(asI .i64 (l102.getD 4 undef)).bind fun n107 =>
(asSl (l102.getD 5 undef)).bind fun q108 =>
(asB (l102.getD 6 undef)).bind fun b109 =>
(callF Try.prog 13 #[.pointer p2, .agg #[.int .i64 n103, .int .i64 n104, .int .i64 n105, .int .u64 n106, .int .i64 n107, .slice q108.1 q108.2.1 q108.2.2, .bool b109]] w101).bind fun r110 =>
(asTup 0 r110.1).bind fun _ =>
some (.normal, (IntKind.i64.wrap (s8 + 1)), r110.2))
else
(some (.normal, (IntKind.i64.wrap (s8 + 1)), w9))))
else
(if (decide ((s8 : Int) < (u1.2.1 : Int))) = true then
(if (decide ((s8 : Int) < (u0.2.1 : Int))) = true then
((idxA u0.1 u0.2.1 7 s8).bind fun a114 =>
(ldN w9 a114 0 7).bind fun l115 =>
(asI .i64 (l115.getD 0 undef)).bind fun n116 =>
(asI .i64 (l115.getD 1 undef)).bind fun n117 =>
(asI .i64 (l115.getD 2 undef)).bind fun n118 =>
(asI .u64 (l115.getD 3 undef)).bind fun n119 =>
(asI .i64 (l115.getD 4 undef)).bind fun n120 =>
(asSl (l115.getD 5 undef)).bind fun q121 =>
(asB (l115.getD 6 undef)).bind fun b122 =>
(callF Try.prog 12 #[.agg #[.int .i64 n116, .int .i64 n117, .int .i64 n118, .int .u64 n119, .int .i64 n120, .slice q121.1 q121.2.1 q121.2.2, .bool b122]] w9).bind fun r123 =>
(Ev.asAgg 7 r123.1).bind fun l124 =>
(asI .i64 (l124.getD 0 undef)).bind fun n125 =>
(asI .i64 (l124.getD 1 undef)).bind fun n126 =>
(asI .i64 (l124.getD 2 undef)).bind fun n127 =>
(asI .u64 (l124.getD 3 undef)).bind fun n128 =>
(asI .i64 (l124.getD 4 undef)).bind fun n129 =>
(asSl (l124.getD 5 undef)).bind fun q130 =>
(asB (l124.getD 6 undef)).bind fun b131 =>
(stL (World.alloc r123.2 (.cells #[.int .i64 0, .int .i64 0, .int .i64 0, .int .u64 0, .int .i64 0, .slice none 0 0, .bool false] 30)) (⟨r123.2.heap.size, 0, none⟩) [.int .i64 n125, .int .i64 n126, .int .i64 n127, .int .u64 n128, .int .i64 n129, .slice q130.1 q130.2.1 q130.2.2, .bool b131] 0).bind fun w132 =>
(st1 w132 (Addr.add (⟨r123.2.heap.size, 0, none⟩) 1) (.int .i64 1)).bind fun w133 =>
(ldN w133 (⟨r123.2.heap.size, 0, none⟩) 0 7).bind fun l134 =>
(asI .i64 (l134.getD 0 undef)).bind fun n135 =>
(asI .i64 (l134.getD 1 undef)).bind fun n136 =>
(asI .i64 (l134.getD 2 undef)).bind fun n137 =>
(asI .u64 (l134.getD 3 undef)).bind fun n138 =>
(asI .i64 (l134.getD 4 undef)).bind fun n139 =>
(asSl (l134.getD 5 undef)).bind fun q140 =>
(asB (l134.getD 6 undef)).bind fun b141 =>
(callF Try.prog 13 #[.pointer p2, .agg #[.int .i64 n135, .int .i64 n136, .int .i64 n137, .int .u64 n138, .int .i64 n139, .slice q140.1 q140.2.1 q140.2.2, .bool b141]] w133).bind fun r142 =>
(asTup 0 r142.1).bind fun _ =>
(ldN r142.2 (⟨r123.2.heap.size, 0, none⟩) 0 7).bind fun l143 =>
(asI .i64 (l143.getD 0 undef)).bind fun n144 =>
(asI .i64 (l143.getD 1 undef)).bind fun n145 =>
(asI .i64 (l143.getD 2 undef)).bind fun n146 =>
(asI .u64 (l143.getD 3 undef)).bind fun n147 =>
(asI .i64 (l143.getD 4 undef)).bind fun n148 =>
(asSl (l143.getD 5 undef)).bind fun q149 =>
(asB (l143.getD 6 undef)).bind fun b150 =>
(callF Try.prog 13 #[.pointer p4, .agg #[.int .i64 n144, .int .i64 n145, .int .i64 n146, .int .u64 n147, .int .i64 n148, .slice q149.1 q149.2.1 q149.2.2, .bool b150]] r142.2).bind fun r151 =>
(asTup 0 r151.1).bind fun _ =>
if (decide ((s8 : Int) < (u1.2.1 : Int))) = true then
((idxA u1.1 u1.2.1 7 s8).bind fun a153 =>
(ldN r151.2 a153 0 7).bind fun l154 =>
(asI .i64 (l154.getD 0 undef)).bind fun n155 =>
(asI .i64 (l154.getD 1 undef)).bind fun n156 =>
(asI .i64 (l154.getD 2 undef)).bind fun n157 =>
(asI .u64 (l154.getD 3 undef)).bind fun n158 =>
(asI .i64 (l154.getD 4 undef)).bind fun n159 =>
(asSl (l154.getD 5 undef)).bind fun q160 =>
(asB (l154.getD 6 undef)).bind fun b161 =>
(callF Try.prog 12 #[.agg #[.int .i64 n155, .int .i64 n156, .int .i64 n157, .int .u64 n158, .int .i64 n159, .slice q160.1 q160.2.1 q160.2.2, .bool b161]] r151.2).bind fun r162 =>
(Ev.asAgg 7 r162.1).bind fun l163 =>
(asI .i64 (l163.getD 0 undef)).bind fun n164 =>
(asI .i64 (l163.getD 1 undef)).bind fun n165 =>
(asI .i64 (l163.getD 2 undef)).bind fun n166 =>
(asI .u64 (l163.getD 3 undef)).bind fun n167 =>
(asI .i64 (l163.getD 4 undef)).bind fun n168 =>
(asSl (l163.getD 5 undef)).bind fun q169 =>
(asB (l163.getD 6 undef)).bind fun b170 =>
(stL (World.alloc r162.2 (.cells #[.int .i64 0, .int .i64 0, .int .i64 0, .int .u64 0, .int .i64 0, .slice none 0 0, .bool false] 30)) (⟨r162.2.heap.size, 0, none⟩) [.int .i64 n164, .int .i64 n165, .int .i64 n166, .int .u64 n167, .int .i64 n168, .slice q169.1 q169.2.1 q169.2.2, .bool b170] 0).bind fun w171 =>
(st1 w171 (Addr.add (⟨r162.2.heap.size, 0, none⟩) 1) (.int .i64 2)).bind fun w172 =>
(ldN w172 (⟨r162.2.heap.size, 0, none⟩) 0 7).bind fun l173 =>
(asI .i64 (l173.getD 0 undef)).bind fun n174 =>
(asI .i64 (l173.getD 1 undef)).bind fun n175 =>
(asI .i64 (l173.getD 2 undef)).bind fun n176 =>
(asI .u64 (l173.getD 3 undef)).bind fun n177 =>
(asI .i64 (l173.getD 4 undef)).bind fun n178 =>
(asSl (l173.getD 5 undef)).bind fun q179 =>
(asB (l173.getD 6 undef)).bind fun b180 =>
(callF Try.prog 13 #[.pointer p2, .agg #[.int .i64 n174, .int .i64 n175, .int .i64 n176, .int .u64 n177, .int .i64 n178, .slice q179.1 q179.2.1 q179.2.2, .bool b180]] w172).bind fun r181 =>
(asTup 0 r181.1).bind fun _ =>
some (.normal, (IntKind.i64.wrap (s8 + 1)), r181.2))
else
(some (.normal, (IntKind.i64.wrap (s8 + 1)), r151.2)))
else
(if (decide ((s8 : Int) < (u1.2.1 : Int))) = true then
((idxA u1.1 u1.2.1 7 s8).bind fun a183 =>
(ldN w9 a183 0 7).bind fun l184 =>
(asI .i64 (l184.getD 0 undef)).bind fun n185 =>
(asI .i64 (l184.getD 1 undef)).bind fun n186 =>
(asI .i64 (l184.getD 2 undef)).bind fun n187 =>
(asI .u64 (l184.getD 3 undef)).bind fun n188 =>
(asI .i64 (l184.getD 4 undef)).bind fun n189 =>
(asSl (l184.getD 5 undef)).bind fun q190 =>
(asB (l184.getD 6 undef)).bind fun b191 =>
(callF Try.prog 12 #[.agg #[.int .i64 n185, .int .i64 n186, .int .i64 n187, .int .u64 n188, .int .i64 n189, .slice q190.1 q190.2.1 q190.2.2, .bool b191]] w9).bind fun r192 =>
(Ev.asAgg 7 r192.1).bind fun l193 =>
(asI .i64 (l193.getD 0 undef)).bind fun n194 =>
(asI .i64 (l193.getD 1 undef)).bind fun n195 =>
(asI .i64 (l193.getD 2 undef)).bind fun n196 =>
(asI .u64 (l193.getD 3 undef)).bind fun n197 =>
(asI .i64 (l193.getD 4 undef)).bind fun n198 =>
(asSl (l193.getD 5 undef)).bind fun q199 =>
(asB (l193.getD 6 undef)).bind fun b200 =>
(stL (World.alloc r192.2 (.cells #[.int .i64 0, .int .i64 0, .int .i64 0, .int .u64 0, .int .i64 0, .slice none 0 0, .bool false] 30)) (⟨r192.2.heap.size, 0, none⟩) [.int .i64 n194, .int .i64 n195, .int .i64 n196, .int .u64 n197, .int .i64 n198, .slice q199.1 q199.2.1 q199.2.2, .bool b200] 0).bind fun w201 =>
(st1 w201 (Addr.add (⟨r192.2.heap.size, 0, none⟩) 1) (.int .i64 2)).bind fun w202 =>
(ldN w202 (⟨r192.2.heap.size, 0, none⟩) 0 7).bind fun l203 =>
(asI .i64 (l203.getD 0 undef)).bind fun n204 =>
(asI .i64 (l203.getD 1 undef)).bind fun n205 =>
(asI .i64 (l203.getD 2 undef)).bind fun n206 =>
(asI .u64 (l203.getD 3 undef)).bind fun n207 =>
(asI .i64 (l203.getD 4 undef)).bind fun n208 =>
(asSl (l203.getD 5 undef)).bind fun q209 =>
(asB (l203.getD 6 undef)).bind fun b210 =>
(callF Try.prog 13 #[.pointer p2, .agg #[.int .i64 n204, .int .i64 n205, .int .i64 n206, .int .u64 n207, .int .i64 n208, .slice q209.1 q209.2.1 q209.2.2, .bool b210]] w202).bind fun r211 =>
(asTup 0 r211.1).bind fun _ =>
some (.normal, (IntKind.i64.wrap (s8 + 1)), r211.2))
else
(some (.normal, (IntKind.i64.wrap (s8 + 1)), w9))))
else
(some ((.exit 0), s8, w9)))

noncomputable def g7_K212  : Exit → Env → World → Option (Value × World) :=
  retK Try.prog Try.f7.results.toList

noncomputable def g7_K213  : Exit → Env → World → Option (Value × World) :=
  seqK (ev Try.prog 81 7 g7_ann (cAt [1, 1, 1, 1] (bodyOf Try.f7)) [1, 1, 1, 1] g7_K212) g7_K212

noncomputable def g7_K214  : Exit → Env → World → Option (Value × World) :=
  blkK 0 g7_K213

/-- the loop, from a state on -/
noncomputable def g7_l7 (u0 : Option Addr × Nat × Nat) (u1 : Option Addr × Nat × Nat) (p2 : Option Addr) (p4 : Option Addr) (s : Int) (w : World) : Option (Value × World) :=
  loopM Try.prog 81 7 g7_ann (cAt [1, 1, 1, 0, 1, 0, 0] (bodyOf Try.f7)) [0, 1, 0, 1, 1, 1] g7_K214 ((g7_l7_cs u0 u1 p2 p4) ++ sputs [(7, .i .i64)] s) w

/-- behind the loop, left by x0 -/
noncomputable def g7_l7_x0 (p2 : Option Addr) (p4 : Option Addr) (u1 : Option Addr × Nat × Nat) (t215 : Int) (w216 : World) : Option (Value × World) :=
(callF Try.prog 21 #[.pointer p2, .int .i64 1] w216).bind fun r217 =>
(Ev.asAgg 8 r217.1).bind fun l218 =>
(asI .i64 (l218.getD 0 undef)).bind fun n219 =>
(asI .i64 (l218.getD 1 undef)).bind fun n220 =>
(asI .u64 (l218.getD 2 undef)).bind fun n221 =>
(asI .i64 (l218.getD 3 undef)).bind fun n222 =>
(asSl (l218.getD 4 undef)).bind fun q223 =>
(asI .i64 (l218.getD 5 undef)).bind fun n224 =>
(asI .u64 (l218.getD 6 undef)).bind fun n225 =>
(asB (l218.getD 7 undef)).bind fun b226 =>
(callF Try.prog 21 #[.pointer p4, .int .i64 1] r217.2).bind fun r227 =>
(Ev.asAgg 8 r227.1).bind fun l228 =>
(asI .i64 (l228.getD 0 undef)).bind fun n229 =>
(asI .i64 (l228.getD 1 undef)).bind fun n230 =>
(asI .u64 (l228.getD 2 undef)).bind fun n231 =>
(asI .i64 (l228.getD 3 undef)).bind fun n232 =>
(asSl (l228.getD 4 undef)).bind fun q233 =>
(asI .i64 (l228.getD 5 undef)).bind fun n234 =>
(asI .u64 (l228.getD 6 undef)).bind fun n235 =>
(asB (l228.getD 7 undef)).bind fun b236 =>
(callF Try.prog 22 #[.agg #[.int .i64 n219, .int .i64 n220, .int .u64 n221, .int .i64 n222, .slice q223.1 q223.2.1 q223.2.2, .int .i64 n224, .int .u64 n225, .bool b226], .agg #[.int .i64 n229, .int .i64 n230, .int .u64 n231, .int .i64 n232, .slice q233.1 q233.2.1 q233.2.2, .int .i64 n234, .int .u64 n235, .bool b236]] r227.2).bind fun r237 =>
(asB r237.1).bind fun b238 =>
if b238 = true then
((callF Try.prog 25 #[.pointer p2] r237.2).bind fun r240 =>
(asSl r240.1).bind fun q241 =>
(callF Try.prog 25 #[.pointer p4] r240.2).bind fun r243 =>
(asSl r243.1).bind fun q244 =>
some (.bool ((decide (((u1.2.1 : Int) : Int) > 0)) == (decide (((q241.2.1 : Int) : Int) > (q244.2.1 : Int)))), r243.2))
else
(some (.bool false, r237.2))

noncomputable def g7 (u0 : Option Addr × Nat × Nat) (u1 : Option Addr × Nat × Nat) (w0 : World) : Option (Value × World) :=
(callF Try.prog 10 #[] w0).bind fun r1 =>
(asP r1.1).bind fun p2 =>
(callF Try.prog 10 #[] r1.2).bind fun r3 =>
(asP r3.1).bind fun p4 =>
(callF Try.prog 11 #[] r3.2).bind fun r5 =>
(asB r5.1).bind fun b6 =>
if (!b6) = true then
(some (.bool false, r5.2))
else
(if (p2.isNone) = true then
(some (.bool false, r5.2))
else
(if (p4.isNone) = true then
(some (.bool false, r5.2))
else
(g7_l7 u0 u1 p2 p4 0 r5.2)))

theorem g7_eq (u0 : Option Addr × Nat × Nat) (u1 : Option Addr × Nat × Nat) (w0 : World) : evFn Try.prog 7 g7_ann #[.slice u0.1 u0.2.1 u0.2.2, .slice u1.1 u1.2.1 u1.2.2] w0 = g7 u0 u1 w0 := by kernel_rfl

theorem g7_call {u0 : Option Addr × Nat × Nat} {u1 : Option Addr × Nat × Nat} {w0 : World} {r : Value × World} (h : g7 u0 u1 w0 = some r) : callF Try.prog 7 #[.slice u0.1 u0.2.1 u0.2.2, .slice u1.1 u1.2.1 u1.2.2] w0 = some r :=
  callF_of_evFn (ann := g7_ann) Try.call7 (by kernel_rfl) ((g7_eq u0 u1 w0).trans h)

theorem g7_l7_x0_of {u0 : Option Addr × Nat × Nat} {u1 : Option Addr × Nat × Nat} {p2 : Option Addr} {p4 : Option Addr} {s t : Int} {w w' : World} (h : loopS (g7_l7_b u0 p2 p4 u1) s w = some (.exit 0, t, w')) : g7_l7 u0 u1 p2 p4 s w = g7_l7_x0 p2 p4 u1 t w' := by
  have h1 : g7_l7 u0 u1 p2 p4 s w = loopM Try.prog 81 7 g7_ann (cAt [1, 1, 1, 0, 1, 0, 0] (bodyOf Try.f7)) [0, 1, 0, 1, 1, 1] g7_K214 ((g7_l7_cs u0 u1 p2 p4) ++ sputs [(7, .i .i64)] s) w := by kernel_rfl
  have h2 : loopM Try.prog 81 7 g7_ann (cAt [1, 1, 1, 0, 1, 0, 0] (bodyOf Try.f7)) [0, 1, 0, 1, 1, 1] g7_K214 ((g7_l7_cs u0 u1 p2 p4) ++ sputs [(7, .i .i64)] s) w = g7_K214 (.exit 0) (puts 81 ((g7_l7_cs u0 u1 p2 p4) ++ sputs [(7, .i .i64)] t)) w' :=
    loop_rule (P := Try.prog) (N := 81) (f := 7) (ann := g7_ann) (body := (cAt [1, 1, 1, 0, 1, 0, 0] (bodyOf Try.f7))) (pt := [0, 1, 0, 1, 1, 1]) (K := g7_K214) (g7_l7_cs u0 u1 p2 p4) [(7, .i .i64)] (b := g7_l7_b u0 p2 p4 u1) (fun s w => by kernel_rfl) (by kernel_rfl) (by kernel_rfl) (by kernel_rfl) h
  have h3 : g7_K214 (.exit 0) (puts 81 ((g7_l7_cs u0 u1 p2 p4) ++ sputs [(7, .i .i64)] t)) w' = g7_l7_x0 p2 p4 u1 t w' := by kernel_rfl
  exact h1.trans (h2.trans h3)

end Go.Proofs.Ytlcojbodcbjkaaa
