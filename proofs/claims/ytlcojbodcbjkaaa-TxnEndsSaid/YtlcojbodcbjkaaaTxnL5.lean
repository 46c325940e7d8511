/-
  TxnL5: lemmas on what Go functions of this seat come to (for whatever arguments, as each says). No condition but those that stand in each lemma.
-/
import Derived.Test.YtlcojbodcbjkaaaTxnF0
namespace Go.Proofs.Ytlcojbodcbjkaaa
open Go Go.Ev
set_option maxRecDepth 100000
set_option linter.unusedVariables false
/-! 5: penstock/penstocklaw15.TxnEnds (script: []penstocklaw15.Op, commit: bool) -/
def g5_ann : List (List Nat × List Nat) := [([0, 1, 0, 1, 1, 1, 1], [1, 5, 41, 42, 6, 43])]

def g5_l6_cs (u1 : Bool) (p2 : Option Addr) (u0 : Option Addr × Nat × Nat) : List (Nat × Value) := ([(1, .bool u1), (5, .pointer p2), (41, .slice u0.1 u0.2.1 u0.2.2), (42, .int .i64 (u0.2.1 : Int))] : List (Nat × Value))

/-- the round of a loop (penstock/penstocklaw15.TxnEnds) -/
noncomputable def g5_l6_b (u0 : Option Addr × Nat × Nat) (p2 : Option Addr) (u1 : Bool) (s7 : Int × Int) (w8 : World) : Option (Exit × (Int × Int) × World) :=
if (decide ((s7.2 : Int) < (u0.2.1 : Int))) = true then
((idxA u0.1 u0.2.1 15 s7.2).bind fun a9 =>
(ldN w8 a9 0 15).bind fun l10 =>
(asI .i64 (l10.getD 0 undef)).bind fun n11 =>
(asI .i64 (l10.getD 1 undef)).bind fun n12 =>
(asI .i64 (l10.getD 2 undef)).bind fun n13 =>
(asI .i64 (l10.getD 3 undef)).bind fun n14 =>
(asI .i64 (l10.getD 4 undef)).bind fun n15 =>
(asI .u64 (l10.getD 5 undef)).bind fun n16 =>
(asB (l10.getD 6 undef)).bind fun b17 =>
(asB (l10.getD 7 undef)).bind fun b18 =>
(asI .i64 (l10.getD 8 undef)).bind fun n19 =>
(asI .i64 (l10.getD 9 undef)).bind fun n20 =>
(asI .i64 (l10.getD 10 undef)).bind fun n21 =>
(asI .u64 (l10.getD 11 undef)).bind fun n22 =>
(asI .i64 (l10.getD 12 undef)).bind fun n23 =>
(asSl (l10.getD 13 undef)).bind fun q24 =>
(asB (l10.getD 14 undef)).bind fun b25 =>
(stL (World.alloc w8 (.cells #[.int .i64 0, .int .i64 0, .int .i64 0, .int .i64 0, .int .i64 0, .int .u64 0, .bool false, .bool false, .int .i64 0, .int .i64 0, .int .i64 0, .int .u64 0, .int .i64 0, .slice none 0 0, .bool false] 32)) (⟨w8.heap.size, 0, none⟩) [.int .i64 n11, .int .i64 n12, .int .i64 n13, .int .i64 n14, .int .i64 n15, .int .u64 n16, .bool b17, .bool b18, .int .i64 n19, .int .i64 n20, .int .i64 n21, .int .u64 n22, .int .i64 n23, .slice q24.1 q24.2.1 q24.2.2, .bool b25] 0).bind fun w26 =>
(ldN w26 (⟨w8.heap.size, 0, none⟩) 0 15).bind fun l27 =>
(asI .i64 (l27.getD 0 undef)).bind fun n28 =>
(asI .i64 (l27.getD 1 undef)).bind fun n29 =>
(asI .i64 (l27.getD 2 undef)).bind fun n30 =>
(asI .i64 (l27.getD 3 undef)).bind fun n31 =>
(asI .i64 (l27.getD 4 undef)).bind fun n32 =>
(asI .u64 (l27.getD 5 undef)).bind fun n33 =>
(asB (l27.getD 6 undef)).bind fun b34 =>
(asB (l27.getD 7 undef)).bind fun b35 =>
(asI .i64 (l27.getD 8 undef)).bind fun n36 =>
(asI .i64 (l27.getD 9 undef)).bind fun n37 =>
(asI .i64 (l27.getD 10 undef)).bind fun n38 =>
(asI .u64 (l27.getD 11 undef)).bind fun n39 =>
(asI .i64 (l27.getD 12 undef)).bind fun n40 =>
(asSl (l27.getD 13 undef)).bind fun q41 =>
(asB (l27.getD 14 undef)).bind fun b42 =>
(callF Try.prog 24 #[.pointer p2, .agg #[.int .i64 n28, .int .i64 n29, .int .i64 n30, .int .i64 n31, .int .i64 n32, .int .u64 n33, .bool b34, .bool b35, .int .i64 n36, .int .i64 n37, .int .i64 n38, .int .u64 n39, .int .i64 n40, .slice q41.1 q41.2.1 q41.2.2, .bool b42], .int .u64 s7.1] w26).bind fun r43 =>
(asB r43.1).bind fun b44 =>
if b44 = true then
(some (.normal, ((IntKind.u64.wrap (s7.1 + 1)), (IntKind.i64.wrap (s7.2 + 1))), r43.2))
else
(some (.normal, (s7.1, (IntKind.i64.wrap (s7.2 + 1))), r43.2)))
else
(some ((.exit 0), (s7.1, s7.2), w8))

noncomputable def g5_K45  : Exit → Env → World → Option (Value × World) :=
  retK Try.prog Try.f5.results.toList

noncomputable def g5_K46  : Exit → Env → World → Option (Value × World) :=
  seqK (ev Try.prog 238 5 g5_ann (cAt [1, 1, 1, 1, 1] (bodyOf Try.f5)) [1, 1, 1, 1, 1] g5_K45) g5_K45

noncomputable def g5_K47  : Exit → Env → World → Option (Value × World) :=
  blkK 0 g5_K46

/-- the loop, from a state on -/
noncomputable def g5_l6 (u1 : Bool) (p2 : Option Addr) (u0 : Option Addr × Nat × Nat) (s : Int × Int) (w : World) : Option (Value × World) :=
  loopM Try.prog 238 5 g5_ann (cAt [1, 1, 1, 1, 0, 1, 0, 0] (bodyOf Try.f5)) [0, 1, 0, 1, 1, 1, 1] g5_K47 ((g5_l6_cs u1 p2 u0) ++ sputs [(6, .i .u64), (43, .i .i64)] s) w

noncomputable def g5_j285 (t48 : Int × Int) (w214 : World) (x286 : Bool) (w287 : World) : Option (Value × World) :=
some (.bool x286, w287)

noncomputable def g5_j280a (t48 : Int × Int) (w214 : World) (x281 : Int) (x282 : Int) (w283 : World) : Option (Value × World) :=
g5_j285 t48 w214 ((x281 : Int) == x282) w283

noncomputable def g5_j280b (t48 : Int × Int) (w214 : World) : Option (Value × World) :=
g5_j285 t48 w214 false (World.drew w214)

noncomputable def g5_j245 (p2 : Option Addr) (t48 : Int × Int) (r50 : Value × World) (w214 : World) (x246 : Bool) : Option (Value × World) :=
if x246 = true then
(if (ahd (Region.schedule true (opsOf (cAt [1, 1, 1, 1, 1, 1, 1, 1, 1, 1, 1, 1, 1, 1, 1, 1, 1, 1, 1, 0] (bodyOf Try.f5))) (World.tape w214 (World.drawn w214) (.order 5 28))) 28 31 && true) = true then
((callF Try.prog 21 #[.pointer p2, .int .i64 0] (World.drew w214)).bind fun r250 =>
(Ev.asAgg 8 r250.1).bind fun l251 =>
(asI .i64 (l251.getD 0 undef)).bind fun n252 =>
(asI .i64 (l251.getD 1 undef)).bind fun n253 =>
(asI .u64 (l251.getD 2 undef)).bind fun n254 =>
(asI .i64 (l251.getD 3 undef)).bind fun n255 =>
(asSl (l251.getD 4 undef)).bind fun q256 =>
(asI .i64 (l251.getD 5 undef)).bind fun n257 =>
(asI .u64 (l251.getD 6 undef)).bind fun n258 =>
(asB (l251.getD 7 undef)).bind fun b259 =>
(World.cell? r250.2 (Addr.add (⟨r50.2.heap.size, 0, none⟩) 3)).bind fun v266 =>
(asI .i64 v266).bind fun n267 =>
g5_j280a t48 w214 n255 (IntKind.i64.wrap (n267 + 2)) r250.2)
else
((World.cell? (World.drew w214) (Addr.add (⟨r50.2.heap.size, 0, none⟩) 3)).bind fun v261 =>
(asI .i64 v261).bind fun n262 =>
(callF Try.prog 21 #[.pointer p2, .int .i64 0] (World.drew w214)).bind fun r269 =>
(Ev.asAgg 8 r269.1).bind fun l270 =>
(asI .i64 (l270.getD 0 undef)).bind fun n271 =>
(asI .i64 (l270.getD 1 undef)).bind fun n272 =>
(asI .u64 (l270.getD 2 undef)).bind fun n273 =>
(asI .i64 (l270.getD 3 undef)).bind fun n274 =>
(asSl (l270.getD 4 undef)).bind fun q275 =>
(asI .i64 (l270.getD 5 undef)).bind fun n276 =>
(asI .u64 (l270.getD 6 undef)).bind fun n277 =>
(asB (l270.getD 7 undef)).bind fun b278 =>
g5_j280a t48 w214 n274 (IntKind.i64.wrap (n262 + 2)) r269.2))
else
(if (ahd (Region.schedule true (opsOf (cAt [1, 1, 1, 1, 1, 1, 1, 1, 1, 1, 1, 1, 1, 1, 1, 1, 1, 1, 1, 0] (bodyOf Try.f5))) (World.tape w214 (World.drawn w214) (.order 5 28))) 28 31 && true) = true then
(g5_j280b t48 w214)
else
(g5_j280b t48 w214))

noncomputable def g5_j240 (p2 : Option Addr) (t48 : Int × Int) (r50 : Value × World) (n213 : Int) (w214 : World) (x241 : Bool) : Option (Value × World) :=
if x241 = true then
(g5_j245 p2 t48 r50 w214 ((n213 : Int) == 10))
else
(g5_j245 p2 t48 r50 w214 false)

noncomputable def g5_j235 (p2 : Option Addr) (t48 : Int × Int) (r50 : Value × World) (n198 : Int) (n213 : Int) (w214 : World) (x236 : Bool) : Option (Value × World) :=
if x236 = true then
(g5_j240 p2 t48 r50 n213 w214 ((n198 : Int) == 10))
else
(g5_j240 p2 t48 r50 n213 w214 false)

noncomputable def g5_j230 (p2 : Option Addr) (t48 : Int × Int) (r50 : Value × World) (n181 : Int) (n198 : Int) (n213 : Int) (w214 : World) (x231 : Bool) : Option (Value × World) :=
if x231 = true then
(g5_j235 p2 t48 r50 n198 n213 w214 ((n181 : Int) == 14))
else
(g5_j235 p2 t48 r50 n198 n213 w214 false)

noncomputable def g5_j225 (p2 : Option Addr) (t48 : Int × Int) (r50 : Value × World) (n164 : Int) (n181 : Int) (n198 : Int) (n213 : Int) (w214 : World) (x226 : Bool) : Option (Value × World) :=
if x226 = true then
(g5_j230 p2 t48 r50 n181 n198 n213 w214 ((n164 : Int) == 0))
else
(g5_j230 p2 t48 r50 n181 n198 n213 w214 false)

noncomputable def g5_j220 (p2 : Option Addr) (t48 : Int × Int) (r50 : Value × World) (n146 : Int) (n164 : Int) (n181 : Int) (n198 : Int) (n213 : Int) (w214 : World) (x221 : Bool) : Option (Value × World) :=
if x221 = true then
(g5_j225 p2 t48 r50 n164 n181 n198 n213 w214 ((n146 : Int) == 16))
else
(g5_j225 p2 t48 r50 n164 n181 n198 n213 w214 false)

/-- behind the loop, left by x0 -/
noncomputable def g5_l6_x0 (p2 : Option Addr) (u1 : Bool) (t48 : Int × Int) (w49 : World) : Option (Value × World) :=
(callF Try.prog 21 #[.pointer p2, .int .i64 0] w49).bind fun r50 =>
(Ev.asAgg 8 r50.1).bind fun l51 =>
(asI .i64 (l51.getD 0 undef)).bind fun n52 =>
(asI .i64 (l51.getD 1 undef)).bind fun n53 =>
(asI .u64 (l51.getD 2 undef)).bind fun n54 =>
(asI .i64 (l51.getD 3 undef)).bind fun n55 =>
(asSl (l51.getD 4 undef)).bind fun q56 =>
(asI .i64 (l51.getD 5 undef)).bind fun n57 =>
(asI .u64 (l51.getD 6 undef)).bind fun n58 =>
(asB (l51.getD 7 undef)).bind fun b59 =>
(stL (World.alloc r50.2 (.cells #[.int .i64 0, .int .i64 0, .int .u64 0, .int .i64 0, .slice none 0 0, .int .i64 0, .int .u64 0, .bool false] 46)) (⟨r50.2.heap.size, 0, none⟩) [.int .i64 n52, .int .i64 n53, .int .u64 n54, .int .i64 n55, .slice q56.1 q56.2.1 q56.2.2, .int .i64 n57, .int .u64 n58, .bool b59] 0).bind fun w60 =>
(World.cell? w60 (Addr.add (⟨r50.2.heap.size, 0, none⟩) 2)).bind fun v61 =>
(asI .u64 v61).bind fun n62 =>
(World.cell? w60 (Addr.add (⟨r50.2.heap.size, 0, none⟩) 3)).bind fun v63 =>
(asI .i64 v63).bind fun n64 =>
(callF Try.prog 18 #[.pointer p2, .int .i64 0, .int .u64 n62, .int .i64 n64, .bool u1] w60).bind fun r65 =>
(asTup 3 r65.1).bind fun l66 =>
(Ev.asAgg 7 (l66.getD 0 undef)).bind fun l67 =>
(asI .i64 (l67.getD 0 undef)).bind fun n68 =>
(asI .i64 (l67.getD 1 undef)).bind fun n69 =>
(asI .i64 (l67.getD 2 undef)).bind fun n70 =>
(asI .u64 (l67.getD 3 undef)).bind fun n71 =>
(asI .i64 (l67.getD 4 undef)).bind fun n72 =>
(asSl (l67.getD 5 undef)).bind fun q73 =>
(asB (l67.getD 6 undef)).bind fun b74 =>
(asB (l66.getD 1 undef)).bind fun b75 =>
(asI .i64 (l66.getD 2 undef)).bind fun n76 =>
(stL (World.alloc r65.2 (.cells #[.int .i64 0, .int .i64 0, .int .i64 0, .int .u64 0, .int .i64 0, .slice none 0 0, .bool false] 30)) (⟨r65.2.heap.size, 0, none⟩) [.int .i64 n68, .int .i64 n69, .int .i64 n70, .int .u64 n71, .int .i64 n72, .slice q73.1 q73.2.1 q73.2.2, .bool b74] 0).bind fun w77 =>
(World.cell? w77 (⟨r50.2.heap.size, 0, none⟩)).bind fun v78 =>
(asI .i64 v78).bind fun n79 =>
if ((n79 : Int) != 2) = true then
(if (!b75) = true then
((World.cell? w77 (⟨r50.2.heap.size, 0, none⟩)).bind fun v80 =>
(asI .i64 v80).bind fun n81 =>
if ((n81 : Int) == 3) = true then
(some (.bool true, w77))
else
(if ((n76 : Int) != 0) = true then
(some (.bool true, w77))
else
((World.cell? w77 (⟨r50.2.heap.size, 0, none⟩)).bind fun v82 =>
(asI .i64 v82).bind fun n83 =>
some (.bool ((n83 : Int) == 0), w77))))
else
(some (.bool false, w77)))
else
(if (!b75) = true then
(some (.bool false, w77))
else
(if ((n76 : Int) != 0) = true then
(some (.bool false, w77))
else
((World.cell? w77 (⟨r65.2.heap.size, 0, none⟩)).bind fun v84 =>
(asI .i64 v84).bind fun n85 =>
if ((n85 : Int) != 3) = true then
(some (.bool false, w77))
else
((World.cell? w77 (Addr.add (⟨r65.2.heap.size, 0, none⟩) 6)).bind fun v86 =>
(asB v86).bind fun b87 =>
if (!(b87 == u1)) = true then
(some (.bool false, w77))
else
((ldN w77 (⟨r65.2.heap.size, 0, none⟩) 0 7).bind fun l88 =>
(asI .i64 (l88.getD 0 undef)).bind fun n89 =>
(asI .i64 (l88.getD 1 undef)).bind fun n90 =>
(asI .i64 (l88.getD 2 undef)).bind fun n91 =>
(asI .u64 (l88.getD 3 undef)).bind fun n92 =>
(asI .i64 (l88.getD 4 undef)).bind fun n93 =>
(asSl (l88.getD 5 undef)).bind fun q94 =>
(asB (l88.getD 6 undef)).bind fun b95 =>
(callF Try.prog 13 #[.pointer p2, .agg #[.int .i64 n89, .int .i64 n90, .int .i64 n91, .int .u64 n92, .int .i64 n93, .slice q94.1 q94.2.1 q94.2.2, .bool b95]] w77).bind fun r96 =>
(asTup 0 r96.1).bind fun _ =>
(World.cell? r96.2 (Addr.add (⟨r50.2.heap.size, 0, none⟩) 2)).bind fun v97 =>
(asI .u64 v97).bind fun n98 =>
(World.cell? r96.2 (Addr.add (⟨r50.2.heap.size, 0, none⟩) 3)).bind fun v99 =>
(asI .i64 v99).bind fun n100 =>
(callF Try.prog 18 #[.pointer p2, .int .i64 0, .int .u64 n98, .int .i64 n100, .bool u1] r96.2).bind fun r101 =>
(asTup 3 r101.1).bind fun l102 =>
(Ev.asAgg 7 (l102.getD 0 undef)).bind fun l103 =>
(asI .i64 (l103.getD 0 undef)).bind fun n104 =>
(asI .i64 (l103.getD 1 undef)).bind fun n105 =>
(asI .i64 (l103.getD 2 undef)).bind fun n106 =>
(asI .u64 (l103.getD 3 undef)).bind fun n107 =>
(asI .i64 (l103.getD 4 undef)).bind fun n108 =>
(asSl (l103.getD 5 undef)).bind fun q109 =>
(asB (l103.getD 6 undef)).bind fun b110 =>
(asB (l102.getD 1 undef)).bind fun b111 =>
(asI .i64 (l102.getD 2 undef)).bind fun n112 =>
(stL (World.alloc r101.2 (.cells #[.int .i64 0, .int .i64 0, .int .i64 0, .int .u64 0, .int .i64 0, .slice none 0 0, .bool false] 30)) (⟨r101.2.heap.size, 0, none⟩) [.int .i64 n104, .int .i64 n105, .int .i64 n106, .int .u64 n107, .int .i64 n108, .slice q109.1 q109.2.1 q109.2.2, .bool b110] 0).bind fun w113 =>
(World.cell? w113 (Addr.add (⟨r50.2.heap.size, 0, none⟩) 2)).bind fun v114 =>
(asI .u64 v114).bind fun n115 =>
(World.cell? w113 (Addr.add (⟨r50.2.heap.size, 0, none⟩) 3)).bind fun v116 =>
(asI .i64 v116).bind fun n117 =>
(callF Try.prog 18 #[.pointer p2, .int .i64 0, .int .u64 n115, .int .i64 n117, .bool (!u1)] w113).bind fun r118 =>
(asTup 3 r118.1).bind fun l119 =>
(Ev.asAgg 7 (l119.getD 0 undef)).bind fun l120 =>
(asI .i64 (l120.getD 0 undef)).bind fun n121 =>
(asI .i64 (l120.getD 1 undef)).bind fun n122 =>
(asI .i64 (l120.getD 2 undef)).bind fun n123 =>
(asI .u64 (l120.getD 3 undef)).bind fun n124 =>
(asI .i64 (l120.getD 4 undef)).bind fun n125 =>
(asSl (l120.getD 5 undef)).bind fun q126 =>
(asB (l120.getD 6 undef)).bind fun b127 =>
(asB (l119.getD 1 undef)).bind fun b128 =>
(asI .i64 (l119.getD 2 undef)).bind fun n129 =>
(stL (World.alloc r118.2 (.cells #[.int .i64 0, .int .i64 0, .int .i64 0, .int .u64 0, .int .i64 0, .slice none 0 0, .bool false] 30)) (⟨r118.2.heap.size, 0, none⟩) [.int .i64 n121, .int .i64 n122, .int .i64 n123, .int .u64 n124, .int .i64 n125, .slice q126.1 q126.2.1 q126.2.2, .bool b127] 0).bind fun w130 =>
(World.cell? w130 (Addr.add (⟨r50.2.heap.size, 0, none⟩) 2)).bind fun v131 =>
(asI .u64 v131).bind fun n132 =>
(World.cell? w130 (Addr.add (⟨r50.2.heap.size, 0, none⟩) 3)).bind fun v133 =>
(asI .i64 v133).bind fun n134 =>
(callF Try.prog 16 #[.pointer p2, .int .i64 0, .int .u64 n132, .int .i64 n134, .int .i64 1] w130).bind fun r135 =>
(asTup 3 r135.1).bind fun l136 =>
(Ev.asAgg 7 (l136.getD 0 undef)).bind fun l137 =>
(asI .i64 (l137.getD 0 undef)).bind fun n138 =>
(asI .i64 (l137.getD 1 undef)).bind fun n139 =>
(asI .i64 (l137.getD 2 undef)).bind fun n140 =>
(asI .u64 (l137.getD 3 undef)).bind fun n141 =>
(asI .i64 (l137.getD 4 undef)).bind fun n142 =>
(asSl (l137.getD 5 undef)).bind fun q143 =>
(asB (l137.getD 6 undef)).bind fun b144 =>
(asB (l136.getD 1 undef)).bind fun b145 =>
(asI .i64 (l136.getD 2 undef)).bind fun n146 =>
(stL (World.alloc r135.2 (.cells #[.int .i64 0, .int .i64 0, .int .i64 0, .int .u64 0, .int .i64 0, .slice none 0 0, .bool false] 30)) (⟨r135.2.heap.size, 0, none⟩) [.int .i64 n138, .int .i64 n139, .int .i64 n140, .int .u64 n141, .int .i64 n142, .slice q143.1 q143.2.1 q143.2.2, .bool b144] 0).bind fun w147 =>
(callF Try.prog 13 #[.pointer p2, .agg #[.int .i64 4, .int .i64 0, .int .i64 0, .int .u64 0, .int .i64 0, .slice none 0 0, .bool false]] w147).bind fun r148 =>
(asTup 0 r148.1).bind fun _ =>
(World.cell? r148.2 (Addr.add (⟨r50.2.heap.size, 0, none⟩) 2)).bind fun v149 =>
(asI .u64 v149).bind fun n150 =>
(World.cell? r148.2 (Addr.add (⟨r50.2.heap.size, 0, none⟩) 3)).bind fun v151 =>
(asI .i64 v151).bind fun n152 =>
(callF Try.prog 18 #[.pointer p2, .int .i64 0, .int .u64 n150, .int .i64 n152, .bool u1] r148.2).bind fun r153 =>
(asTup 3 r153.1).bind fun l154 =>
(Ev.asAgg 7 (l154.getD 0 undef)).bind fun l155 =>
(asI .i64 (l155.getD 0 undef)).bind fun n156 =>
(asI .i64 (l155.getD 1 undef)).bind fun n157 =>
(asI .i64 (l155.getD 2 undef)).bind fun n158 =>
(asI .u64 (l155.getD 3 undef)).bind fun n159 =>
(asI .i64 (l155.getD 4 undef)).bind fun n160 =>
(asSl (l155.getD 5 undef)).bind fun q161 =>
(asB (l155.getD 6 undef)).bind fun b162 =>
(asB (l154.getD 1 undef)).bind fun b163 =>
(asI .i64 (l154.getD 2 undef)).bind fun n164 =>
(stL (World.alloc r153.2 (.cells #[.int .i64 0, .int .i64 0, .int .i64 0, .int .u64 0, .int .i64 0, .slice none 0 0, .bool false] 30)) (⟨r153.2.heap.size, 0, none⟩) [.int .i64 n156, .int .i64 n157, .int .i64 n158, .int .u64 n159, .int .i64 n160, .slice q161.1 q161.2.1 q161.2.2, .bool b162] 0).bind fun w165 =>
(World.cell? w165 (Addr.add (⟨r50.2.heap.size, 0, none⟩) 2)).bind fun v166 =>
(asI .u64 v166).bind fun n167 =>
(World.cell? w165 (Addr.add (⟨r50.2.heap.size, 0, none⟩) 3)).bind fun v168 =>
(asI .i64 v168).bind fun n169 =>
(callF Try.prog 18 #[.pointer p2, .int .i64 0, .int .u64 n167, .int .i64 n169, .bool (!u1)] w165).bind fun r170 =>
(asTup 3 r170.1).bind fun l171 =>
(Ev.asAgg 7 (l171.getD 0 undef)).bind fun l172 =>
(asI .i64 (l172.getD 0 undef)).bind fun n173 =>
(asI .i64 (l172.getD 1 undef)).bind fun n174 =>
(asI .i64 (l172.getD 2 undef)).bind fun n175 =>
(asI .u64 (l172.getD 3 undef)).bind fun n176 =>
(asI .i64 (l172.getD 4 undef)).bind fun n177 =>
(asSl (l172.getD 5 undef)).bind fun q178 =>
(asB (l172.getD 6 undef)).bind fun b179 =>
(asB (l171.getD 1 undef)).bind fun b180 =>
(asI .i64 (l171.getD 2 undef)).bind fun n181 =>
(stL (World.alloc r170.2 (.cells #[.int .i64 0, .int .i64 0, .int .i64 0, .int .u64 0, .int .i64 0, .slice none 0 0, .bool false] 30)) (⟨r170.2.heap.size, 0, none⟩) [.int .i64 n173, .int .i64 n174, .int .i64 n175, .int .u64 n176, .int .i64 n177, .slice q178.1 q178.2.1 q178.2.2, .bool b179] 0).bind fun w182 =>
(World.cell? w182 (Addr.add (⟨r50.2.heap.size, 0, none⟩) 2)).bind fun v183 =>
(asI .u64 v183).bind fun n184 =>
(World.cell? w182 (Addr.add (⟨r50.2.heap.size, 0, none⟩) 3)).bind fun v185 =>
(asI .i64 v185).bind fun n186 =>
(callF Try.prog 16 #[.pointer p2, .int .i64 0, .int .u64 n184, .int .i64 n186, .int .i64 1] w182).bind fun r187 =>
(asTup 3 r187.1).bind fun l188 =>
(Ev.asAgg 7 (l188.getD 0 undef)).bind fun l189 =>
(asI .i64 (l189.getD 0 undef)).bind fun n190 =>
(asI .i64 (l189.getD 1 undef)).bind fun n191 =>
(asI .i64 (l189.getD 2 undef)).bind fun n192 =>
(asI .u64 (l189.getD 3 undef)).bind fun n193 =>
(asI .i64 (l189.getD 4 undef)).bind fun n194 =>
(asSl (l189.getD 5 undef)).bind fun q195 =>
(asB (l189.getD 6 undef)).bind fun b196 =>
(asB (l188.getD 1 undef)).bind fun b197 =>
(asI .i64 (l188.getD 2 undef)).bind fun n198 =>
(stL (World.alloc r187.2 (.cells #[.int .i64 0, .int .i64 0, .int .i64 0, .int .u64 0, .int .i64 0, .slice none 0 0, .bool false] 30)) (⟨r187.2.heap.size, 0, none⟩) [.int .i64 n190, .int .i64 n191, .int .i64 n192, .int .u64 n193, .int .i64 n194, .slice q195.1 q195.2.1 q195.2.2, .bool b196] 0).bind fun w199 =>
(World.cell? w199 (Addr.add (⟨r50.2.heap.size, 0, none⟩) 1)).bind fun v200 =>
(asI .i64 v200).bind fun n201 =>
(callF Try.prog 14 #[.pointer p2, .int .i64 0, .int .i64 (IntKind.i64.wrap (n201 - 1)), .int .u64 9] w199).bind fun r202 =>
(asTup 3 r202.1).bind fun l203 =>
(Ev.asAgg 7 (l203.getD 0 undef)).bind fun l204 =>
(asI .i64 (l204.getD 0 undef)).bind fun n205 =>
(asI .i64 (l204.getD 1 undef)).bind fun n206 =>
(asI .i64 (l204.getD 2 undef)).bind fun n207 =>
(asI .u64 (l204.getD 3 undef)).bind fun n208 =>
(asI .i64 (l204.getD 4 undef)).bind fun n209 =>
(asSl (l204.getD 5 undef)).bind fun q210 =>
(asB (l204.getD 6 undef)).bind fun b211 =>
(asB (l203.getD 1 undef)).bind fun b212 =>
(asI .i64 (l203.getD 2 undef)).bind fun n213 =>
(stL (World.alloc r202.2 (.cells #[.int .i64 0, .int .i64 0, .int .i64 0, .int .u64 0, .int .i64 0, .slice none 0 0, .bool false] 30)) (⟨r202.2.heap.size, 0, none⟩) [.int .i64 n205, .int .i64 n206, .int .i64 n207, .int .u64 n208, .int .i64 n209, .slice q210.1 q210.2.1 q210.2.2, .bool b211] 0).bind fun w214 =>
if b111 = true then
(some (.bool false, w214))
else
(if b128 = true then
(some (.bool false, w214))
else
(if b145 = true then
(some (.bool false, w214))
else
(if b163 = true then
(some (.bool false, w214))
else
(if b180 = true then
(some (.bool false, w214))
else
(if b197 = true then
(some (.bool false, w214))
else
(if b212 = true then
(some (.bool false, w214))
else
(if ((n112 : Int) == 16) = true then
(g5_j220 p2 t48 r50 n146 n164 n181 n198 n213 w214 ((n129 : Int) == 14))
else
(g5_j220 p2 t48 r50 n146 n164 n181 n198 n213 w214 false)))))))))))))

noncomputable def g5 (u0 : Option Addr × Nat × Nat) (u1 : Bool) (w0 : World) : Option (Value × World) :=
(callF Try.prog 10 #[] w0).bind fun r1 =>
(asP r1.1).bind fun p2 =>
(callF Try.prog 11 #[] r1.2).bind fun r3 =>
(asB r3.1).bind fun b4 =>
if (!b4) = true then
(some (.bool false, r3.2))
else
(if (p2.isNone) = true then
(some (.bool false, r3.2))
else
(g5_l6 u1 p2 u0 (1, 0) r3.2))

theorem g5_eq (u0 : Option Addr × Nat × Nat) (u1 : Bool) (w0 : World) : evFn Try.prog 5 g5_ann #[.slice u0.1 u0.2.1 u0.2.2, .bool u1] w0 = g5 u0 u1 w0 := by kernel_rfl

theorem g5_call {u0 : Option Addr × Nat × Nat} {u1 : Bool} {w0 : World} {r : Value × World} (h : g5 u0 u1 w0 = some r) : callF Try.prog 5 #[.slice u0.1 u0.2.1 u0.2.2, .bool u1] w0 = some r :=
  callF_of_evFn (ann := g5_ann) Try.call5 (by kernel_rfl) ((g5_eq u0 u1 w0).trans h)

theorem g5_l6_x0_of {u1 : Bool} {p2 : Option Addr} {u0 : Option Addr × Nat × Nat} {s t : Int × Int} {w w' : World} (h : loopS (g5_l6_b u0 p2 u1) s w = some (.exit 0, t, w')) : g5_l6 u1 p2 u0 s w = g5_l6_x0 p2 u1 t w' := by
  have h1 : g5_l6 u1 p2 u0 s w = loopM Try.prog 238 5 g5_ann (cAt [1, 1, 1, 1, 0, 1, 0, 0] (bodyOf Try.f5)) [0, 1, 0, 1, 1, 1, 1] g5_K47 ((g5_l6_cs u1 p2 u0) ++ sputs [(6, .i .u64), (43, .i .i64)] s) w := by kernel_rfl
  have h2 : loopM Try.prog 238 5 g5_ann (cAt [1, 1, 1, 1, 0, 1, 0, 0] (bodyOf Try.f5)) [0, 1, 0, 1, 1, 1, 1] g5_K47 ((g5_l6_cs u1 p2 u0) ++ sputs [(6, .i .u64), (43, .i .i64)] s) w = g5_K47 (.exit 0) (puts 238 ((g5_l6_cs u1 p2 u0) ++ sputs [(6, .i .u64), (43, .i .i64)] t)) w' :=
    loop_rule (P := Try.prog) (N := 238) (f := 5) (ann := g5_ann) (body := (cAt [1, 1, 1, 1, 0, 1, 0, 0] (bodyOf Try.f5))) (pt := [0, 1, 0, 1, 1, 1, 1]) (K := g5_K47) (g5_l6_cs u1 p2 u0) [(6, .i .u64), (43, .i .i64)] (b := g5_l6_b u0 p2 u1) (fun s w => by kernel_rfl) (by kernel_rfl) (by kernel_rfl) (by kernel_rfl) h
  have h3 : g5_K47 (.exit 0) (puts 238 ((g5_l6_cs u1 p2 u0) ++ sputs [(6, .i .u64), (43, .i .i64)] t)) w' = g5_l6_x0 p2 u1 t w' := by kernel_rfl
  exact h1.trans (h2.trans h3)

end Go.Proofs.Ytlcojbodcbjkaaa
