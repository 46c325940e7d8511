/-
  TxnF0: lemmas on what Go functions of this seat come to (for whatever arguments, as each says). No condition but those that stand in each lemma.
-/
import Derived.Test.YtlcojbodcbjkaaaLb9
import Derived.Test.YtlcojbodcbjkaaaProg
namespace Go.Proofs.Ytlcojbodcbjkaaa
open Go Go.Ev
set_option maxRecDepth 100000
set_option linter.unusedVariables false
/-! 10: penstock/txn.New () -/
def g10_ann : List (List Nat × List Nat) := []

noncomputable def g10  (w0 : World) : Option (Value × World) :=
some (.pointer (some (⟨(World.alloc w0 (.map #[] 0)).heap.size, 0, none⟩)), (World.alloc (World.alloc w0 (.map #[] 0)) (.cells #[.map (some w0.heap.size)] 71)))

theorem g10_eq  (w0 : World) : evFn Try.prog 10 g10_ann #[] w0 = g10 w0 := by kernel_rfl

theorem g10_call  {w0 : World} {r : Value × World} (h : g10 w0 = some r) : callF Try.prog 10 #[] w0 = some r :=
  callF_of_evFn (ann := g10_ann) Try.call10 (by kernel_rfl) ((g10_eq  w0).trans h)

/-! 11: penstock/penstocklaw15.awake () -/
def g11_ann : List (List Nat × List Nat) := []

noncomputable def g11  (w0 : World) : Option (Value × World) :=
(callF Try.prog 10 #[] w0).bind fun r1 =>
(asP r1.1).bind fun p2 =>
if (p2.isNone) = true then
(some (.bool false, r1.2))
else
((callF Try.prog 14 #[.pointer p2, .int .i64 0, .int .i64 1, .int .u64 5] r1.2).bind fun r3 =>
(asTup 3 r3.1).bind fun l4 =>
(Ev.asAgg 7 (l4.getD 0 undef)).bind fun l5 =>
(asI .i64 (l5.getD 0 undef)).bind fun n6 =>
(asI .i64 (l5.getD 1 undef)).bind fun n7 =>
(asI .i64 (l5.getD 2 undef)).bind fun n8 =>
(asI .u64 (l5.getD 3 undef)).bind fun n9 =>
(asI .i64 (l5.getD 4 undef)).bind fun n10 =>
(asSl (l5.getD 5 undef)).bind fun q11 =>
(asB (l5.getD 6 undef)).bind fun b12 =>
(asB (l4.getD 1 undef)).bind fun b13 =>
(asI .i64 (l4.getD 2 undef)).bind fun n14 =>
(stL (World.alloc r3.2 (.cells #[.int .i64 0, .int .i64 0, .int .i64 0, .int .u64 0, .int .i64 0, .slice none 0 0, .bool false] 30)) (⟨r3.2.heap.size, 0, none⟩) [.int .i64 n6, .int .i64 n7, .int .i64 n8, .int .u64 n9, .int .i64 n10, .slice q11.1 q11.2.1 q11.2.2, .bool b12] 0).bind fun w15 =>
(ldN w15 (⟨r3.2.heap.size, 0, none⟩) 0 7).bind fun l16 =>
(asI .i64 (l16.getD 0 undef)).bind fun n17 =>
(asI .i64 (l16.getD 1 undef)).bind fun n18 =>
(asI .i64 (l16.getD 2 undef)).bind fun n19 =>
(asI .u64 (l16.getD 3 undef)).bind fun n20 =>
(asI .i64 (l16.getD 4 undef)).bind fun n21 =>
(asSl (l16.getD 5 undef)).bind fun q22 =>
(asB (l16.getD 6 undef)).bind fun b23 =>
(callF Try.prog 13 #[.pointer p2, .agg #[.int .i64 n17, .int .i64 n18, .int .i64 n19, .int .u64 n20, .int .i64 n21, .slice q22.1 q22.2.1 q22.2.2, .bool b23]] w15).bind fun r24 =>
(asTup 0 r24.1).bind fun _ =>
(callF Try.prog 16 #[.pointer p2, .int .i64 0, .int .u64 5, .int .i64 0, .int .i64 2] r24.2).bind fun r25 =>
(asTup 3 r25.1).bind fun l26 =>
(Ev.asAgg 7 (l26.getD 0 undef)).bind fun l27 =>
(asI .i64 (l27.getD 0 undef)).bind fun n28 =>
(asI .i64 (l27.getD 1 undef)).bind fun n29 =>
(asI .i64 (l27.getD 2 undef)).bind fun n30 =>
(asI .u64 (l27.getD 3 undef)).bind fun n31 =>
(asI .i64 (l27.getD 4 undef)).bind fun n32 =>
(asSl (l27.getD 5 undef)).bind fun q33 =>
(asB (l27.getD 6 undef)).bind fun b34 =>
(asB (l26.getD 1 undef)).bind fun b35 =>
(asI .i64 (l26.getD 2 undef)).bind fun n36 =>
(stL (World.alloc r25.2 (.cells #[.int .i64 0, .int .i64 0, .int .i64 0, .int .u64 0, .int .i64 0, .slice none 0 0, .bool false] 30)) (⟨r25.2.heap.size, 0, none⟩) [.int .i64 n28, .int .i64 n29, .int .i64 n30, .int .u64 n31, .int .i64 n32, .slice q33.1 q33.2.1 q33.2.2, .bool b34] 0).bind fun w37 =>
if b13 = true then
(if ((n14 : Int) == 0) = true then
((World.cell? w37 (⟨r3.2.heap.size, 0, none⟩)).bind fun v38 =>
(asI .i64 v38).bind fun n39 =>
if ((n39 : Int) == 1) = true then
((World.cell? w37 (Addr.add (⟨r3.2.heap.size, 0, none⟩) 3)).bind fun v40 =>
(asI .u64 v40).bind fun n41 =>
if ((n41 : Int) == 5) = true then
(if b35 = true then
(if ((n36 : Int) == 0) = true then
((World.cell? w37 (⟨r25.2.heap.size, 0, none⟩)).bind fun v42 =>
(asI .i64 v42).bind fun n43 =>
if ((n43 : Int) == 2) = true then
((World.cell? w37 (Addr.add (⟨r25.2.heap.size, 0, none⟩) 5)).bind fun v44 =>
(asSl v44).bind fun q45 =>
some (.bool (((q45.2.1 : Int) : Int) == 1), w37))
else
(some (.bool false, w37)))
else
(some (.bool false, w37)))
else
(some (.bool false, w37)))
else
(some (.bool false, w37)))
else
(some (.bool false, w37)))
else
(some (.bool false, w37)))
else
(some (.bool false, w37)))

theorem g11_eq  (w0 : World) : evFn Try.prog 11 g11_ann #[] w0 = g11 w0 := by kernel_rfl

theorem g11_call  {w0 : World} {r : Value × World} (h : g11 w0 = some r) : callF Try.prog 11 #[] w0 = some r :=
  callF_of_evFn (ann := g11_ann) Try.call11 (by kernel_rfl) ((g11_eq  w0).trans h)

/-! 13: (*penstock/txn.State).Apply (s: *txn.State, r: api.TxRec) -/
def g13_ann : List (List Nat × List Nat) := [([0, 1, 0, 1, 0, 1, 1, 1, 0, 1, 1, 1, 1, 1], [4, 58, 59, 60])]

noncomputable def g13_j171 (x15 : Option Addr) (w16 : World) (x174 : Int) (w175 : World) : Option (Value × World) :=
x15.bind fun a176 =>
(st1 w175 (Addr.add a176 3) (.int .i64 x174)).bind fun w179 =>
x15.bind fun a181 =>
(st1 w179 (Addr.add a181 4) (.slice none 0 0)).bind fun w184 =>
some (.tuple #[], w184)

noncomputable def g13_j161 (x15 : Option Addr) (w16 : World) (x166 : Int) (x167 : Int) (a168 : Addr) (w169 : World) : Option (Value × World) :=
(st1 w169 a168 (.int .u64 x166)).bind fun w170 =>
g13_j171 x15 w16 x167 w170

noncomputable def g13_j148 (x15 : Option Addr) (w16 : World) (x155 : Int) (x156 : Int) (w157 : World) : Option (Value × World) :=
x15.bind fun a158 =>
g13_j161 x15 w16 x155 x156 (Addr.add a158 2) w157

noncomputable def g13_j123 (x15 : Option Addr) (w16 : World) (x142 : Int) (x143 : Int) (x144 : Int) (a145 : Addr) (w146 : World) : Option (Value × World) :=
(st1 w146 a145 (.int .i64 x142)).bind fun w147 =>
g13_j148 x15 w16 x143 x144 w147

noncomputable def g13_j95 (x15 : Option Addr) (w16 : World) (x109 : Int) (x110 : Int) (x111 : Int) (w112 : World) : Option (Value × World) :=
x15.bind fun a113 =>
g13_j123 x15 w16 x109 x110 x111 (Addr.add a113 1) w112

noncomputable def g13_j68 (w16 : World) (a27 : Addr) (x15 : Option Addr) (x91 : Int) (x92 : Int) (x93 : Int) : Option (Value × World) :=
(st1 (World.drew w16) a27 (.int .i64 1)).bind fun w94 =>
g13_j95 x15 w16 x91 x92 x93 w94

noncomputable def g13_j131 (x15 : Option Addr) (w0 : World) (w16 : World) (x149 : Int) (w150 : World) : Option (Value × World) :=
x15.bind fun a151 =>
if (ahd (Region.schedule true (opsOf (cAt [1, 1, 1, 1, 1, 0, 1, 0] (bodyOf Try.f13))) (World.tape w16 (World.drawn w16) (.order 13 8))) 10 19 && true) = true then
((World.cell? w150 (Addr.add (⟨w0.heap.size, 0, none⟩) 4)).bind fun v162 =>
(asI .i64 v162).bind fun n163 =>
g13_j161 x15 w16 x149 n163 (Addr.add a151 2) w150)
else
((st1 w150 (Addr.add a151 2) (.int .u64 x149)).bind fun w164 =>
(World.cell? w164 (Addr.add (⟨w0.heap.size, 0, none⟩) 4)).bind fun v172 =>
(asI .i64 v172).bind fun n173 =>
g13_j171 x15 w16 n173 w164)

noncomputable def g13_j115 (w16 : World) (w0 : World) (x15 : Option Addr) (x124 : Int) (x125 : Int) (a126 : Addr) (w127 : World) : Option (Value × World) :=
if (ahd (Region.schedule true (opsOf (cAt [1, 1, 1, 1, 1, 0, 1, 0] (bodyOf Try.f13))) (World.tape w16 (World.drawn w16) (.order 13 8))) 10 16 && true) = true then
((World.cell? w127 (Addr.add (⟨w0.heap.size, 0, none⟩) 4)).bind fun v128 =>
(asI .i64 v128).bind fun n129 =>
g13_j123 x15 w16 x124 x125 n129 a126 w127)
else
((st1 w127 a126 (.int .i64 x124)).bind fun w130 =>
g13_j131 x15 w0 w16 x125 w130)

noncomputable def g13_j70 (x15 : Option Addr) (w0 : World) (w16 : World) (x96 : Int) (x97 : Int) (w98 : World) : Option (Value × World) :=
x15.bind fun a99 =>
g13_j115 w16 w0 x15 x96 x97 (Addr.add a99 1) w98

noncomputable def g13_j43 (w16 : World) (w0 : World) (x15 : Option Addr) (a27 : Addr) (x64 : Int) (x65 : Int) : Option (Value × World) :=
if (ahd (Region.schedule true (opsOf (cAt [1, 1, 1, 1, 1, 0, 1, 0] (bodyOf Try.f13))) (World.tape w16 (World.drawn w16) (.order 13 8))) 10 13 && true) = true then
((World.cell? (World.drew w16) (Addr.add (⟨w0.heap.size, 0, none⟩) 4)).bind fun v66 =>
(asI .i64 v66).bind fun n67 =>
g13_j68 w16 a27 x15 x64 x65 n67)
else
((st1 (World.drew w16) a27 (.int .i64 1)).bind fun w69 =>
g13_j70 x15 w0 w16 x64 x65 w69)

noncomputable def g13_j116 (w16 : World) (w0 : World) (x15 : Option Addr) (x132 : Int) (x133 : Int) (a134 : Addr) (w135 : World) : Option (Value × World) :=
if (ahd (Region.schedule true (opsOf (cAt [1, 1, 1, 1, 1, 0, 1, 0] (bodyOf Try.f13))) (World.tape w16 (World.drawn w16) (.order 13 8))) 8 16 && true) = true then
((World.cell? w135 (Addr.add (⟨w0.heap.size, 0, none⟩) 3)).bind fun v136 =>
(asI .u64 v136).bind fun n137 =>
g13_j123 x15 w16 x132 n137 x133 a134 w135)
else
((st1 w135 a134 (.int .i64 x132)).bind fun w138 =>
(World.cell? w138 (Addr.add (⟨w0.heap.size, 0, none⟩) 3)).bind fun v153 =>
(asI .u64 v153).bind fun n154 =>
g13_j148 x15 w16 n154 x133 w138)

noncomputable def g13_j76 (x15 : Option Addr) (w0 : World) (w16 : World) (x101 : Int) (x102 : Int) (w103 : World) : Option (Value × World) :=
x15.bind fun a104 =>
g13_j116 w16 w0 x15 x101 x102 (Addr.add a104 1) w103

noncomputable def g13_j46 (w16 : World) (w0 : World) (x15 : Option Addr) (a27 : Addr) (x71 : Int) (x72 : Int) : Option (Value × World) :=
if (ahd (Region.schedule true (opsOf (cAt [1, 1, 1, 1, 1, 0, 1, 0] (bodyOf Try.f13))) (World.tape w16 (World.drawn w16) (.order 13 8))) 8 13 && true) = true then
((World.cell? (World.drew w16) (Addr.add (⟨w0.heap.size, 0, none⟩) 3)).bind fun v73 =>
(asI .u64 v73).bind fun n74 =>
g13_j68 w16 a27 x15 x71 n74 x72)
else
((st1 (World.drew w16) a27 (.int .i64 1)).bind fun w75 =>
g13_j76 x15 w0 w16 x71 x72 w75)

noncomputable def g13_j48 (x15 : Option Addr) (w0 : World) (w16 : World) (x77 : Int) (w78 : World) : Option (Value × World) :=
x15.bind fun a79 =>
if (ahd (Region.schedule true (opsOf (cAt [1, 1, 1, 1, 1, 0, 1, 0] (bodyOf Try.f13))) (World.tape w16 (World.drawn w16) (.order 13 8))) 8 10 && (ahd (Region.schedule true (opsOf (cAt [1, 1, 1, 1, 1, 0, 1, 0] (bodyOf Try.f13))) (World.tape w16 (World.drawn w16) (.order 13 8))) 8 16 && true)) = true then
((World.cell? w78 (Addr.add (⟨w0.heap.size, 0, none⟩) 3)).bind fun v117 =>
(asI .u64 v117).bind fun n118 =>
g13_j115 w16 w0 x15 x77 n118 (Addr.add a79 1) w78)
else
(if (ahd (Region.schedule true (opsOf (cAt [1, 1, 1, 1, 1, 0, 1, 0] (bodyOf Try.f13))) (World.tape w16 (World.drawn w16) (.order 13 8))) 10 16 && true) = true then
((World.cell? w78 (Addr.add (⟨w0.heap.size, 0, none⟩) 4)).bind fun v119 =>
(asI .i64 v119).bind fun n120 =>
g13_j116 w16 w0 x15 x77 n120 (Addr.add a79 1) w78)
else
((st1 w78 (Addr.add a79 1) (.int .i64 x77)).bind fun w121 =>
(World.cell? w121 (Addr.add (⟨w0.heap.size, 0, none⟩) 3)).bind fun v140 =>
(asI .u64 v140).bind fun n141 =>
g13_j131 x15 w0 w16 n141 w121))

noncomputable def g13_j53 (w16 : World) (w0 : World) (x15 : Option Addr) (a27 : Addr) (x81 : Int) (x82 : Int) : Option (Value × World) :=
if (ahd (Region.schedule true (opsOf (cAt [1, 1, 1, 1, 1, 0, 1, 0] (bodyOf Try.f13))) (World.tape w16 (World.drawn w16) (.order 13 8))) 6 13 && true) = true then
((World.cell? (World.drew w16) (Addr.add (⟨w0.heap.size, 0, none⟩) 2)).bind fun v83 =>
(asI .i64 v83).bind fun n84 =>
g13_j68 w16 a27 x15 n84 x81 x82)
else
((st1 (World.drew w16) a27 (.int .i64 1)).bind fun w85 =>
(World.cell? w85 (Addr.add (⟨w0.heap.size, 0, none⟩) 2)).bind fun v107 =>
(asI .i64 v107).bind fun n108 =>
g13_j95 x15 w16 n108 x81 x82 w85)

def g13_l191_cs (x15 : Option Addr) (q189 : Option Addr × Nat × Nat) : List (Nat × Value) := ([(4, .pointer x15), (58, .slice q189.1 q189.2.1 q189.2.2), (59, .int .i64 (q189.2.1 : Int))] : List (Nat × Value))

/-- the round of a loop ((*penstock/txn.State).Apply) -/
noncomputable def g13_l191_b (q189 : Option Addr × Nat × Nat) (x15 : Option Addr) (s192 : Int) (w193 : World) : Option (Exit × (Int) × World) :=
if (decide ((s192 : Int) < (q189.2.1 : Int))) = true then
((idxA q189.1 q189.2.1 1 s192).bind fun a194 =>
(World.cell? w193 a194).bind fun v195 =>
(asI .i64 v195).bind fun n196 =>
x15.bind fun a197 =>
(World.cell? w193 (Addr.add a197 4)).bind fun v198 =>
(asSl v198).bind fun q199 =>
(callF Try.prog 32 #[.slice q199.1 q199.2.1 q199.2.2, .int .i64 n196] w193).bind fun r200 =>
(asB r200.1).bind fun b201 =>
if (!b201) = true then
(x15.bind fun a202 =>
(World.cell? r200.2 (Addr.add a202 4)).bind fun v203 =>
(asSl v203).bind fun q204 =>
(callB Try.prog .append #[28, 28] 28 #[false, false] #[.slice q204.1 q204.2.1 q204.2.2, .slice (some (⟨r200.2.heap.size, 0, none⟩)) 1 1] (World.alloc r200.2 (.cells #[.int .i64 n196] 3))).bind fun r205 =>
(asSl r205.1).bind fun q206 =>
x15.bind fun a207 =>
(st1 r205.2 (Addr.add a207 4) (.slice q206.1 q206.2.1 q206.2.2)).bind fun w208 =>
some (.normal, (IntKind.i64.wrap (s192 + 1)), w208))
else
(some (.normal, (IntKind.i64.wrap (s192 + 1)), r200.2)))
else
(some ((.exit 1), s192, w193))

noncomputable def g13_K209  : Exit → Env → World → Option (Value × World) :=
  retK Try.prog Try.f13.results.toList

noncomputable def g13_K210  : Exit → Env → World → Option (Value × World) :=
  blkK 0 g13_K209

noncomputable def g13_K211  : Exit → Env → World → Option (Value × World) :=
  seqK (ev Try.prog 127 13 g13_ann (cAt [1, 1, 1, 1, 1, 0, 1, 1, 1, 0, 1, 1] (bodyOf Try.f13)) [1, 1, 0, 1, 1, 1, 0, 1, 1, 1, 1, 1] g13_K210) g13_K210

noncomputable def g13_K212  : Exit → Env → World → Option (Value × World) :=
  blkK 1 g13_K211

/-- the loop, from a state on -/
noncomputable def g13_l191 (x15 : Option Addr) (q189 : Option Addr × Nat × Nat) (s : Int) (w : World) : Option (Value × World) :=
  loopM Try.prog 127 13 g13_ann (cAt [1, 1, 1, 1, 1, 0, 1, 1, 1, 0, 1, 0, 1, 0, 0] (bodyOf Try.f13)) [0, 1, 0, 1, 0, 1, 1, 1, 0, 1, 1, 1, 1, 1] g13_K212 ((g13_l191_cs x15 q189) ++ sputs [(60, .i .i64)] s) w

/-- behind the loop, left by x1 -/
noncomputable def g13_l191_x1 (x15 : Option Addr) (t213 : Int) (w214 : World) : Option (Value × World) :=
x15.bind fun a215 =>
(World.cell? w214 (Addr.add a215 4)).bind fun v216 =>
(asSl v216).bind fun q217 =>
(callF Try.prog 33 #[.slice q217.1 q217.2.1 q217.2.2] w214).bind fun r218 =>
(asTup 0 r218.1).bind fun _ =>
some (.tuple #[], r218.2)

noncomputable def g13_j277 (x15 : Option Addr) (w16 : World) (x280 : Bool) (w281 : World) : Option (Value × World) :=
x15.bind fun a282 =>
(st1 w281 (Addr.add a282 7) (.bool x280)).bind fun w285 =>
some (.tuple #[], w285)

noncomputable def g13_j268 (n235 : Int) (x15 : Option Addr) (w16 : World) (x273 : Bool) (a274 : Addr) (w275 : World) : Option (Value × World) :=
(st1 w275 a274 (.int .u64 n235)).bind fun w276 =>
g13_j277 x15 w16 x273 w276

noncomputable def g13_j253 (n228 : Int) (x15 : Option Addr) (n235 : Int) (w16 : World) (x258 : Bool) (a259 : Addr) (w260 : World) : Option (Value × World) :=
(st1 w260 a259 (.int .i64 n228)).bind fun w261 =>
x15.bind fun a265 =>
g13_j268 n235 x15 w16 x258 (Addr.add a265 6) w261

noncomputable def g13_j8 (w0 : World) (x15 : Option Addr) (w16 : World) : Option (Value × World) :=
(World.cell? w16 (⟨w0.heap.size, 0, none⟩)).bind fun v17 =>
(asI .i64 v17).bind fun n18 =>
if ((n18 : Int) == 1) = true then
(x15.bind fun a27 =>
if (ahd (Region.schedule true (opsOf (cAt [1, 1, 1, 1, 1, 0, 1, 0] (bodyOf Try.f13))) (World.tape w16 (World.drawn w16) (.order 13 8))) 6 8 && (ahd (Region.schedule true (opsOf (cAt [1, 1, 1, 1, 1, 0, 1, 0] (bodyOf Try.f13))) (World.tape w16 (World.drawn w16) (.order 13 8))) 6 10 && (ahd (Region.schedule true (opsOf (cAt [1, 1, 1, 1, 1, 0, 1, 0] (bodyOf Try.f13))) (World.tape w16 (World.drawn w16) (.order 13 8))) 6 13 && true))) = true then
((World.cell? (World.drew w16) (Addr.add (⟨w0.heap.size, 0, none⟩) 2)).bind fun v30 =>
(asI .i64 v30).bind fun n31 =>
if (ahd (Region.schedule true (opsOf (cAt [1, 1, 1, 1, 1, 0, 1, 0] (bodyOf Try.f13))) (World.tape w16 (World.drawn w16) (.order 13 8))) 8 10 && (ahd (Region.schedule true (opsOf (cAt [1, 1, 1, 1, 1, 0, 1, 0] (bodyOf Try.f13))) (World.tape w16 (World.drawn w16) (.order 13 8))) 8 13 && true)) = true then
((World.cell? (World.drew w16) (Addr.add (⟨w0.heap.size, 0, none⟩) 3)).bind fun v41 =>
(asI .u64 v41).bind fun n42 =>
g13_j43 w16 w0 x15 a27 n31 n42)
else
(if (ahd (Region.schedule true (opsOf (cAt [1, 1, 1, 1, 1, 0, 1, 0] (bodyOf Try.f13))) (World.tape w16 (World.drawn w16) (.order 13 8))) 10 13 && true) = true then
((World.cell? (World.drew w16) (Addr.add (⟨w0.heap.size, 0, none⟩) 4)).bind fun v44 =>
(asI .i64 v44).bind fun n45 =>
g13_j46 w16 w0 x15 a27 n31 n45)
else
((st1 (World.drew w16) a27 (.int .i64 1)).bind fun w47 =>
g13_j48 x15 w0 w16 n31 w47)))
else
(if (ahd (Region.schedule true (opsOf (cAt [1, 1, 1, 1, 1, 0, 1, 0] (bodyOf Try.f13))) (World.tape w16 (World.drawn w16) (.order 13 8))) 8 10 && (ahd (Region.schedule true (opsOf (cAt [1, 1, 1, 1, 1, 0, 1, 0] (bodyOf Try.f13))) (World.tape w16 (World.drawn w16) (.order 13 8))) 8 13 && true)) = true then
((World.cell? (World.drew w16) (Addr.add (⟨w0.heap.size, 0, none⟩) 3)).bind fun v33 =>
(asI .u64 v33).bind fun n34 =>
if (ahd (Region.schedule true (opsOf (cAt [1, 1, 1, 1, 1, 0, 1, 0] (bodyOf Try.f13))) (World.tape w16 (World.drawn w16) (.order 13 8))) 6 10 && (ahd (Region.schedule true (opsOf (cAt [1, 1, 1, 1, 1, 0, 1, 0] (bodyOf Try.f13))) (World.tape w16 (World.drawn w16) (.order 13 8))) 6 13 && true)) = true then
((World.cell? (World.drew w16) (Addr.add (⟨w0.heap.size, 0, none⟩) 2)).bind fun v49 =>
(asI .i64 v49).bind fun n50 =>
g13_j43 w16 w0 x15 a27 n50 n34)
else
(if (ahd (Region.schedule true (opsOf (cAt [1, 1, 1, 1, 1, 0, 1, 0] (bodyOf Try.f13))) (World.tape w16 (World.drawn w16) (.order 13 8))) 10 13 && true) = true then
((World.cell? (World.drew w16) (Addr.add (⟨w0.heap.size, 0, none⟩) 4)).bind fun v51 =>
(asI .i64 v51).bind fun n52 =>
g13_j53 w16 w0 x15 a27 n34 n52)
else
((st1 (World.drew w16) a27 (.int .i64 1)).bind fun w54 =>
(World.cell? w54 (Addr.add (⟨w0.heap.size, 0, none⟩) 2)).bind fun v87 =>
(asI .i64 v87).bind fun n88 =>
g13_j70 x15 w0 w16 n88 n34 w54)))
else
(if (ahd (Region.schedule true (opsOf (cAt [1, 1, 1, 1, 1, 0, 1, 0] (bodyOf Try.f13))) (World.tape w16 (World.drawn w16) (.order 13 8))) 10 13 && true) = true then
((World.cell? (World.drew w16) (Addr.add (⟨w0.heap.size, 0, none⟩) 4)).bind fun v36 =>
(asI .i64 v36).bind fun n37 =>
if (ahd (Region.schedule true (opsOf (cAt [1, 1, 1, 1, 1, 0, 1, 0] (bodyOf Try.f13))) (World.tape w16 (World.drawn w16) (.order 13 8))) 6 8 && (ahd (Region.schedule true (opsOf (cAt [1, 1, 1, 1, 1, 0, 1, 0] (bodyOf Try.f13))) (World.tape w16 (World.drawn w16) (.order 13 8))) 6 13 && true)) = true then
((World.cell? (World.drew w16) (Addr.add (⟨w0.heap.size, 0, none⟩) 2)).bind fun v56 =>
(asI .i64 v56).bind fun n57 =>
g13_j46 w16 w0 x15 a27 n57 n37)
else
(if (ahd (Region.schedule true (opsOf (cAt [1, 1, 1, 1, 1, 0, 1, 0] (bodyOf Try.f13))) (World.tape w16 (World.drawn w16) (.order 13 8))) 8 13 && true) = true then
((World.cell? (World.drew w16) (Addr.add (⟨w0.heap.size, 0, none⟩) 3)).bind fun v58 =>
(asI .u64 v58).bind fun n59 =>
g13_j53 w16 w0 x15 a27 n59 n37)
else
((st1 (World.drew w16) a27 (.int .i64 1)).bind fun w60 =>
(World.cell? w60 (Addr.add (⟨w0.heap.size, 0, none⟩) 2)).bind fun v89 =>
(asI .i64 v89).bind fun n90 =>
g13_j76 x15 w0 w16 n90 n37 w60)))
else
((st1 (World.drew w16) a27 (.int .i64 1)).bind fun w39 =>
(World.cell? w39 (Addr.add (⟨w0.heap.size, 0, none⟩) 2)).bind fun v62 =>
(asI .i64 v62).bind fun n63 =>
g13_j48 x15 w0 w16 n63 w39))))
else
(if ((n18 : Int) == 2) = true then
(x15.bind fun a186 =>
(st1 w16 a186 (.int .i64 2)).bind fun w187 =>
(World.cell? w187 (Addr.add (⟨w0.heap.size, 0, none⟩) 5)).bind fun v188 =>
(asSl v188).bind fun q189 =>
g13_l191 x15 q189 0 w187)
else
(if ((n18 : Int) == 3) = true then
(x15.bind fun a224 =>
(World.cell? (World.drew w16) (Addr.add a224 3)).bind fun v227 =>
(asI .i64 v227).bind fun n228 =>
x15.bind fun a231 =>
(World.cell? (World.drew w16) (Addr.add a231 2)).bind fun v234 =>
(asI .u64 v234).bind fun n235 =>
x15.bind fun a238 =>
if (ahd (Region.schedule true (opsOf (cAt [1, 1, 1, 1, 1, 0, 1, 1, 1, 1, 1, 0] (bodyOf Try.f13))) (World.tape w16 (World.drawn w16) (.order 13 19))) 13 16 && true) = true then
((World.cell? (World.drew w16) (Addr.add (⟨w0.heap.size, 0, none⟩) 6)).bind fun v241 =>
(asB v241).bind fun b242 =>
(st1 (World.drew w16) a238 (.int .i64 3)).bind fun w246 =>
x15.bind fun a250 =>
g13_j253 n228 x15 n235 w16 b242 (Addr.add a250 5) w246)
else
((st1 (World.drew w16) a238 (.int .i64 3)).bind fun w244 =>
x15.bind fun a248 =>
if (ahd (Region.schedule true (opsOf (cAt [1, 1, 1, 1, 1, 0, 1, 1, 1, 1, 1, 0] (bodyOf Try.f13))) (World.tape w16 (World.drawn w16) (.order 13 19))) 13 19 && true) = true then
((World.cell? w244 (Addr.add (⟨w0.heap.size, 0, none⟩) 6)).bind fun v254 =>
(asB v254).bind fun b255 =>
g13_j253 n228 x15 n235 w16 b255 (Addr.add a248 5) w244)
else
((st1 w244 (Addr.add a248 5) (.int .i64 n228)).bind fun w256 =>
x15.bind fun a263 =>
if (ahd (Region.schedule true (opsOf (cAt [1, 1, 1, 1, 1, 0, 1, 1, 1, 1, 1, 0] (bodyOf Try.f13))) (World.tape w16 (World.drawn w16) (.order 13 19))) 13 22 && true) = true then
((World.cell? w256 (Addr.add (⟨w0.heap.size, 0, none⟩) 6)).bind fun v269 =>
(asB v269).bind fun b270 =>
g13_j268 n235 x15 w16 b270 (Addr.add a263 6) w256)
else
((st1 w256 (Addr.add a263 6) (.int .u64 n235)).bind fun w271 =>
(World.cell? w271 (Addr.add (⟨w0.heap.size, 0, none⟩) 6)).bind fun v278 =>
(asB v278).bind fun b279 =>
g13_j277 x15 w16 b279 w271))))
else
(if ((n18 : Int) == 4) = true then
(x15.bind fun a287 =>
(World.cell? w16 (Addr.add a287 5)).bind fun v288 =>
(asI .i64 v288).bind fun n289 =>
x15.bind fun a290 =>
(st1 w16 a290 (.int .i64 4)).bind fun w291 =>
x15.bind fun a292 =>
(st1 w291 (Addr.add a292 3) (.int .i64 (IntKind.i64.wrap (n289 + 2)))).bind fun w293 =>
x15.bind fun a294 =>
(st1 w293 (Addr.add a294 4) (.slice none 0 0)).bind fun w295 =>
some (.tuple #[], w295))
else
(some (.tuple #[], w16)))))

noncomputable def g13 (u0 : Option Addr) (u1c0 : Int) (u1c1 : Int) (u1c2 : Int) (u1c3 : Int) (u1c4 : Int) (u1c5 : Option Addr × Nat × Nat) (u1c6 : Bool) (w0 : World) : Option (Value × World) :=
if (u0.isNone) = true then
(some (.tuple #[], (World.alloc w0 (.cells #[.int .i64 u1c0, .int .i64 u1c1, .int .i64 u1c2, .int .u64 u1c3, .int .i64 u1c4, .slice u1c5.1 u1c5.2.1 u1c5.2.2, .bool u1c6] 30))))
else
(u0.bind fun a1 =>
(World.cell? (World.drew (World.alloc w0 (.cells #[.int .i64 u1c0, .int .i64 u1c1, .int .i64 u1c2, .int .u64 u1c3, .int .i64 u1c4, .slice u1c5.1 u1c5.2.1 u1c5.2.2, .bool u1c6] 30))) a1).bind fun v2 =>
(asM v2).bind fun m3 =>
(World.cell? (World.drew (World.alloc w0 (.cells #[.int .i64 u1c0, .int .i64 u1c1, .int .i64 u1c2, .int .u64 u1c3, .int .i64 u1c4, .slice u1c5.1 u1c5.2.1 u1c5.2.2, .bool u1c6] 30))) (Addr.add (⟨w0.heap.size, 0, none⟩) 1)).bind fun v4 =>
(asI .i64 v4).bind fun n5 =>
(mLook (.int .i64) (World.drew (World.alloc w0 (.cells #[.int .i64 u1c0, .int .i64 u1c1, .int .i64 u1c2, .int .u64 u1c3, .int .i64 u1c4, .slice u1c5.1 u1c5.2.1 u1c5.2.2, .bool u1c6] 30))) m3 (.int .i64 n5)).bind fun o6 =>
(asP (o6.getD (.pointer none))).bind fun p7 =>
if (p7.isNone) = true then
(u0.bind fun a9 =>
(World.cell? (World.drew (World.alloc (World.drew (World.alloc w0 (.cells #[.int .i64 u1c0, .int .i64 u1c1, .int .i64 u1c2, .int .u64 u1c3, .int .i64 u1c4, .slice u1c5.1 u1c5.2.1 u1c5.2.2, .bool u1c6] 30))) (.cells #[.int .i64 0, .int .i64 0, .int .u64 0, .int .i64 0, .slice none 0 0, .int .i64 (-1), .int .u64 0, .bool false] 46))) a9).bind fun v10 =>
(asM v10).bind fun m11 =>
(World.cell? (World.drew (World.alloc (World.drew (World.alloc w0 (.cells #[.int .i64 u1c0, .int .i64 u1c1, .int .i64 u1c2, .int .u64 u1c3, .int .i64 u1c4, .slice u1c5.1 u1c5.2.1 u1c5.2.2, .bool u1c6] 30))) (.cells #[.int .i64 0, .int .i64 0, .int .u64 0, .int .i64 0, .slice none 0 0, .int .i64 (-1), .int .u64 0, .bool false] 46))) (Addr.add (⟨w0.heap.size, 0, none⟩) 1)).bind fun v12 =>
(asI .i64 v12).bind fun n13 =>
(mUpd (.int .i64) (World.drew (World.alloc (World.drew (World.alloc w0 (.cells #[.int .i64 u1c0, .int .i64 u1c1, .int .i64 u1c2, .int .u64 u1c3, .int .i64 u1c4, .slice u1c5.1 u1c5.2.1 u1c5.2.2, .bool u1c6] 30))) (.cells #[.int .i64 0, .int .i64 0, .int .u64 0, .int .i64 0, .slice none 0 0, .int .i64 (-1), .int .u64 0, .bool false] 46))) m11 (.int .i64 n13) (.pointer (some (⟨(World.drew (World.alloc w0 (.cells #[.int .i64 u1c0, .int .i64 u1c1, .int .i64 u1c2, .int .u64 u1c3, .int .i64 u1c4, .slice u1c5.1 u1c5.2.1 u1c5.2.2, .bool u1c6] 30))).heap.size, 0, none⟩)))).bind fun w14 =>
g13_j8 w0 (some (⟨(World.drew (World.alloc w0 (.cells #[.int .i64 u1c0, .int .i64 u1c1, .int .i64 u1c2, .int .u64 u1c3, .int .i64 u1c4, .slice u1c5.1 u1c5.2.1 u1c5.2.2, .bool u1c6] 30))).heap.size, 0, none⟩)) w14)
else
(g13_j8 w0 p7 (World.drew (World.alloc w0 (.cells #[.int .i64 u1c0, .int .i64 u1c1, .int .i64 u1c2, .int .u64 u1c3, .int .i64 u1c4, .slice u1c5.1 u1c5.2.1 u1c5.2.2, .bool u1c6] 30)))))

theorem g13_eq (u0 : Option Addr) (u1c0 : Int) (u1c1 : Int) (u1c2 : Int) (u1c3 : Int) (u1c4 : Int) (u1c5 : Option Addr × Nat × Nat) (u1c6 : Bool) (w0 : World) : evFn Try.prog 13 g13_ann #[.pointer u0, .agg #[.int .i64 u1c0, .int .i64 u1c1, .int .i64 u1c2, .int .u64 u1c3, .int .i64 u1c4, .slice u1c5.1 u1c5.2.1 u1c5.2.2, .bool u1c6]] w0 = g13 u0 u1c0 u1c1 u1c2 u1c3 u1c4 u1c5 u1c6 w0 := by kernel_rfl

theorem g13_call {u0 : Option Addr} {u1c0 : Int} {u1c1 : Int} {u1c2 : Int} {u1c3 : Int} {u1c4 : Int} {u1c5 : Option Addr × Nat × Nat} {u1c6 : Bool} {w0 : World} {r : Value × World} (h : g13 u0 u1c0 u1c1 u1c2 u1c3 u1c4 u1c5 u1c6 w0 = some r) : callF Try.prog 13 #[.pointer u0, .agg #[.int .i64 u1c0, .int .i64 u1c1, .int .i64 u1c2, .int .u64 u1c3, .int .i64 u1c4, .slice u1c5.1 u1c5.2.1 u1c5.2.2, .bool u1c6]] w0 = some r :=
  callF_of_evFn (ann := g13_ann) Try.call13 (by kernel_rfl) ((g13_eq u0 u1c0 u1c1 u1c2 u1c3 u1c4 u1c5 u1c6 w0).trans h)

theorem g13_l191_x1_of {x15 : Option Addr} {q189 : Option Addr × Nat × Nat} {s t : Int} {w w' : World} (h : loopS (g13_l191_b q189 x15) s w = some (.exit 1, t, w')) : g13_l191 x15 q189 s w = g13_l191_x1 x15 t w' := by
  have h1 : g13_l191 x15 q189 s w = loopM Try.prog 127 13 g13_ann (cAt [1, 1, 1, 1, 1, 0, 1, 1, 1, 0, 1, 0, 1, 0, 0] (bodyOf Try.f13)) [0, 1, 0, 1, 0, 1, 1, 1, 0, 1, 1, 1, 1, 1] g13_K212 ((g13_l191_cs x15 q189) ++ sputs [(60, .i .i64)] s) w := by kernel_rfl
  have h2 : loopM Try.prog 127 13 g13_ann (cAt [1, 1, 1, 1, 1, 0, 1, 1, 1, 0, 1, 0, 1, 0, 0] (bodyOf Try.f13)) [0, 1, 0, 1, 0, 1, 1, 1, 0, 1, 1, 1, 1, 1] g13_K212 ((g13_l191_cs x15 q189) ++ sputs [(60, .i .i64)] s) w = g13_K212 (.exit 1) (puts 127 ((g13_l191_cs x15 q189) ++ sputs [(60, .i .i64)] t)) w' :=
    loop_rule (P := Try.prog) (N := 127) (f := 13) (ann := g13_ann) (body := (cAt [1, 1, 1, 1, 1, 0, 1, 1, 1, 0, 1, 0, 1, 0, 0] (bodyOf Try.f13))) (pt := [0, 1, 0, 1, 0, 1, 1, 1, 0, 1, 1, 1, 1, 1]) (K := g13_K212) (g13_l191_cs x15 q189) [(60, .i .i64)] (b := g13_l191_b q189 x15) (fun s w => by kernel_rfl) (by kernel_rfl) (by kernel_rfl) (by kernel_rfl) h
  have h3 : g13_K212 (.exit 1) (puts 127 ((g13_l191_cs x15 q189) ++ sputs [(60, .i .i64)] t)) w' = g13_l191_x1 x15 t w' := by kernel_rfl
  exact h1.trans (h2.trans h3)

/-! 14: (*penstock/txn.State).Init (s: *txn.State, n: int, inc: int, pid: uint64) -/
def g14_ann : List (List Nat × List Nat) := []

noncomputable def g14_j76 (w22 : World) (w0 : World) (w103 : World) : Option (Value × World) :=
(ldN w103 (⟨w22.heap.size, 0, none⟩) 0 7).bind fun l104 =>
(asI .i64 (l104.getD 0 undef)).bind fun n105 =>
(asI .i64 (l104.getD 1 undef)).bind fun n106 =>
(asI .i64 (l104.getD 2 undef)).bind fun n107 =>
(asI .u64 (l104.getD 3 undef)).bind fun n108 =>
(asI .i64 (l104.getD 4 undef)).bind fun n109 =>
(asSl (l104.getD 5 undef)).bind fun q110 =>
(asB (l104.getD 6 undef)).bind fun b111 =>
(stL w103 (⟨w0.heap.size, 0, none⟩) [.int .i64 n105, .int .i64 n106, .int .i64 n107, .int .u64 n108, .int .i64 n109, .slice q110.1 q110.2.1 q110.2.2, .bool b111] 0).bind fun w112 =>
(ldN w112 (⟨w0.heap.size, 0, none⟩) 0 7).bind fun l113 =>
(asI .i64 (l113.getD 0 undef)).bind fun n114 =>
(asI .i64 (l113.getD 1 undef)).bind fun n115 =>
(asI .i64 (l113.getD 2 undef)).bind fun n116 =>
(asI .u64 (l113.getD 3 undef)).bind fun n117 =>
(asI .i64 (l113.getD 4 undef)).bind fun n118 =>
(asSl (l113.getD 5 undef)).bind fun q119 =>
(asB (l113.getD 6 undef)).bind fun b120 =>
some (.tuple #[.agg #[.int .i64 n114, .int .i64 n115, .int .i64 n116, .int .u64 n117, .int .i64 n118, .slice q119.1 q119.2.1 q119.2.2, .bool b120], .bool true, .int .i64 0], w112)

noncomputable def g14_j137 (w22 : World) (w0 : World) (w164 : World) : Option (Value × World) :=
(ldN w164 (⟨w22.heap.size, 0, none⟩) 0 7).bind fun l165 =>
(asI .i64 (l165.getD 0 undef)).bind fun n166 =>
(asI .i64 (l165.getD 1 undef)).bind fun n167 =>
(asI .i64 (l165.getD 2 undef)).bind fun n168 =>
(asI .u64 (l165.getD 3 undef)).bind fun n169 =>
(asI .i64 (l165.getD 4 undef)).bind fun n170 =>
(asSl (l165.getD 5 undef)).bind fun q171 =>
(asB (l165.getD 6 undef)).bind fun b172 =>
(stL w164 (⟨w0.heap.size, 0, none⟩) [.int .i64 n166, .int .i64 n167, .int .i64 n168, .int .u64 n169, .int .i64 n170, .slice q171.1 q171.2.1 q171.2.2, .bool b172] 0).bind fun w173 =>
(ldN w173 (⟨w0.heap.size, 0, none⟩) 0 7).bind fun l174 =>
(asI .i64 (l174.getD 0 undef)).bind fun n175 =>
(asI .i64 (l174.getD 1 undef)).bind fun n176 =>
(asI .i64 (l174.getD 2 undef)).bind fun n177 =>
(asI .u64 (l174.getD 3 undef)).bind fun n178 =>
(asI .i64 (l174.getD 4 undef)).bind fun n179 =>
(asSl (l174.getD 5 undef)).bind fun q180 =>
(asB (l174.getD 6 undef)).bind fun b181 =>
some (.tuple #[.agg #[.int .i64 n175, .int .i64 n176, .int .i64 n177, .int .u64 n178, .int .i64 n179, .slice q180.1 q180.2.1 q180.2.2, .bool b181], .bool true, .int .i64 0], w173)

noncomputable def g14_j222 (w22 : World) (w0 : World) (w249 : World) : Option (Value × World) :=
(ldN w249 (⟨w22.heap.size, 0, none⟩) 0 7).bind fun l250 =>
(asI .i64 (l250.getD 0 undef)).bind fun n251 =>
(asI .i64 (l250.getD 1 undef)).bind fun n252 =>
(asI .i64 (l250.getD 2 undef)).bind fun n253 =>
(asI .u64 (l250.getD 3 undef)).bind fun n254 =>
(asI .i64 (l250.getD 4 undef)).bind fun n255 =>
(asSl (l250.getD 5 undef)).bind fun q256 =>
(asB (l250.getD 6 undef)).bind fun b257 =>
(stL w249 (⟨w0.heap.size, 0, none⟩) [.int .i64 n251, .int .i64 n252, .int .i64 n253, .int .u64 n254, .int .i64 n255, .slice q256.1 q256.2.1 q256.2.2, .bool b257] 0).bind fun w258 =>
(ldN w258 (⟨w0.heap.size, 0, none⟩) 0 7).bind fun l259 =>
(asI .i64 (l259.getD 0 undef)).bind fun n260 =>
(asI .i64 (l259.getD 1 undef)).bind fun n261 =>
(asI .i64 (l259.getD 2 undef)).bind fun n262 =>
(asI .u64 (l259.getD 3 undef)).bind fun n263 =>
(asI .i64 (l259.getD 4 undef)).bind fun n264 =>
(asSl (l259.getD 5 undef)).bind fun q265 =>
(asB (l259.getD 6 undef)).bind fun b266 =>
some (.tuple #[.agg #[.int .i64 n260, .int .i64 n261, .int .i64 n262, .int .u64 n263, .int .i64 n264, .slice q265.1 q265.2.1 q265.2.2, .bool b266], .bool true, .int .i64 0], w258)

noncomputable def g14_j283 (w22 : World) (w0 : World) (w310 : World) : Option (Value × World) :=
(ldN w310 (⟨w22.heap.size, 0, none⟩) 0 7).bind fun l311 =>
(asI .i64 (l311.getD 0 undef)).bind fun n312 =>
(asI .i64 (l311.getD 1 undef)).bind fun n313 =>
(asI .i64 (l311.getD 2 undef)).bind fun n314 =>
(asI .u64 (l311.getD 3 undef)).bind fun n315 =>
(asI .i64 (l311.getD 4 undef)).bind fun n316 =>
(asSl (l311.getD 5 undef)).bind fun q317 =>
(asB (l311.getD 6 undef)).bind fun b318 =>
(stL w310 (⟨w0.heap.size, 0, none⟩) [.int .i64 n312, .int .i64 n313, .int .i64 n314, .int .u64 n315, .int .i64 n316, .slice q317.1 q317.2.1 q317.2.2, .bool b318] 0).bind fun w319 =>
(ldN w319 (⟨w0.heap.size, 0, none⟩) 0 7).bind fun l320 =>
(asI .i64 (l320.getD 0 undef)).bind fun n321 =>
(asI .i64 (l320.getD 1 undef)).bind fun n322 =>
(asI .i64 (l320.getD 2 undef)).bind fun n323 =>
(asI .u64 (l320.getD 3 undef)).bind fun n324 =>
(asI .i64 (l320.getD 4 undef)).bind fun n325 =>
(asSl (l320.getD 5 undef)).bind fun q326 =>
(asB (l320.getD 6 undef)).bind fun b327 =>
some (.tuple #[.agg #[.int .i64 n321, .int .i64 n322, .int .i64 n323, .int .u64 n324, .int .i64 n325, .slice q326.1 q326.2.1 q326.2.2, .bool b327], .bool true, .int .i64 0], w319)

noncomputable def g14 (u0 : Option Addr) (u1 : Int) (u2 : Int) (u3 : Int) (w0 : World) : Option (Value × World) :=
(callF Try.prog 34 #[.pointer u0, .int .i64 u1] (World.alloc w0 (.cells #[.int .i64 0, .int .i64 0, .int .i64 0, .int .u64 0, .int .i64 0, .slice none 0 0, .bool false] 30))).bind fun r1 =>
(asI .i64 r1.1).bind fun n2 =>
if ((n2 : Int) != 0) = true then
((stL r1.2 (⟨w0.heap.size, 0, none⟩) [.int .i64 0, .int .i64 0, .int .i64 0, .int .u64 0, .int .i64 0, .slice none 0 0, .bool false] 0).bind fun w3 =>
(ldN w3 (⟨w0.heap.size, 0, none⟩) 0 7).bind fun l4 =>
(asI .i64 (l4.getD 0 undef)).bind fun n5 =>
(asI .i64 (l4.getD 1 undef)).bind fun n6 =>
(asI .i64 (l4.getD 2 undef)).bind fun n7 =>
(asI .u64 (l4.getD 3 undef)).bind fun n8 =>
(asI .i64 (l4.getD 4 undef)).bind fun n9 =>
(asSl (l4.getD 5 undef)).bind fun q10 =>
(asB (l4.getD 6 undef)).bind fun b11 =>
some (.tuple #[.agg #[.int .i64 n5, .int .i64 n6, .int .i64 n7, .int .u64 n8, .int .i64 n9, .slice q10.1 q10.2.1 q10.2.2, .bool b11], .bool false, .int .i64 n2], w3))
else
((callF Try.prog 21 #[.pointer u0, .int .i64 u1] r1.2).bind fun r12 =>
(Ev.asAgg 8 r12.1).bind fun l13 =>
(asI .i64 (l13.getD 0 undef)).bind fun n14 =>
(asI .i64 (l13.getD 1 undef)).bind fun n15 =>
(asI .u64 (l13.getD 2 undef)).bind fun n16 =>
(asI .i64 (l13.getD 3 undef)).bind fun n17 =>
(asSl (l13.getD 4 undef)).bind fun q18 =>
(asI .i64 (l13.getD 5 undef)).bind fun n19 =>
(asI .u64 (l13.getD 6 undef)).bind fun n20 =>
(asB (l13.getD 7 undef)).bind fun b21 =>
(stL (World.alloc r12.2 (.cells #[.int .i64 0, .int .i64 0, .int .u64 0, .int .i64 0, .slice none 0 0, .int .i64 0, .int .u64 0, .bool false] 46)) (⟨r12.2.heap.size, 0, none⟩) [.int .i64 n14, .int .i64 n15, .int .u64 n16, .int .i64 n17, .slice q18.1 q18.2.1 q18.2.2, .int .i64 n19, .int .u64 n20, .bool b21] 0).bind fun w22 =>
(World.cell? w22 (⟨r12.2.heap.size, 0, none⟩)).bind fun v23 =>
(asI .i64 v23).bind fun n24 =>
if ((n24 : Int) != 0) = true then
((World.cell? w22 (Addr.add (⟨r12.2.heap.size, 0, none⟩) 1)).bind fun v25 =>
(asI .i64 v25).bind fun n26 =>
if (decide ((u2 : Int) < n26)) = true then
((stL w22 (⟨w0.heap.size, 0, none⟩) [.int .i64 0, .int .i64 0, .int .i64 0, .int .u64 0, .int .i64 0, .slice none 0 0, .bool false] 0).bind fun w27 =>
(ldN w27 (⟨w0.heap.size, 0, none⟩) 0 7).bind fun l28 =>
(asI .i64 (l28.getD 0 undef)).bind fun n29 =>
(asI .i64 (l28.getD 1 undef)).bind fun n30 =>
(asI .i64 (l28.getD 2 undef)).bind fun n31 =>
(asI .u64 (l28.getD 3 undef)).bind fun n32 =>
(asI .i64 (l28.getD 4 undef)).bind fun n33 =>
(asSl (l28.getD 5 undef)).bind fun q34 =>
(asB (l28.getD 6 undef)).bind fun b35 =>
some (.tuple #[.agg #[.int .i64 n29, .int .i64 n30, .int .i64 n31, .int .u64 n32, .int .i64 n33, .slice q34.1 q34.2.1 q34.2.2, .bool b35], .bool false, .int .i64 10], w27))
else
((World.cell? w22 (⟨r12.2.heap.size, 0, none⟩)).bind fun v36 =>
(asI .i64 v36).bind fun n37 =>
if ((n37 : Int) == 3) = true then
((stL w22 (⟨w0.heap.size, 0, none⟩) [.int .i64 0, .int .i64 0, .int .i64 0, .int .u64 0, .int .i64 0, .slice none 0 0, .bool false] 0).bind fun w38 =>
(ldN w38 (⟨w0.heap.size, 0, none⟩) 0 7).bind fun l39 =>
(asI .i64 (l39.getD 0 undef)).bind fun n40 =>
(asI .i64 (l39.getD 1 undef)).bind fun n41 =>
(asI .i64 (l39.getD 2 undef)).bind fun n42 =>
(asI .u64 (l39.getD 3 undef)).bind fun n43 =>
(asI .i64 (l39.getD 4 undef)).bind fun n44 =>
(asSl (l39.getD 5 undef)).bind fun q45 =>
(asB (l39.getD 6 undef)).bind fun b46 =>
some (.tuple #[.agg #[.int .i64 n40, .int .i64 n41, .int .i64 n42, .int .u64 n43, .int .i64 n44, .slice q45.1 q45.2.1 q45.2.2, .bool b46], .bool false, .int .i64 16], w38))
else
((World.cell? w22 (⟨r12.2.heap.size, 0, none⟩)).bind fun v47 =>
(asI .i64 v47).bind fun n48 =>
if ((n48 : Int) != 0) = true then
((World.cell? w22 (Addr.add (⟨r12.2.heap.size, 0, none⟩) 1)).bind fun v49 =>
(asI .i64 v49).bind fun n50 =>
if ((u2 : Int) == n50) = true then
((stL w22 (⟨w0.heap.size, 0, none⟩) [.int .i64 0, .int .i64 0, .int .i64 0, .int .u64 0, .int .i64 0, .slice none 0 0, .bool false] 0).bind fun w51 =>
(ldN w51 (⟨w0.heap.size, 0, none⟩) 0 7).bind fun l52 =>
(asI .i64 (l52.getD 0 undef)).bind fun n53 =>
(asI .i64 (l52.getD 1 undef)).bind fun n54 =>
(asI .i64 (l52.getD 2 undef)).bind fun n55 =>
(asI .u64 (l52.getD 3 undef)).bind fun n56 =>
(asI .i64 (l52.getD 4 undef)).bind fun n57 =>
(asSl (l52.getD 5 undef)).bind fun q58 =>
(asB (l52.getD 6 undef)).bind fun b59 =>
some (.tuple #[.agg #[.int .i64 n53, .int .i64 n54, .int .i64 n55, .int .u64 n56, .int .i64 n57, .slice q58.1 q58.2.1 q58.2.2, .bool b59], .bool false, .int .i64 0], w51))
else
((World.cell? w22 (⟨r12.2.heap.size, 0, none⟩)).bind fun v60 =>
(asI .i64 v60).bind fun n61 =>
if ((n61 : Int) == 2) = true then
((stL w22 (⟨w0.heap.size, 0, none⟩) [.int .i64 3, .int .i64 u1, .int .i64 0, .int .u64 0, .int .i64 0, .slice none 0 0, .bool false] 0).bind fun w62 =>
(ldN w62 (⟨w0.heap.size, 0, none⟩) 0 7).bind fun l63 =>
(asI .i64 (l63.getD 0 undef)).bind fun n64 =>
(asI .i64 (l63.getD 1 undef)).bind fun n65 =>
(asI .i64 (l63.getD 2 undef)).bind fun n66 =>
(asI .u64 (l63.getD 3 undef)).bind fun n67 =>
(asI .i64 (l63.getD 4 undef)).bind fun n68 =>
(asSl (l63.getD 5 undef)).bind fun q69 =>
(asB (l63.getD 6 undef)).bind fun b70 =>
some (.tuple #[.agg #[.int .i64 n64, .int .i64 n65, .int .i64 n66, .int .u64 n67, .int .i64 n68, .slice q69.1 q69.2.1 q69.2.2, .bool b70], .bool true, .int .i64 16], w62))
else
((World.cell? w22 (Addr.add (⟨r12.2.heap.size, 0, none⟩) 2)).bind fun v71 =>
(asI .u64 v71).bind fun n72 =>
(World.cell? w22 (Addr.add (⟨r12.2.heap.size, 0, none⟩) 3)).bind fun v73 =>
(asI .i64 v73).bind fun n74 =>
(stL (World.alloc w22 (.cells #[.int .i64 0, .int .i64 0, .int .i64 0, .int .u64 0, .int .i64 0, .slice none 0 0, .bool false] 30)) (⟨w22.heap.size, 0, none⟩) [.int .i64 1, .int .i64 u1, .int .i64 u2, .int .u64 n72, .int .i64 (IntKind.i64.wrap (n74 + 2)), .slice none 0 0, .bool false] 0).bind fun w75 =>
(World.cell? w75 (⟨r12.2.heap.size, 0, none⟩)).bind fun v77 =>
(asI .i64 v77).bind fun n78 =>
if ((n78 : Int) == 0) = true then
(if ((u3 : Int) == 0) = true then
((stL w75 (⟨w0.heap.size, 0, none⟩) [.int .i64 0, .int .i64 0, .int .i64 0, .int .u64 0, .int .i64 0, .slice none 0 0, .bool false] 0).bind fun w79 =>
(ldN w79 (⟨w0.heap.size, 0, none⟩) 0 7).bind fun l80 =>
(asI .i64 (l80.getD 0 undef)).bind fun n81 =>
(asI .i64 (l80.getD 1 undef)).bind fun n82 =>
(asI .i64 (l80.getD 2 undef)).bind fun n83 =>
(asI .u64 (l80.getD 3 undef)).bind fun n84 =>
(asI .i64 (l80.getD 4 undef)).bind fun n85 =>
(asSl (l80.getD 5 undef)).bind fun q86 =>
(asB (l80.getD 6 undef)).bind fun b87 =>
some (.tuple #[.agg #[.int .i64 n81, .int .i64 n82, .int .i64 n83, .int .u64 n84, .int .i64 n85, .slice q86.1 q86.2.1 q86.2.2, .bool b87], .bool false, .int .i64 16], w79))
else
((st1 w75 (Addr.add (⟨w22.heap.size, 0, none⟩) 3) (.int .u64 u3)).bind fun w88 =>
(st1 w88 (Addr.add (⟨w22.heap.size, 0, none⟩) 4) (.int .i64 0)).bind fun w89 =>
g14_j76 w22 w0 w89))
else
((World.cell? w75 (Addr.add (⟨w22.heap.size, 0, none⟩) 4)).bind fun v90 =>
(asI .i64 v90).bind fun n91 =>
if (decide ((n91 : Int) ≥ 999)) = true then
(if ((u3 : Int) == 0) = true then
((stL w75 (⟨w0.heap.size, 0, none⟩) [.int .i64 0, .int .i64 0, .int .i64 0, .int .u64 0, .int .i64 0, .slice none 0 0, .bool false] 0).bind fun w92 =>
(ldN w92 (⟨w0.heap.size, 0, none⟩) 0 7).bind fun l93 =>
(asI .i64 (l93.getD 0 undef)).bind fun n94 =>
(asI .i64 (l93.getD 1 undef)).bind fun n95 =>
(asI .i64 (l93.getD 2 undef)).bind fun n96 =>
(asI .u64 (l93.getD 3 undef)).bind fun n97 =>
(asI .i64 (l93.getD 4 undef)).bind fun n98 =>
(asSl (l93.getD 5 undef)).bind fun q99 =>
(asB (l93.getD 6 undef)).bind fun b100 =>
some (.tuple #[.agg #[.int .i64 n94, .int .i64 n95, .int .i64 n96, .int .u64 n97, .int .i64 n98, .slice q99.1 q99.2.1 q99.2.2, .bool b100], .bool false, .int .i64 16], w92))
else
((st1 w75 (Addr.add (⟨w22.heap.size, 0, none⟩) 3) (.int .u64 u3)).bind fun w101 =>
(st1 w101 (Addr.add (⟨w22.heap.size, 0, none⟩) 4) (.int .i64 0)).bind fun w102 =>
g14_j76 w22 w0 w102))
else
(g14_j76 w22 w0 w75)))))
else
((World.cell? w22 (⟨r12.2.heap.size, 0, none⟩)).bind fun v121 =>
(asI .i64 v121).bind fun n122 =>
if ((n122 : Int) == 2) = true then
((stL w22 (⟨w0.heap.size, 0, none⟩) [.int .i64 3, .int .i64 u1, .int .i64 0, .int .u64 0, .int .i64 0, .slice none 0 0, .bool false] 0).bind fun w123 =>
(ldN w123 (⟨w0.heap.size, 0, none⟩) 0 7).bind fun l124 =>
(asI .i64 (l124.getD 0 undef)).bind fun n125 =>
(asI .i64 (l124.getD 1 undef)).bind fun n126 =>
(asI .i64 (l124.getD 2 undef)).bind fun n127 =>
(asI .u64 (l124.getD 3 undef)).bind fun n128 =>
(asI .i64 (l124.getD 4 undef)).bind fun n129 =>
(asSl (l124.getD 5 undef)).bind fun q130 =>
(asB (l124.getD 6 undef)).bind fun b131 =>
some (.tuple #[.agg #[.int .i64 n125, .int .i64 n126, .int .i64 n127, .int .u64 n128, .int .i64 n129, .slice q130.1 q130.2.1 q130.2.2, .bool b131], .bool true, .int .i64 16], w123))
else
((World.cell? w22 (Addr.add (⟨r12.2.heap.size, 0, none⟩) 2)).bind fun v132 =>
(asI .u64 v132).bind fun n133 =>
(World.cell? w22 (Addr.add (⟨r12.2.heap.size, 0, none⟩) 3)).bind fun v134 =>
(asI .i64 v134).bind fun n135 =>
(stL (World.alloc w22 (.cells #[.int .i64 0, .int .i64 0, .int .i64 0, .int .u64 0, .int .i64 0, .slice none 0 0, .bool false] 30)) (⟨w22.heap.size, 0, none⟩) [.int .i64 1, .int .i64 u1, .int .i64 u2, .int .u64 n133, .int .i64 (IntKind.i64.wrap (n135 + 2)), .slice none 0 0, .bool false] 0).bind fun w136 =>
(World.cell? w136 (⟨r12.2.heap.size, 0, none⟩)).bind fun v138 =>
(asI .i64 v138).bind fun n139 =>
if ((n139 : Int) == 0) = true then
(if ((u3 : Int) == 0) = true then
((stL w136 (⟨w0.heap.size, 0, none⟩) [.int .i64 0, .int .i64 0, .int .i64 0, .int .u64 0, .int .i64 0, .slice none 0 0, .bool false] 0).bind fun w140 =>
(ldN w140 (⟨w0.heap.size, 0, none⟩) 0 7).bind fun l141 =>
(asI .i64 (l141.getD 0 undef)).bind fun n142 =>
(asI .i64 (l141.getD 1 undef)).bind fun n143 =>
(asI .i64 (l141.getD 2 undef)).bind fun n144 =>
(asI .u64 (l141.getD 3 undef)).bind fun n145 =>
(asI .i64 (l141.getD 4 undef)).bind fun n146 =>
(asSl (l141.getD 5 undef)).bind fun q147 =>
(asB (l141.getD 6 undef)).bind fun b148 =>
some (.tuple #[.agg #[.int .i64 n142, .int .i64 n143, .int .i64 n144, .int .u64 n145, .int .i64 n146, .slice q147.1 q147.2.1 q147.2.2, .bool b148], .bool false, .int .i64 16], w140))
else
((st1 w136 (Addr.add (⟨w22.heap.size, 0, none⟩) 3) (.int .u64 u3)).bind fun w149 =>
(st1 w149 (Addr.add (⟨w22.heap.size, 0, none⟩) 4) (.int .i64 0)).bind fun w150 =>
g14_j137 w22 w0 w150))
else
((World.cell? w136 (Addr.add (⟨w22.heap.size, 0, none⟩) 4)).bind fun v151 =>
(asI .i64 v151).bind fun n152 =>
if (decide ((n152 : Int) ≥ 999)) = true then
(if ((u3 : Int) == 0) = true then
((stL w136 (⟨w0.heap.size, 0, none⟩) [.int .i64 0, .int .i64 0, .int .i64 0, .int .u64 0, .int .i64 0, .slice none 0 0, .bool false] 0).bind fun w153 =>
(ldN w153 (⟨w0.heap.size, 0, none⟩) 0 7).bind fun l154 =>
(asI .i64 (l154.getD 0 undef)).bind fun n155 =>
(asI .i64 (l154.getD 1 undef)).bind fun n156 =>
(asI .i64 (l154.getD 2 undef)).bind fun n157 =>
(asI .u64 (l154.getD 3 undef)).bind fun n158 =>
(asI .i64 (l154.getD 4 undef)).bind fun n159 =>
(asSl (l154.getD 5 undef)).bind fun q160 =>
(asB (l154.getD 6 undef)).bind fun b161 =>
some (.tuple #[.agg #[.int .i64 n155, .int .i64 n156, .int .i64 n157, .int .u64 n158, .int .i64 n159, .slice q160.1 q160.2.1 q160.2.2, .bool b161], .bool false, .int .i64 16], w153))
else
((st1 w136 (Addr.add (⟨w22.heap.size, 0, none⟩) 3) (.int .u64 u3)).bind fun w162 =>
(st1 w162 (Addr.add (⟨w22.heap.size, 0, none⟩) 4) (.int .i64 0)).bind fun w163 =>
g14_j137 w22 w0 w163))
else
(g14_j137 w22 w0 w136)))))))
else
((World.cell? w22 (⟨r12.2.heap.size, 0, none⟩)).bind fun v182 =>
(asI .i64 v182).bind fun n183 =>
if ((n183 : Int) == 3) = true then
((stL w22 (⟨w0.heap.size, 0, none⟩) [.int .i64 0, .int .i64 0, .int .i64 0, .int .u64 0, .int .i64 0, .slice none 0 0, .bool false] 0).bind fun w184 =>
(ldN w184 (⟨w0.heap.size, 0, none⟩) 0 7).bind fun l185 =>
(asI .i64 (l185.getD 0 undef)).bind fun n186 =>
(asI .i64 (l185.getD 1 undef)).bind fun n187 =>
(asI .i64 (l185.getD 2 undef)).bind fun n188 =>
(asI .u64 (l185.getD 3 undef)).bind fun n189 =>
(asI .i64 (l185.getD 4 undef)).bind fun n190 =>
(asSl (l185.getD 5 undef)).bind fun q191 =>
(asB (l185.getD 6 undef)).bind fun b192 =>
some (.tuple #[.agg #[.int .i64 n186, .int .i64 n187, .int .i64 n188, .int .u64 n189, .int .i64 n190, .slice q191.1 q191.2.1 q191.2.2, .bool b192], .bool false, .int .i64 16], w184))
else
((World.cell? w22 (⟨r12.2.heap.size, 0, none⟩)).bind fun v193 =>
(asI .i64 v193).bind fun n194 =>
if ((n194 : Int) != 0) = true then
((World.cell? w22 (Addr.add (⟨r12.2.heap.size, 0, none⟩) 1)).bind fun v195 =>
(asI .i64 v195).bind fun n196 =>
if ((u2 : Int) == n196) = true then
((stL w22 (⟨w0.heap.size, 0, none⟩) [.int .i64 0, .int .i64 0, .int .i64 0, .int .u64 0, .int .i64 0, .slice none 0 0, .bool false] 0).bind fun w197 =>
(ldN w197 (⟨w0.heap.size, 0, none⟩) 0 7).bind fun l198 =>
(asI .i64 (l198.getD 0 undef)).bind fun n199 =>
(asI .i64 (l198.getD 1 undef)).bind fun n200 =>
(asI .i64 (l198.getD 2 undef)).bind fun n201 =>
(asI .u64 (l198.getD 3 undef)).bind fun n202 =>
(asI .i64 (l198.getD 4 undef)).bind fun n203 =>
(asSl (l198.getD 5 undef)).bind fun q204 =>
(asB (l198.getD 6 undef)).bind fun b205 =>
some (.tuple #[.agg #[.int .i64 n199, .int .i64 n200, .int .i64 n201, .int .u64 n202, .int .i64 n203, .slice q204.1 q204.2.1 q204.2.2, .bool b205], .bool false, .int .i64 0], w197))
else
((World.cell? w22 (⟨r12.2.heap.size, 0, none⟩)).bind fun v206 =>
(asI .i64 v206).bind fun n207 =>
if ((n207 : Int) == 2) = true then
((stL w22 (⟨w0.heap.size, 0, none⟩) [.int .i64 3, .int .i64 u1, .int .i64 0, .int .u64 0, .int .i64 0, .slice none 0 0, .bool false] 0).bind fun w208 =>
(ldN w208 (⟨w0.heap.size, 0, none⟩) 0 7).bind fun l209 =>
(asI .i64 (l209.getD 0 undef)).bind fun n210 =>
(asI .i64 (l209.getD 1 undef)).bind fun n211 =>
(asI .i64 (l209.getD 2 undef)).bind fun n212 =>
(asI .u64 (l209.getD 3 undef)).bind fun n213 =>
(asI .i64 (l209.getD 4 undef)).bind fun n214 =>
(asSl (l209.getD 5 undef)).bind fun q215 =>
(asB (l209.getD 6 undef)).bind fun b216 =>
some (.tuple #[.agg #[.int .i64 n210, .int .i64 n211, .int .i64 n212, .int .u64 n213, .int .i64 n214, .slice q215.1 q215.2.1 q215.2.2, .bool b216], .bool true, .int .i64 16], w208))
else
((World.cell? w22 (Addr.add (⟨r12.2.heap.size, 0, none⟩) 2)).bind fun v217 =>
(asI .u64 v217).bind fun n218 =>
(World.cell? w22 (Addr.add (⟨r12.2.heap.size, 0, none⟩) 3)).bind fun v219 =>
(asI .i64 v219).bind fun n220 =>
(stL (World.alloc w22 (.cells #[.int .i64 0, .int .i64 0, .int .i64 0, .int .u64 0, .int .i64 0, .slice none 0 0, .bool false] 30)) (⟨w22.heap.size, 0, none⟩) [.int .i64 1, .int .i64 u1, .int .i64 u2, .int .u64 n218, .int .i64 (IntKind.i64.wrap (n220 + 2)), .slice none 0 0, .bool false] 0).bind fun w221 =>
(World.cell? w221 (⟨r12.2.heap.size, 0, none⟩)).bind fun v223 =>
(asI .i64 v223).bind fun n224 =>
if ((n224 : Int) == 0) = true then
(if ((u3 : Int) == 0) = true then
((stL w221 (⟨w0.heap.size, 0, none⟩) [.int .i64 0, .int .i64 0, .int .i64 0, .int .u64 0, .int .i64 0, .slice none 0 0, .bool false] 0).bind fun w225 =>
(ldN w225 (⟨w0.heap.size, 0, none⟩) 0 7).bind fun l226 =>
(asI .i64 (l226.getD 0 undef)).bind fun n227 =>
(asI .i64 (l226.getD 1 undef)).bind fun n228 =>
(asI .i64 (l226.getD 2 undef)).bind fun n229 =>
(asI .u64 (l226.getD 3 undef)).bind fun n230 =>
(asI .i64 (l226.getD 4 undef)).bind fun n231 =>
(asSl (l226.getD 5 undef)).bind fun q232 =>
(asB (l226.getD 6 undef)).bind fun b233 =>
some (.tuple #[.agg #[.int .i64 n227, .int .i64 n228, .int .i64 n229, .int .u64 n230, .int .i64 n231, .slice q232.1 q232.2.1 q232.2.2, .bool b233], .bool false, .int .i64 16], w225))
else
((st1 w221 (Addr.add (⟨w22.heap.size, 0, none⟩) 3) (.int .u64 u3)).bind fun w234 =>
(st1 w234 (Addr.add (⟨w22.heap.size, 0, none⟩) 4) (.int .i64 0)).bind fun w235 =>
g14_j222 w22 w0 w235))
else
((World.cell? w221 (Addr.add (⟨w22.heap.size, 0, none⟩) 4)).bind fun v236 =>
(asI .i64 v236).bind fun n237 =>
if (decide ((n237 : Int) ≥ 999)) = true then
(if ((u3 : Int) == 0) = true then
((stL w221 (⟨w0.heap.size, 0, none⟩) [.int .i64 0, .int .i64 0, .int .i64 0, .int .u64 0, .int .i64 0, .slice none 0 0, .bool false] 0).bind fun w238 =>
(ldN w238 (⟨w0.heap.size, 0, none⟩) 0 7).bind fun l239 =>
(asI .i64 (l239.getD 0 undef)).bind fun n240 =>
(asI .i64 (l239.getD 1 undef)).bind fun n241 =>
(asI .i64 (l239.getD 2 undef)).bind fun n242 =>
(asI .u64 (l239.getD 3 undef)).bind fun n243 =>
(asI .i64 (l239.getD 4 undef)).bind fun n244 =>
(asSl (l239.getD 5 undef)).bind fun q245 =>
(asB (l239.getD 6 undef)).bind fun b246 =>
some (.tuple #[.agg #[.int .i64 n240, .int .i64 n241, .int .i64 n242, .int .u64 n243, .int .i64 n244, .slice q245.1 q245.2.1 q245.2.2, .bool b246], .bool false, .int .i64 16], w238))
else
((st1 w221 (Addr.add (⟨w22.heap.size, 0, none⟩) 3) (.int .u64 u3)).bind fun w247 =>
(st1 w247 (Addr.add (⟨w22.heap.size, 0, none⟩) 4) (.int .i64 0)).bind fun w248 =>
g14_j222 w22 w0 w248))
else
(g14_j222 w22 w0 w221)))))
else
((World.cell? w22 (⟨r12.2.heap.size, 0, none⟩)).bind fun v267 =>
(asI .i64 v267).bind fun n268 =>
if ((n268 : Int) == 2) = true then
((stL w22 (⟨w0.heap.size, 0, none⟩) [.int .i64 3, .int .i64 u1, .int .i64 0, .int .u64 0, .int .i64 0, .slice none 0 0, .bool false] 0).bind fun w269 =>
(ldN w269 (⟨w0.heap.size, 0, none⟩) 0 7).bind fun l270 =>
(asI .i64 (l270.getD 0 undef)).bind fun n271 =>
(asI .i64 (l270.getD 1 undef)).bind fun n272 =>
(asI .i64 (l270.getD 2 undef)).bind fun n273 =>
(asI .u64 (l270.getD 3 undef)).bind fun n274 =>
(asI .i64 (l270.getD 4 undef)).bind fun n275 =>
(asSl (l270.getD 5 undef)).bind fun q276 =>
(asB (l270.getD 6 undef)).bind fun b277 =>
some (.tuple #[.agg #[.int .i64 n271, .int .i64 n272, .int .i64 n273, .int .u64 n274, .int .i64 n275, .slice q276.1 q276.2.1 q276.2.2, .bool b277], .bool true, .int .i64 16], w269))
else
((World.cell? w22 (Addr.add (⟨r12.2.heap.size, 0, none⟩) 2)).bind fun v278 =>
(asI .u64 v278).bind fun n279 =>
(World.cell? w22 (Addr.add (⟨r12.2.heap.size, 0, none⟩) 3)).bind fun v280 =>
(asI .i64 v280).bind fun n281 =>
(stL (World.alloc w22 (.cells #[.int .i64 0, .int .i64 0, .int .i64 0, .int .u64 0, .int .i64 0, .slice none 0 0, .bool false] 30)) (⟨w22.heap.size, 0, none⟩) [.int .i64 1, .int .i64 u1, .int .i64 u2, .int .u64 n279, .int .i64 (IntKind.i64.wrap (n281 + 2)), .slice none 0 0, .bool false] 0).bind fun w282 =>
(World.cell? w282 (⟨r12.2.heap.size, 0, none⟩)).bind fun v284 =>
(asI .i64 v284).bind fun n285 =>
if ((n285 : Int) == 0) = true then
(if ((u3 : Int) == 0) = true then
((stL w282 (⟨w0.heap.size, 0, none⟩) [.int .i64 0, .int .i64 0, .int .i64 0, .int .u64 0, .int .i64 0, .slice none 0 0, .bool false] 0).bind fun w286 =>
(ldN w286 (⟨w0.heap.size, 0, none⟩) 0 7).bind fun l287 =>
(asI .i64 (l287.getD 0 undef)).bind fun n288 =>
(asI .i64 (l287.getD 1 undef)).bind fun n289 =>
(asI .i64 (l287.getD 2 undef)).bind fun n290 =>
(asI .u64 (l287.getD 3 undef)).bind fun n291 =>
(asI .i64 (l287.getD 4 undef)).bind fun n292 =>
(asSl (l287.getD 5 undef)).bind fun q293 =>
(asB (l287.getD 6 undef)).bind fun b294 =>
some (.tuple #[.agg #[.int .i64 n288, .int .i64 n289, .int .i64 n290, .int .u64 n291, .int .i64 n292, .slice q293.1 q293.2.1 q293.2.2, .bool b294], .bool false, .int .i64 16], w286))
else
((st1 w282 (Addr.add (⟨w22.heap.size, 0, none⟩) 3) (.int .u64 u3)).bind fun w295 =>
(st1 w295 (Addr.add (⟨w22.heap.size, 0, none⟩) 4) (.int .i64 0)).bind fun w296 =>
g14_j283 w22 w0 w296))
else
((World.cell? w282 (Addr.add (⟨w22.heap.size, 0, none⟩) 4)).bind fun v297 =>
(asI .i64 v297).bind fun n298 =>
if (decide ((n298 : Int) ≥ 999)) = true then
(if ((u3 : Int) == 0) = true then
((stL w282 (⟨w0.heap.size, 0, none⟩) [.int .i64 0, .int .i64 0, .int .i64 0, .int .u64 0, .int .i64 0, .slice none 0 0, .bool false] 0).bind fun w299 =>
(ldN w299 (⟨w0.heap.size, 0, none⟩) 0 7).bind fun l300 =>
(asI .i64 (l300.getD 0 undef)).bind fun n301 =>
(asI .i64 (l300.getD 1 undef)).bind fun n302 =>
(asI .i64 (l300.getD 2 undef)).bind fun n303 =>
(asI .u64 (l300.getD 3 undef)).bind fun n304 =>
(asI .i64 (l300.getD 4 undef)).bind fun n305 =>
(asSl (l300.getD 5 undef)).bind fun q306 =>
(asB (l300.getD 6 undef)).bind fun b307 =>
some (.tuple #[.agg #[.int .i64 n301, .int .i64 n302, .int .i64 n303, .int .u64 n304, .int .i64 n305, .slice q306.1 q306.2.1 q306.2.2, .bool b307], .bool false, .int .i64 16], w299))
else
((st1 w282 (Addr.add (⟨w22.heap.size, 0, none⟩) 3) (.int .u64 u3)).bind fun w308 =>
(st1 w308 (Addr.add (⟨w22.heap.size, 0, none⟩) 4) (.int .i64 0)).bind fun w309 =>
g14_j283 w22 w0 w309))
else
(g14_j283 w22 w0 w282)))))))

theorem g14_eq (u0 : Option Addr) (u1 : Int) (u2 : Int) (u3 : Int) (w0 : World) : evFn Try.prog 14 g14_ann #[.pointer u0, .int .i64 u1, .int .i64 u2, .int .u64 u3] w0 = g14 u0 u1 u2 u3 w0 := by kernel_rfl

theorem g14_call {u0 : Option Addr} {u1 : Int} {u2 : Int} {u3 : Int} {w0 : World} {r : Value × World} (h : g14 u0 u1 u2 u3 w0 = some r) : callF Try.prog 14 #[.pointer u0, .int .i64 u1, .int .i64 u2, .int .u64 u3] w0 = some r :=
  callF_of_evFn (ann := g14_ann) Try.call14 (by kernel_rfl) ((g14_eq u0 u1 u2 u3 w0).trans h)

/-! 16: (*penstock/txn.State).Add (s: *txn.State, n: int, pid: uint64, epoch: int, part: int) -/
def g16_ann : List (List Nat × List Nat) := []

noncomputable def g16 (u0 : Option Addr) (u1 : Int) (u2 : Int) (u3 : Int) (u4 : Int) (w0 : World) : Option (Value × World) :=
(callF Try.prog 34 #[.pointer u0, .int .i64 u1] (World.alloc w0 (.cells #[.int .i64 0, .int .i64 0, .int .i64 0, .int .u64 0, .int .i64 0, .slice none 0 0, .bool false] 30))).bind fun r1 =>
(asI .i64 r1.1).bind fun n2 =>
if ((n2 : Int) != 0) = true then
((stL r1.2 (⟨w0.heap.size, 0, none⟩) [.int .i64 0, .int .i64 0, .int .i64 0, .int .u64 0, .int .i64 0, .slice none 0 0, .bool false] 0).bind fun w3 =>
(ldN w3 (⟨w0.heap.size, 0, none⟩) 0 7).bind fun l4 =>
(asI .i64 (l4.getD 0 undef)).bind fun n5 =>
(asI .i64 (l4.getD 1 undef)).bind fun n6 =>
(asI .i64 (l4.getD 2 undef)).bind fun n7 =>
(asI .u64 (l4.getD 3 undef)).bind fun n8 =>
(asI .i64 (l4.getD 4 undef)).bind fun n9 =>
(asSl (l4.getD 5 undef)).bind fun q10 =>
(asB (l4.getD 6 undef)).bind fun b11 =>
some (.tuple #[.agg #[.int .i64 n5, .int .i64 n6, .int .i64 n7, .int .u64 n8, .int .i64 n9, .slice q10.1 q10.2.1 q10.2.2, .bool b11], .bool false, .int .i64 n2], w3))
else
((callF Try.prog 21 #[.pointer u0, .int .i64 u1] r1.2).bind fun r12 =>
(Ev.asAgg 8 r12.1).bind fun l13 =>
(asI .i64 (l13.getD 0 undef)).bind fun n14 =>
(asI .i64 (l13.getD 1 undef)).bind fun n15 =>
(asI .u64 (l13.getD 2 undef)).bind fun n16 =>
(asI .i64 (l13.getD 3 undef)).bind fun n17 =>
(asSl (l13.getD 4 undef)).bind fun q18 =>
(asI .i64 (l13.getD 5 undef)).bind fun n19 =>
(asI .u64 (l13.getD 6 undef)).bind fun n20 =>
(asB (l13.getD 7 undef)).bind fun b21 =>
(stL (World.alloc r12.2 (.cells #[.int .i64 0, .int .i64 0, .int .u64 0, .int .i64 0, .slice none 0 0, .int .i64 0, .int .u64 0, .bool false] 46)) (⟨r12.2.heap.size, 0, none⟩) [.int .i64 n14, .int .i64 n15, .int .u64 n16, .int .i64 n17, .slice q18.1 q18.2.1 q18.2.2, .int .i64 n19, .int .u64 n20, .bool b21] 0).bind fun w22 =>
if (decide ((u4 : Int) < 0)) = true then
((stL w22 (⟨w0.heap.size, 0, none⟩) [.int .i64 0, .int .i64 0, .int .i64 0, .int .u64 0, .int .i64 0, .slice none 0 0, .bool false] 0).bind fun w23 =>
(ldN w23 (⟨w0.heap.size, 0, none⟩) 0 7).bind fun l24 =>
(asI .i64 (l24.getD 0 undef)).bind fun n25 =>
(asI .i64 (l24.getD 1 undef)).bind fun n26 =>
(asI .i64 (l24.getD 2 undef)).bind fun n27 =>
(asI .u64 (l24.getD 3 undef)).bind fun n28 =>
(asI .i64 (l24.getD 4 undef)).bind fun n29 =>
(asSl (l24.getD 5 undef)).bind fun q30 =>
(asB (l24.getD 6 undef)).bind fun b31 =>
some (.tuple #[.agg #[.int .i64 n25, .int .i64 n26, .int .i64 n27, .int .u64 n28, .int .i64 n29, .slice q30.1 q30.2.1 q30.2.2, .bool b31], .bool false, .int .i64 1], w23))
else
(if (decide ((u4 : Int) ≥ 6)) = true then
((stL w22 (⟨w0.heap.size, 0, none⟩) [.int .i64 0, .int .i64 0, .int .i64 0, .int .u64 0, .int .i64 0, .slice none 0 0, .bool false] 0).bind fun w32 =>
(ldN w32 (⟨w0.heap.size, 0, none⟩) 0 7).bind fun l33 =>
(asI .i64 (l33.getD 0 undef)).bind fun n34 =>
(asI .i64 (l33.getD 1 undef)).bind fun n35 =>
(asI .i64 (l33.getD 2 undef)).bind fun n36 =>
(asI .u64 (l33.getD 3 undef)).bind fun n37 =>
(asI .i64 (l33.getD 4 undef)).bind fun n38 =>
(asSl (l33.getD 5 undef)).bind fun q39 =>
(asB (l33.getD 6 undef)).bind fun b40 =>
some (.tuple #[.agg #[.int .i64 n34, .int .i64 n35, .int .i64 n36, .int .u64 n37, .int .i64 n38, .slice q39.1 q39.2.1 q39.2.2, .bool b40], .bool false, .int .i64 1], w32))
else
((World.cell? w22 (⟨r12.2.heap.size, 0, none⟩)).bind fun v41 =>
(asI .i64 v41).bind fun n42 =>
if ((n42 : Int) == 0) = true then
((stL w22 (⟨w0.heap.size, 0, none⟩) [.int .i64 0, .int .i64 0, .int .i64 0, .int .u64 0, .int .i64 0, .slice none 0 0, .bool false] 0).bind fun w43 =>
(ldN w43 (⟨w0.heap.size, 0, none⟩) 0 7).bind fun l44 =>
(asI .i64 (l44.getD 0 undef)).bind fun n45 =>
(asI .i64 (l44.getD 1 undef)).bind fun n46 =>
(asI .i64 (l44.getD 2 undef)).bind fun n47 =>
(asI .u64 (l44.getD 3 undef)).bind fun n48 =>
(asI .i64 (l44.getD 4 undef)).bind fun n49 =>
(asSl (l44.getD 5 undef)).bind fun q50 =>
(asB (l44.getD 6 undef)).bind fun b51 =>
some (.tuple #[.agg #[.int .i64 n45, .int .i64 n46, .int .i64 n47, .int .u64 n48, .int .i64 n49, .slice q50.1 q50.2.1 q50.2.2, .bool b51], .bool false, .int .i64 10], w43))
else
((World.cell? w22 (Addr.add (⟨r12.2.heap.size, 0, none⟩) 2)).bind fun v52 =>
(asI .u64 v52).bind fun n53 =>
if ((u2 : Int) != n53) = true then
((stL w22 (⟨w0.heap.size, 0, none⟩) [.int .i64 0, .int .i64 0, .int .i64 0, .int .u64 0, .int .i64 0, .slice none 0 0, .bool false] 0).bind fun w54 =>
(ldN w54 (⟨w0.heap.size, 0, none⟩) 0 7).bind fun l55 =>
(asI .i64 (l55.getD 0 undef)).bind fun n56 =>
(asI .i64 (l55.getD 1 undef)).bind fun n57 =>
(asI .i64 (l55.getD 2 undef)).bind fun n58 =>
(asI .u64 (l55.getD 3 undef)).bind fun n59 =>
(asI .i64 (l55.getD 4 undef)).bind fun n60 =>
(asSl (l55.getD 5 undef)).bind fun q61 =>
(asB (l55.getD 6 undef)).bind fun b62 =>
some (.tuple #[.agg #[.int .i64 n56, .int .i64 n57, .int .i64 n58, .int .u64 n59, .int .i64 n60, .slice q61.1 q61.2.1 q61.2.2, .bool b62], .bool false, .int .i64 10], w54))
else
((World.cell? w22 (Addr.add (⟨r12.2.heap.size, 0, none⟩) 3)).bind fun v63 =>
(asI .i64 v63).bind fun n64 =>
if ((u3 : Int) != n64) = true then
((stL w22 (⟨w0.heap.size, 0, none⟩) [.int .i64 0, .int .i64 0, .int .i64 0, .int .u64 0, .int .i64 0, .slice none 0 0, .bool false] 0).bind fun w65 =>
(ldN w65 (⟨w0.heap.size, 0, none⟩) 0 7).bind fun l66 =>
(asI .i64 (l66.getD 0 undef)).bind fun n67 =>
(asI .i64 (l66.getD 1 undef)).bind fun n68 =>
(asI .i64 (l66.getD 2 undef)).bind fun n69 =>
(asI .u64 (l66.getD 3 undef)).bind fun n70 =>
(asI .i64 (l66.getD 4 undef)).bind fun n71 =>
(asSl (l66.getD 5 undef)).bind fun q72 =>
(asB (l66.getD 6 undef)).bind fun b73 =>
some (.tuple #[.agg #[.int .i64 n67, .int .i64 n68, .int .i64 n69, .int .u64 n70, .int .i64 n71, .slice q72.1 q72.2.1 q72.2.2, .bool b73], .bool false, .int .i64 10], w65))
else
((World.cell? w22 (⟨r12.2.heap.size, 0, none⟩)).bind fun v74 =>
(asI .i64 v74).bind fun n75 =>
if ((n75 : Int) == 3) = true then
((stL w22 (⟨w0.heap.size, 0, none⟩) [.int .i64 0, .int .i64 0, .int .i64 0, .int .u64 0, .int .i64 0, .slice none 0 0, .bool false] 0).bind fun w76 =>
(ldN w76 (⟨w0.heap.size, 0, none⟩) 0 7).bind fun l77 =>
(asI .i64 (l77.getD 0 undef)).bind fun n78 =>
(asI .i64 (l77.getD 1 undef)).bind fun n79 =>
(asI .i64 (l77.getD 2 undef)).bind fun n80 =>
(asI .u64 (l77.getD 3 undef)).bind fun n81 =>
(asI .i64 (l77.getD 4 undef)).bind fun n82 =>
(asSl (l77.getD 5 undef)).bind fun q83 =>
(asB (l77.getD 6 undef)).bind fun b84 =>
some (.tuple #[.agg #[.int .i64 n78, .int .i64 n79, .int .i64 n80, .int .u64 n81, .int .i64 n82, .slice q83.1 q83.2.1 q83.2.2, .bool b84], .bool false, .int .i64 16], w76))
else
(if (decide ((u3 : Int) ≥ 999)) = true then
((stL w22 (⟨w0.heap.size, 0, none⟩) [.int .i64 0, .int .i64 0, .int .i64 0, .int .u64 0, .int .i64 0, .slice none 0 0, .bool false] 0).bind fun w85 =>
(ldN w85 (⟨w0.heap.size, 0, none⟩) 0 7).bind fun l86 =>
(asI .i64 (l86.getD 0 undef)).bind fun n87 =>
(asI .i64 (l86.getD 1 undef)).bind fun n88 =>
(asI .i64 (l86.getD 2 undef)).bind fun n89 =>
(asI .u64 (l86.getD 3 undef)).bind fun n90 =>
(asI .i64 (l86.getD 4 undef)).bind fun n91 =>
(asSl (l86.getD 5 undef)).bind fun q92 =>
(asB (l86.getD 6 undef)).bind fun b93 =>
some (.tuple #[.agg #[.int .i64 n87, .int .i64 n88, .int .i64 n89, .int .u64 n90, .int .i64 n91, .slice q92.1 q92.2.1 q92.2.2, .bool b93], .bool false, .int .i64 17], w85))
else
((World.cell? w22 (Addr.add (⟨r12.2.heap.size, 0, none⟩) 4)).bind fun v94 =>
(asSl v94).bind fun q95 =>
(callF Try.prog 32 #[.slice q95.1 q95.2.1 q95.2.2, .int .i64 u4] w22).bind fun r96 =>
(asB r96.1).bind fun b97 =>
if b97 = true then
((stL r96.2 (⟨w0.heap.size, 0, none⟩) [.int .i64 0, .int .i64 0, .int .i64 0, .int .u64 0, .int .i64 0, .slice none 0 0, .bool false] 0).bind fun w98 =>
(ldN w98 (⟨w0.heap.size, 0, none⟩) 0 7).bind fun l99 =>
(asI .i64 (l99.getD 0 undef)).bind fun n100 =>
(asI .i64 (l99.getD 1 undef)).bind fun n101 =>
(asI .i64 (l99.getD 2 undef)).bind fun n102 =>
(asI .u64 (l99.getD 3 undef)).bind fun n103 =>
(asI .i64 (l99.getD 4 undef)).bind fun n104 =>
(asSl (l99.getD 5 undef)).bind fun q105 =>
(asB (l99.getD 6 undef)).bind fun b106 =>
some (.tuple #[.agg #[.int .i64 n100, .int .i64 n101, .int .i64 n102, .int .u64 n103, .int .i64 n104, .slice q105.1 q105.2.1 q105.2.2, .bool b106], .bool false, .int .i64 0], w98))
else
((stL (World.alloc r96.2 (.cells #[.int .i64 u4] 3)) (⟨w0.heap.size, 0, none⟩) [.int .i64 2, .int .i64 u1, .int .i64 0, .int .u64 0, .int .i64 0, .slice (some (⟨r96.2.heap.size, 0, none⟩)) 1 1, .bool false] 0).bind fun w107 =>
(ldN w107 (⟨w0.heap.size, 0, none⟩) 0 7).bind fun l108 =>
(asI .i64 (l108.getD 0 undef)).bind fun n109 =>
(asI .i64 (l108.getD 1 undef)).bind fun n110 =>
(asI .i64 (l108.getD 2 undef)).bind fun n111 =>
(asI .u64 (l108.getD 3 undef)).bind fun n112 =>
(asI .i64 (l108.getD 4 undef)).bind fun n113 =>
(asSl (l108.getD 5 undef)).bind fun q114 =>
(asB (l108.getD 6 undef)).bind fun b115 =>
some (.tuple #[.agg #[.int .i64 n109, .int .i64 n110, .int .i64 n111, .int .u64 n112, .int .i64 n113, .slice q114.1 q114.2.1 q114.2.2, .bool b115], .bool true, .int .i64 0], w107))))))))))

theorem g16_eq (u0 : Option Addr) (u1 : Int) (u2 : Int) (u3 : Int) (u4 : Int) (w0 : World) : evFn Try.prog 16 g16_ann #[.pointer u0, .int .i64 u1, .int .u64 u2, .int .i64 u3, .int .i64 u4] w0 = g16 u0 u1 u2 u3 u4 w0 := by kernel_rfl

theorem g16_call {u0 : Option Addr} {u1 : Int} {u2 : Int} {u3 : Int} {u4 : Int} {w0 : World} {r : Value × World} (h : g16 u0 u1 u2 u3 u4 w0 = some r) : callF Try.prog 16 #[.pointer u0, .int .i64 u1, .int .u64 u2, .int .i64 u3, .int .i64 u4] w0 = some r :=
  callF_of_evFn (ann := g16_ann) Try.call16 (by kernel_rfl) ((g16_eq u0 u1 u2 u3 u4 w0).trans h)

/-! 18: (*penstock/txn.State).End (s: *txn.State, n: int, pid: uint64, epoch: int, commit: bool) -/
def g18_ann : List (List Nat × List Nat) := []

noncomputable def g18 (u0 : Option Addr) (u1 : Int) (u2 : Int) (u3 : Int) (u4 : Bool) (w0 : World) : Option (Value × World) :=
(callF Try.prog 34 #[.pointer u0, .int .i64 u1] (World.alloc w0 (.cells #[.int .i64 0, .int .i64 0, .int .i64 0, .int .u64 0, .int .i64 0, .slice none 0 0, .bool false] 30))).bind fun r1 =>
(asI .i64 r1.1).bind fun n2 =>
if ((n2 : Int) != 0) = true then
((stL r1.2 (⟨w0.heap.size, 0, none⟩) [.int .i64 0, .int .i64 0, .int .i64 0, .int .u64 0, .int .i64 0, .slice none 0 0, .bool false] 0).bind fun w3 =>
(ldN w3 (⟨w0.heap.size, 0, none⟩) 0 7).bind fun l4 =>
(asI .i64 (l4.getD 0 undef)).bind fun n5 =>
(asI .i64 (l4.getD 1 undef)).bind fun n6 =>
(asI .i64 (l4.getD 2 undef)).bind fun n7 =>
(asI .u64 (l4.getD 3 undef)).bind fun n8 =>
(asI .i64 (l4.getD 4 undef)).bind fun n9 =>
(asSl (l4.getD 5 undef)).bind fun q10 =>
(asB (l4.getD 6 undef)).bind fun b11 =>
some (.tuple #[.agg #[.int .i64 n5, .int .i64 n6, .int .i64 n7, .int .u64 n8, .int .i64 n9, .slice q10.1 q10.2.1 q10.2.2, .bool b11], .bool false, .int .i64 n2], w3))
else
((callF Try.prog 21 #[.pointer u0, .int .i64 u1] r1.2).bind fun r12 =>
(Ev.asAgg 8 r12.1).bind fun l13 =>
(asI .i64 (l13.getD 0 undef)).bind fun n14 =>
(asI .i64 (l13.getD 1 undef)).bind fun n15 =>
(asI .u64 (l13.getD 2 undef)).bind fun n16 =>
(asI .i64 (l13.getD 3 undef)).bind fun n17 =>
(asSl (l13.getD 4 undef)).bind fun q18 =>
(asI .i64 (l13.getD 5 undef)).bind fun n19 =>
(asI .u64 (l13.getD 6 undef)).bind fun n20 =>
(asB (l13.getD 7 undef)).bind fun b21 =>
(stL (World.alloc r12.2 (.cells #[.int .i64 0, .int .i64 0, .int .u64 0, .int .i64 0, .slice none 0 0, .int .i64 0, .int .u64 0, .bool false] 46)) (⟨r12.2.heap.size, 0, none⟩) [.int .i64 n14, .int .i64 n15, .int .u64 n16, .int .i64 n17, .slice q18.1 q18.2.1 q18.2.2, .int .i64 n19, .int .u64 n20, .bool b21] 0).bind fun w22 =>
(World.cell? w22 (⟨r12.2.heap.size, 0, none⟩)).bind fun v23 =>
(asI .i64 v23).bind fun n24 =>
if ((n24 : Int) == 0) = true then
((stL w22 (⟨w0.heap.size, 0, none⟩) [.int .i64 0, .int .i64 0, .int .i64 0, .int .u64 0, .int .i64 0, .slice none 0 0, .bool false] 0).bind fun w25 =>
(ldN w25 (⟨w0.heap.size, 0, none⟩) 0 7).bind fun l26 =>
(asI .i64 (l26.getD 0 undef)).bind fun n27 =>
(asI .i64 (l26.getD 1 undef)).bind fun n28 =>
(asI .i64 (l26.getD 2 undef)).bind fun n29 =>
(asI .u64 (l26.getD 3 undef)).bind fun n30 =>
(asI .i64 (l26.getD 4 undef)).bind fun n31 =>
(asSl (l26.getD 5 undef)).bind fun q32 =>
(asB (l26.getD 6 undef)).bind fun b33 =>
some (.tuple #[.agg #[.int .i64 n27, .int .i64 n28, .int .i64 n29, .int .u64 n30, .int .i64 n31, .slice q32.1 q32.2.1 q32.2.2, .bool b33], .bool false, .int .i64 10], w25))
else
((World.cell? w22 (Addr.add (⟨r12.2.heap.size, 0, none⟩) 2)).bind fun v34 =>
(asI .u64 v34).bind fun n35 =>
if ((u2 : Int) != n35) = true then
((stL w22 (⟨w0.heap.size, 0, none⟩) [.int .i64 0, .int .i64 0, .int .i64 0, .int .u64 0, .int .i64 0, .slice none 0 0, .bool false] 0).bind fun w36 =>
(ldN w36 (⟨w0.heap.size, 0, none⟩) 0 7).bind fun l37 =>
(asI .i64 (l37.getD 0 undef)).bind fun n38 =>
(asI .i64 (l37.getD 1 undef)).bind fun n39 =>
(asI .i64 (l37.getD 2 undef)).bind fun n40 =>
(asI .u64 (l37.getD 3 undef)).bind fun n41 =>
(asI .i64 (l37.getD 4 undef)).bind fun n42 =>
(asSl (l37.getD 5 undef)).bind fun q43 =>
(asB (l37.getD 6 undef)).bind fun b44 =>
some (.tuple #[.agg #[.int .i64 n38, .int .i64 n39, .int .i64 n40, .int .u64 n41, .int .i64 n42, .slice q43.1 q43.2.1 q43.2.2, .bool b44], .bool false, .int .i64 10], w36))
else
((World.cell? w22 (Addr.add (⟨r12.2.heap.size, 0, none⟩) 5)).bind fun v45 =>
(asI .i64 v45).bind fun n46 =>
if ((u3 : Int) == n46) = true then
((World.cell? w22 (Addr.add (⟨r12.2.heap.size, 0, none⟩) 6)).bind fun v47 =>
(asI .u64 v47).bind fun n48 =>
if ((u2 : Int) == n48) = true then
((World.cell? w22 (Addr.add (⟨r12.2.heap.size, 0, none⟩) 7)).bind fun v49 =>
(asB v49).bind fun b50 =>
if (!(b50 == u4)) = true then
((stL w22 (⟨w0.heap.size, 0, none⟩) [.int .i64 0, .int .i64 0, .int .i64 0, .int .u64 0, .int .i64 0, .slice none 0 0, .bool false] 0).bind fun w51 =>
(ldN w51 (⟨w0.heap.size, 0, none⟩) 0 7).bind fun l52 =>
(asI .i64 (l52.getD 0 undef)).bind fun n53 =>
(asI .i64 (l52.getD 1 undef)).bind fun n54 =>
(asI .i64 (l52.getD 2 undef)).bind fun n55 =>
(asI .u64 (l52.getD 3 undef)).bind fun n56 =>
(asI .i64 (l52.getD 4 undef)).bind fun n57 =>
(asSl (l52.getD 5 undef)).bind fun q58 =>
(asB (l52.getD 6 undef)).bind fun b59 =>
some (.tuple #[.agg #[.int .i64 n53, .int .i64 n54, .int .i64 n55, .int .u64 n56, .int .i64 n57, .slice q58.1 q58.2.1 q58.2.2, .bool b59], .bool false, .int .i64 14], w51))
else
((World.cell? w22 (Addr.add (⟨r12.2.heap.size, 0, none⟩) 5)).bind fun v60 =>
(asI .i64 v60).bind fun n61 =>
if ((u3 : Int) == n61) = true then
((World.cell? w22 (Addr.add (⟨r12.2.heap.size, 0, none⟩) 6)).bind fun v62 =>
(asI .u64 v62).bind fun n63 =>
if ((u2 : Int) == n63) = true then
((World.cell? w22 (⟨r12.2.heap.size, 0, none⟩)).bind fun v64 =>
(asI .i64 v64).bind fun n65 =>
if ((n65 : Int) == 3) = true then
((stL w22 (⟨w0.heap.size, 0, none⟩) [.int .i64 0, .int .i64 0, .int .i64 0, .int .u64 0, .int .i64 0, .slice none 0 0, .bool false] 0).bind fun w66 =>
(ldN w66 (⟨w0.heap.size, 0, none⟩) 0 7).bind fun l67 =>
(asI .i64 (l67.getD 0 undef)).bind fun n68 =>
(asI .i64 (l67.getD 1 undef)).bind fun n69 =>
(asI .i64 (l67.getD 2 undef)).bind fun n70 =>
(asI .u64 (l67.getD 3 undef)).bind fun n71 =>
(asI .i64 (l67.getD 4 undef)).bind fun n72 =>
(asSl (l67.getD 5 undef)).bind fun q73 =>
(asB (l67.getD 6 undef)).bind fun b74 =>
some (.tuple #[.agg #[.int .i64 n68, .int .i64 n69, .int .i64 n70, .int .u64 n71, .int .i64 n72, .slice q73.1 q73.2.1 q73.2.2, .bool b74], .bool false, .int .i64 16], w66))
else
((World.cell? w22 (Addr.add (⟨r12.2.heap.size, 0, none⟩) 5)).bind fun v75 =>
(asI .i64 v75).bind fun n76 =>
if ((u3 : Int) == n76) = true then
((World.cell? w22 (Addr.add (⟨r12.2.heap.size, 0, none⟩) 6)).bind fun v77 =>
(asI .u64 v77).bind fun n78 =>
if ((u2 : Int) == n78) = true then
((stL w22 (⟨w0.heap.size, 0, none⟩) [.int .i64 0, .int .i64 0, .int .i64 0, .int .u64 0, .int .i64 0, .slice none 0 0, .bool false] 0).bind fun w79 =>
(ldN w79 (⟨w0.heap.size, 0, none⟩) 0 7).bind fun l80 =>
(asI .i64 (l80.getD 0 undef)).bind fun n81 =>
(asI .i64 (l80.getD 1 undef)).bind fun n82 =>
(asI .i64 (l80.getD 2 undef)).bind fun n83 =>
(asI .u64 (l80.getD 3 undef)).bind fun n84 =>
(asI .i64 (l80.getD 4 undef)).bind fun n85 =>
(asSl (l80.getD 5 undef)).bind fun q86 =>
(asB (l80.getD 6 undef)).bind fun b87 =>
some (.tuple #[.agg #[.int .i64 n81, .int .i64 n82, .int .i64 n83, .int .u64 n84, .int .i64 n85, .slice q86.1 q86.2.1 q86.2.2, .bool b87], .bool false, .int .i64 0], w79))
else
((World.cell? w22 (Addr.add (⟨r12.2.heap.size, 0, none⟩) 3)).bind fun v88 =>
(asI .i64 v88).bind fun n89 =>
if ((u3 : Int) != n89) = true then
((stL w22 (⟨w0.heap.size, 0, none⟩) [.int .i64 0, .int .i64 0, .int .i64 0, .int .u64 0, .int .i64 0, .slice none 0 0, .bool false] 0).bind fun w90 =>
(ldN w90 (⟨w0.heap.size, 0, none⟩) 0 7).bind fun l91 =>
(asI .i64 (l91.getD 0 undef)).bind fun n92 =>
(asI .i64 (l91.getD 1 undef)).bind fun n93 =>
(asI .i64 (l91.getD 2 undef)).bind fun n94 =>
(asI .u64 (l91.getD 3 undef)).bind fun n95 =>
(asI .i64 (l91.getD 4 undef)).bind fun n96 =>
(asSl (l91.getD 5 undef)).bind fun q97 =>
(asB (l91.getD 6 undef)).bind fun b98 =>
some (.tuple #[.agg #[.int .i64 n92, .int .i64 n93, .int .i64 n94, .int .u64 n95, .int .i64 n96, .slice q97.1 q97.2.1 q97.2.2, .bool b98], .bool false, .int .i64 10], w90))
else
((World.cell? w22 (⟨r12.2.heap.size, 0, none⟩)).bind fun v99 =>
(asI .i64 v99).bind fun n100 =>
if ((n100 : Int) != 2) = true then
((stL w22 (⟨w0.heap.size, 0, none⟩) [.int .i64 0, .int .i64 0, .int .i64 0, .int .u64 0, .int .i64 0, .slice none 0 0, .bool false] 0).bind fun w101 =>
(ldN w101 (⟨w0.heap.size, 0, none⟩) 0 7).bind fun l102 =>
(asI .i64 (l102.getD 0 undef)).bind fun n103 =>
(asI .i64 (l102.getD 1 undef)).bind fun n104 =>
(asI .i64 (l102.getD 2 undef)).bind fun n105 =>
(asI .u64 (l102.getD 3 undef)).bind fun n106 =>
(asI .i64 (l102.getD 4 undef)).bind fun n107 =>
(asSl (l102.getD 5 undef)).bind fun q108 =>
(asB (l102.getD 6 undef)).bind fun b109 =>
some (.tuple #[.agg #[.int .i64 n103, .int .i64 n104, .int .i64 n105, .int .u64 n106, .int .i64 n107, .slice q108.1 q108.2.1 q108.2.2, .bool b109], .bool false, .int .i64 14], w101))
else
((stL w22 (⟨w0.heap.size, 0, none⟩) [.int .i64 3, .int .i64 u1, .int .i64 0, .int .u64 0, .int .i64 0, .slice none 0 0, .bool u4] 0).bind fun w110 =>
(ldN w110 (⟨w0.heap.size, 0, none⟩) 0 7).bind fun l111 =>
(asI .i64 (l111.getD 0 undef)).bind fun n112 =>
(asI .i64 (l111.getD 1 undef)).bind fun n113 =>
(asI .i64 (l111.getD 2 undef)).bind fun n114 =>
(asI .u64 (l111.getD 3 undef)).bind fun n115 =>
(asI .i64 (l111.getD 4 undef)).bind fun n116 =>
(asSl (l111.getD 5 undef)).bind fun q117 =>
(asB (l111.getD 6 undef)).bind fun b118 =>
some (.tuple #[.agg #[.int .i64 n112, .int .i64 n113, .int .i64 n114, .int .u64 n115, .int .i64 n116, .slice q117.1 q117.2.1 q117.2.2, .bool b118], .bool true, .int .i64 0], w110)))))
else
((World.cell? w22 (Addr.add (⟨r12.2.heap.size, 0, none⟩) 3)).bind fun v119 =>
(asI .i64 v119).bind fun n120 =>
if ((u3 : Int) != n120) = true then
((stL w22 (⟨w0.heap.size, 0, none⟩) [.int .i64 0, .int .i64 0, .int .i64 0, .int .u64 0, .int .i64 0, .slice none 0 0, .bool false] 0).bind fun w121 =>
(ldN w121 (⟨w0.heap.size, 0, none⟩) 0 7).bind fun l122 =>
(asI .i64 (l122.getD 0 undef)).bind fun n123 =>
(asI .i64 (l122.getD 1 undef)).bind fun n124 =>
(asI .i64 (l122.getD 2 undef)).bind fun n125 =>
(asI .u64 (l122.getD 3 undef)).bind fun n126 =>
(asI .i64 (l122.getD 4 undef)).bind fun n127 =>
(asSl (l122.getD 5 undef)).bind fun q128 =>
(asB (l122.getD 6 undef)).bind fun b129 =>
some (.tuple #[.agg #[.int .i64 n123, .int .i64 n124, .int .i64 n125, .int .u64 n126, .int .i64 n127, .slice q128.1 q128.2.1 q128.2.2, .bool b129], .bool false, .int .i64 10], w121))
else
((World.cell? w22 (⟨r12.2.heap.size, 0, none⟩)).bind fun v130 =>
(asI .i64 v130).bind fun n131 =>
if ((n131 : Int) != 2) = true then
((stL w22 (⟨w0.heap.size, 0, none⟩) [.int .i64 0, .int .i64 0, .int .i64 0, .int .u64 0, .int .i64 0, .slice none 0 0, .bool false] 0).bind fun w132 =>
(ldN w132 (⟨w0.heap.size, 0, none⟩) 0 7).bind fun l133 =>
(asI .i64 (l133.getD 0 undef)).bind fun n134 =>
(asI .i64 (l133.getD 1 undef)).bind fun n135 =>
(asI .i64 (l133.getD 2 undef)).bind fun n136 =>
(asI .u64 (l133.getD 3 undef)).bind fun n137 =>
(asI .i64 (l133.getD 4 undef)).bind fun n138 =>
(asSl (l133.getD 5 undef)).bind fun q139 =>
(asB (l133.getD 6 undef)).bind fun b140 =>
some (.tuple #[.agg #[.int .i64 n134, .int .i64 n135, .int .i64 n136, .int .u64 n137, .int .i64 n138, .slice q139.1 q139.2.1 q139.2.2, .bool b140], .bool false, .int .i64 14], w132))
else
((stL w22 (⟨w0.heap.size, 0, none⟩) [.int .i64 3, .int .i64 u1, .int .i64 0, .int .u64 0, .int .i64 0, .slice none 0 0, .bool u4] 0).bind fun w141 =>
(ldN w141 (⟨w0.heap.size, 0, none⟩) 0 7).bind fun l142 =>
(asI .i64 (l142.getD 0 undef)).bind fun n143 =>
(asI .i64 (l142.getD 1 undef)).bind fun n144 =>
(asI .i64 (l142.getD 2 undef)).bind fun n145 =>
(asI .u64 (l142.getD 3 undef)).bind fun n146 =>
(asI .i64 (l142.getD 4 undef)).bind fun n147 =>
(asSl (l142.getD 5 undef)).bind fun q148 =>
(asB (l142.getD 6 undef)).bind fun b149 =>
some (.tuple #[.agg #[.int .i64 n143, .int .i64 n144, .int .i64 n145, .int .u64 n146, .int .i64 n147, .slice q148.1 q148.2.1 q148.2.2, .bool b149], .bool true, .int .i64 0], w141))))))
else
((World.cell? w22 (Addr.add (⟨r12.2.heap.size, 0, none⟩) 5)).bind fun v150 =>
(asI .i64 v150).bind fun n151 =>
if ((u3 : Int) == n151) = true then
((World.cell? w22 (Addr.add (⟨r12.2.heap.size, 0, none⟩) 6)).bind fun v152 =>
(asI .u64 v152).bind fun n153 =>
if ((u2 : Int) == n153) = true then
((stL w22 (⟨w0.heap.size, 0, none⟩) [.int .i64 0, .int .i64 0, .int .i64 0, .int .u64 0, .int .i64 0, .slice none 0 0, .bool false] 0).bind fun w154 =>
(ldN w154 (⟨w0.heap.size, 0, none⟩) 0 7).bind fun l155 =>
(asI .i64 (l155.getD 0 undef)).bind fun n156 =>
(asI .i64 (l155.getD 1 undef)).bind fun n157 =>
(asI .i64 (l155.getD 2 undef)).bind fun n158 =>
(asI .u64 (l155.getD 3 undef)).bind fun n159 =>
(asI .i64 (l155.getD 4 undef)).bind fun n160 =>
(asSl (l155.getD 5 undef)).bind fun q161 =>
(asB (l155.getD 6 undef)).bind fun b162 =>
some (.tuple #[.agg #[.int .i64 n156, .int .i64 n157, .int .i64 n158, .int .u64 n159, .int .i64 n160, .slice q161.1 q161.2.1 q161.2.2, .bool b162], .bool false, .int .i64 0], w154))
else
((World.cell? w22 (Addr.add (⟨r12.2.heap.size, 0, none⟩) 3)).bind fun v163 =>
(asI .i64 v163).bind fun n164 =>
if ((u3 : Int) != n164) = true then
((stL w22 (⟨w0.heap.size, 0, none⟩) [.int .i64 0, .int .i64 0, .int .i64 0, .int .u64 0, .int .i64 0, .slice none 0 0, .bool false] 0).bind fun w165 =>
(ldN w165 (⟨w0.heap.size, 0, none⟩) 0 7).bind fun l166 =>
(asI .i64 (l166.getD 0 undef)).bind fun n167 =>
(asI .i64 (l166.getD 1 undef)).bind fun n168 =>
(asI .i64 (l166.getD 2 undef)).bind fun n169 =>
(asI .u64 (l166.getD 3 undef)).bind fun n170 =>
(asI .i64 (l166.getD 4 undef)).bind fun n171 =>
(asSl (l166.getD 5 undef)).bind fun q172 =>
(asB (l166.getD 6 undef)).bind fun b173 =>
some (.tuple #[.agg #[.int .i64 n167, .int .i64 n168, .int .i64 n169, .int .u64 n170, .int .i64 n171, .slice q172.1 q172.2.1 q172.2.2, .bool b173], .bool false, .int .i64 10], w165))
else
((World.cell? w22 (⟨r12.2.heap.size, 0, none⟩)).bind fun v174 =>
(asI .i64 v174).bind fun n175 =>
if ((n175 : Int) != 2) = true then
((stL w22 (⟨w0.heap.size, 0, none⟩) [.int .i64 0, .int .i64 0, .int .i64 0, .int .u64 0, .int .i64 0, .slice none 0 0, .bool false] 0).bind fun w176 =>
(ldN w176 (⟨w0.heap.size, 0, none⟩) 0 7).bind fun l177 =>
(asI .i64 (l177.getD 0 undef)).bind fun n178 =>
(asI .i64 (l177.getD 1 undef)).bind fun n179 =>
(asI .i64 (l177.getD 2 undef)).bind fun n180 =>
(asI .u64 (l177.getD 3 undef)).bind fun n181 =>
(asI .i64 (l177.getD 4 undef)).bind fun n182 =>
(asSl (l177.getD 5 undef)).bind fun q183 =>
(asB (l177.getD 6 undef)).bind fun b184 =>
some (.tuple #[.agg #[.int .i64 n178, .int .i64 n179, .int .i64 n180, .int .u64 n181, .int .i64 n182, .slice q183.1 q183.2.1 q183.2.2, .bool b184], .bool false, .int .i64 14], w176))
else
((stL w22 (⟨w0.heap.size, 0, none⟩) [.int .i64 3, .int .i64 u1, .int .i64 0, .int .u64 0, .int .i64 0, .slice none 0 0, .bool u4] 0).bind fun w185 =>
(ldN w185 (⟨w0.heap.size, 0, none⟩) 0 7).bind fun l186 =>
(asI .i64 (l186.getD 0 undef)).bind fun n187 =>
(asI .i64 (l186.getD 1 undef)).bind fun n188 =>
(asI .i64 (l186.getD 2 undef)).bind fun n189 =>
(asI .u64 (l186.getD 3 undef)).bind fun n190 =>
(asI .i64 (l186.getD 4 undef)).bind fun n191 =>
(asSl (l186.getD 5 undef)).bind fun q192 =>
(asB (l186.getD 6 undef)).bind fun b193 =>
some (.tuple #[.agg #[.int .i64 n187, .int .i64 n188, .int .i64 n189, .int .u64 n190, .int .i64 n191, .slice q192.1 q192.2.1 q192.2.2, .bool b193], .bool true, .int .i64 0], w185)))))
else
((World.cell? w22 (Addr.add (⟨r12.2.heap.size, 0, none⟩) 3)).bind fun v194 =>
(asI .i64 v194).bind fun n195 =>
if ((u3 : Int) != n195) = true then
((stL w22 (⟨w0.heap.size, 0, none⟩) [.int .i64 0, .int .i64 0, .int .i64 0, .int .u64 0, .int .i64 0, .slice none 0 0, .bool false] 0).bind fun w196 =>
(ldN w196 (⟨w0.heap.size, 0, none⟩) 0 7).bind fun l197 =>
(asI .i64 (l197.getD 0 undef)).bind fun n198 =>
(asI .i64 (l197.getD 1 undef)).bind fun n199 =>
(asI .i64 (l197.getD 2 undef)).bind fun n200 =>
(asI .u64 (l197.getD 3 undef)).bind fun n201 =>
(asI .i64 (l197.getD 4 undef)).bind fun n202 =>
(asSl (l197.getD 5 undef)).bind fun q203 =>
(asB (l197.getD 6 undef)).bind fun b204 =>
some (.tuple #[.agg #[.int .i64 n198, .int .i64 n199, .int .i64 n200, .int .u64 n201, .int .i64 n202, .slice q203.1 q203.2.1 q203.2.2, .bool b204], .bool false, .int .i64 10], w196))
else
((World.cell? w22 (⟨r12.2.heap.size, 0, none⟩)).bind fun v205 =>
(asI .i64 v205).bind fun n206 =>
if ((n206 : Int) != 2) = true then
((stL w22 (⟨w0.heap.size, 0, none⟩) [.int .i64 0, .int .i64 0, .int .i64 0, .int .u64 0, .int .i64 0, .slice none 0 0, .bool false] 0).bind fun w207 =>
(ldN w207 (⟨w0.heap.size, 0, none⟩) 0 7).bind fun l208 =>
(asI .i64 (l208.getD 0 undef)).bind fun n209 =>
(asI .i64 (l208.getD 1 undef)).bind fun n210 =>
(asI .i64 (l208.getD 2 undef)).bind fun n211 =>
(asI .u64 (l208.getD 3 undef)).bind fun n212 =>
(asI .i64 (l208.getD 4 undef)).bind fun n213 =>
(asSl (l208.getD 5 undef)).bind fun q214 =>
(asB (l208.getD 6 undef)).bind fun b215 =>
some (.tuple #[.agg #[.int .i64 n209, .int .i64 n210, .int .i64 n211, .int .u64 n212, .int .i64 n213, .slice q214.1 q214.2.1 q214.2.2, .bool b215], .bool false, .int .i64 14], w207))
else
((stL w22 (⟨w0.heap.size, 0, none⟩) [.int .i64 3, .int .i64 u1, .int .i64 0, .int .u64 0, .int .i64 0, .slice none 0 0, .bool u4] 0).bind fun w216 =>
(ldN w216 (⟨w0.heap.size, 0, none⟩) 0 7).bind fun l217 =>
(asI .i64 (l217.getD 0 undef)).bind fun n218 =>
(asI .i64 (l217.getD 1 undef)).bind fun n219 =>
(asI .i64 (l217.getD 2 undef)).bind fun n220 =>
(asI .u64 (l217.getD 3 undef)).bind fun n221 =>
(asI .i64 (l217.getD 4 undef)).bind fun n222 =>
(asSl (l217.getD 5 undef)).bind fun q223 =>
(asB (l217.getD 6 undef)).bind fun b224 =>
some (.tuple #[.agg #[.int .i64 n218, .int .i64 n219, .int .i64 n220, .int .u64 n221, .int .i64 n222, .slice q223.1 q223.2.1 q223.2.2, .bool b224], .bool true, .int .i64 0], w216))))))
else
((World.cell? w22 (Addr.add (⟨r12.2.heap.size, 0, none⟩) 5)).bind fun v225 =>
(asI .i64 v225).bind fun n226 =>
if ((u3 : Int) == n226) = true then
((World.cell? w22 (Addr.add (⟨r12.2.heap.size, 0, none⟩) 6)).bind fun v227 =>
(asI .u64 v227).bind fun n228 =>
if ((u2 : Int) == n228) = true then
((stL w22 (⟨w0.heap.size, 0, none⟩) [.int .i64 0, .int .i64 0, .int .i64 0, .int .u64 0, .int .i64 0, .slice none 0 0, .bool false] 0).bind fun w229 =>
(ldN w229 (⟨w0.heap.size, 0, none⟩) 0 7).bind fun l230 =>
(asI .i64 (l230.getD 0 undef)).bind fun n231 =>
(asI .i64 (l230.getD 1 undef)).bind fun n232 =>
(asI .i64 (l230.getD 2 undef)).bind fun n233 =>
(asI .u64 (l230.getD 3 undef)).bind fun n234 =>
(asI .i64 (l230.getD 4 undef)).bind fun n235 =>
(asSl (l230.getD 5 undef)).bind fun q236 =>
(asB (l230.getD 6 undef)).bind fun b237 =>
some (.tuple #[.agg #[.int .i64 n231, .int .i64 n232, .int .i64 n233, .int .u64 n234, .int .i64 n235, .slice q236.1 q236.2.1 q236.2.2, .bool b237], .bool false, .int .i64 0], w229))
else
((World.cell? w22 (Addr.add (⟨r12.2.heap.size, 0, none⟩) 3)).bind fun v238 =>
(asI .i64 v238).bind fun n239 =>
if ((u3 : Int) != n239) = true then
((stL w22 (⟨w0.heap.size, 0, none⟩) [.int .i64 0, .int .i64 0, .int .i64 0, .int .u64 0, .int .i64 0, .slice none 0 0, .bool false] 0).bind fun w240 =>
(ldN w240 (⟨w0.heap.size, 0, none⟩) 0 7).bind fun l241 =>
(asI .i64 (l241.getD 0 undef)).bind fun n242 =>
(asI .i64 (l241.getD 1 undef)).bind fun n243 =>
(asI .i64 (l241.getD 2 undef)).bind fun n244 =>
(asI .u64 (l241.getD 3 undef)).bind fun n245 =>
(asI .i64 (l241.getD 4 undef)).bind fun n246 =>
(asSl (l241.getD 5 undef)).bind fun q247 =>
(asB (l241.getD 6 undef)).bind fun b248 =>
some (.tuple #[.agg #[.int .i64 n242, .int .i64 n243, .int .i64 n244, .int .u64 n245, .int .i64 n246, .slice q247.1 q247.2.1 q247.2.2, .bool b248], .bool false, .int .i64 10], w240))
else
((World.cell? w22 (⟨r12.2.heap.size, 0, none⟩)).bind fun v249 =>
(asI .i64 v249).bind fun n250 =>
if ((n250 : Int) != 2) = true then
((stL w22 (⟨w0.heap.size, 0, none⟩) [.int .i64 0, .int .i64 0, .int .i64 0, .int .u64 0, .int .i64 0, .slice none 0 0, .bool false] 0).bind fun w251 =>
(ldN w251 (⟨w0.heap.size, 0, none⟩) 0 7).bind fun l252 =>
(asI .i64 (l252.getD 0 undef)).bind fun n253 =>
(asI .i64 (l252.getD 1 undef)).bind fun n254 =>
(asI .i64 (l252.getD 2 undef)).bind fun n255 =>
(asI .u64 (l252.getD 3 undef)).bind fun n256 =>
(asI .i64 (l252.getD 4 undef)).bind fun n257 =>
(asSl (l252.getD 5 undef)).bind fun q258 =>
(asB (l252.getD 6 undef)).bind fun b259 =>
some (.tuple #[.agg #[.int .i64 n253, .int .i64 n254, .int .i64 n255, .int .u64 n256, .int .i64 n257, .slice q258.1 q258.2.1 q258.2.2, .bool b259], .bool false, .int .i64 14], w251))
else
((stL w22 (⟨w0.heap.size, 0, none⟩) [.int .i64 3, .int .i64 u1, .int .i64 0, .int .u64 0, .int .i64 0, .slice none 0 0, .bool u4] 0).bind fun w260 =>
(ldN w260 (⟨w0.heap.size, 0, none⟩) 0 7).bind fun l261 =>
(asI .i64 (l261.getD 0 undef)).bind fun n262 =>
(asI .i64 (l261.getD 1 undef)).bind fun n263 =>
(asI .i64 (l261.getD 2 undef)).bind fun n264 =>
(asI .u64 (l261.getD 3 undef)).bind fun n265 =>
(asI .i64 (l261.getD 4 undef)).bind fun n266 =>
(asSl (l261.getD 5 undef)).bind fun q267 =>
(asB (l261.getD 6 undef)).bind fun b268 =>
some (.tuple #[.agg #[.int .i64 n262, .int .i64 n263, .int .i64 n264, .int .u64 n265, .int .i64 n266, .slice q267.1 q267.2.1 q267.2.2, .bool b268], .bool true, .int .i64 0], w260)))))
else
((World.cell? w22 (Addr.add (⟨r12.2.heap.size, 0, none⟩) 3)).bind fun v269 =>
(asI .i64 v269).bind fun n270 =>
if ((u3 : Int) != n270) = true then
((stL w22 (⟨w0.heap.size, 0, none⟩) [.int .i64 0, .int .i64 0, .int .i64 0, .int .u64 0, .int .i64 0, .slice none 0 0, .bool false] 0).bind fun w271 =>
(ldN w271 (⟨w0.heap.size, 0, none⟩) 0 7).bind fun l272 =>
(asI .i64 (l272.getD 0 undef)).bind fun n273 =>
(asI .i64 (l272.getD 1 undef)).bind fun n274 =>
(asI .i64 (l272.getD 2 undef)).bind fun n275 =>
(asI .u64 (l272.getD 3 undef)).bind fun n276 =>
(asI .i64 (l272.getD 4 undef)).bind fun n277 =>
(asSl (l272.getD 5 undef)).bind fun q278 =>
(asB (l272.getD 6 undef)).bind fun b279 =>
some (.tuple #[.agg #[.int .i64 n273, .int .i64 n274, .int .i64 n275, .int .u64 n276, .int .i64 n277, .slice q278.1 q278.2.1 q278.2.2, .bool b279], .bool false, .int .i64 10], w271))
else
((World.cell? w22 (⟨r12.2.heap.size, 0, none⟩)).bind fun v280 =>
(asI .i64 v280).bind fun n281 =>
if ((n281 : Int) != 2) = true then
((stL w22 (⟨w0.heap.size, 0, none⟩) [.int .i64 0, .int .i64 0, .int .i64 0, .int .u64 0, .int .i64 0, .slice none 0 0, .bool false] 0).bind fun w282 =>
(ldN w282 (⟨w0.heap.size, 0, none⟩) 0 7).bind fun l283 =>
(asI .i64 (l283.getD 0 undef)).bind fun n284 =>
(asI .i64 (l283.getD 1 undef)).bind fun n285 =>
(asI .i64 (l283.getD 2 undef)).bind fun n286 =>
(asI .u64 (l283.getD 3 undef)).bind fun n287 =>
(asI .i64 (l283.getD 4 undef)).bind fun n288 =>
(asSl (l283.getD 5 undef)).bind fun q289 =>
(asB (l283.getD 6 undef)).bind fun b290 =>
some (.tuple #[.agg #[.int .i64 n284, .int .i64 n285, .int .i64 n286, .int .u64 n287, .int .i64 n288, .slice q289.1 q289.2.1 q289.2.2, .bool b290], .bool false, .int .i64 14], w282))
else
((stL w22 (⟨w0.heap.size, 0, none⟩) [.int .i64 3, .int .i64 u1, .int .i64 0, .int .u64 0, .int .i64 0, .slice none 0 0, .bool u4] 0).bind fun w291 =>
(ldN w291 (⟨w0.heap.size, 0, none⟩) 0 7).bind fun l292 =>
(asI .i64 (l292.getD 0 undef)).bind fun n293 =>
(asI .i64 (l292.getD 1 undef)).bind fun n294 =>
(asI .i64 (l292.getD 2 undef)).bind fun n295 =>
(asI .u64 (l292.getD 3 undef)).bind fun n296 =>
(asI .i64 (l292.getD 4 undef)).bind fun n297 =>
(asSl (l292.getD 5 undef)).bind fun q298 =>
(asB (l292.getD 6 undef)).bind fun b299 =>
some (.tuple #[.agg #[.int .i64 n293, .int .i64 n294, .int .i64 n295, .int .u64 n296, .int .i64 n297, .slice q298.1 q298.2.1 q298.2.2, .bool b299], .bool true, .int .i64 0], w291)))))))
else
((World.cell? w22 (Addr.add (⟨r12.2.heap.size, 0, none⟩) 5)).bind fun v300 =>
(asI .i64 v300).bind fun n301 =>
if ((u3 : Int) == n301) = true then
((World.cell? w22 (Addr.add (⟨r12.2.heap.size, 0, none⟩) 6)).bind fun v302 =>
(asI .u64 v302).bind fun n303 =>
if ((u2 : Int) == n303) = true then
((World.cell? w22 (⟨r12.2.heap.size, 0, none⟩)).bind fun v304 =>
(asI .i64 v304).bind fun n305 =>
if ((n305 : Int) == 3) = true then
((stL w22 (⟨w0.heap.size, 0, none⟩) [.int .i64 0, .int .i64 0, .int .i64 0, .int .u64 0, .int .i64 0, .slice none 0 0, .bool false] 0).bind fun w306 =>
(ldN w306 (⟨w0.heap.size, 0, none⟩) 0 7).bind fun l307 =>
(asI .i64 (l307.getD 0 undef)).bind fun n308 =>
(asI .i64 (l307.getD 1 undef)).bind fun n309 =>
(asI .i64 (l307.getD 2 undef)).bind fun n310 =>
(asI .u64 (l307.getD 3 undef)).bind fun n311 =>
(asI .i64 (l307.getD 4 undef)).bind fun n312 =>
(asSl (l307.getD 5 undef)).bind fun q313 =>
(asB (l307.getD 6 undef)).bind fun b314 =>
some (.tuple #[.agg #[.int .i64 n308, .int .i64 n309, .int .i64 n310, .int .u64 n311, .int .i64 n312, .slice q313.1 q313.2.1 q313.2.2, .bool b314], .bool false, .int .i64 16], w306))
else
((World.cell? w22 (Addr.add (⟨r12.2.heap.size, 0, none⟩) 5)).bind fun v315 =>
(asI .i64 v315).bind fun n316 =>
if ((u3 : Int) == n316) = true then
((World.cell? w22 (Addr.add (⟨r12.2.heap.size, 0, none⟩) 6)).bind fun v317 =>
(asI .u64 v317).bind fun n318 =>
if ((u2 : Int) == n318) = true then
((stL w22 (⟨w0.heap.size, 0, none⟩) [.int .i64 0, .int .i64 0, .int .i64 0, .int .u64 0, .int .i64 0, .slice none 0 0, .bool false] 0).bind fun w319 =>
(ldN w319 (⟨w0.heap.size, 0, none⟩) 0 7).bind fun l320 =>
(asI .i64 (l320.getD 0 undef)).bind fun n321 =>
(asI .i64 (l320.getD 1 undef)).bind fun n322 =>
(asI .i64 (l320.getD 2 undef)).bind fun n323 =>
(asI .u64 (l320.getD 3 undef)).bind fun n324 =>
(asI .i64 (l320.getD 4 undef)).bind fun n325 =>
(asSl (l320.getD 5 undef)).bind fun q326 =>
(asB (l320.getD 6 undef)).bind fun b327 =>
some (.tuple #[.agg #[.int .i64 n321, .int .i64 n322, .int .i64 n323, .int .u64 n324, .int .i64 n325, .slice q326.1 q326.2.1 q326.2.2, .bool b327], .bool false, .int .i64 0], w319))
else
((World.cell? w22 (Addr.add (⟨r12.2.heap.size, 0, none⟩) 3)).bind fun v328 =>
(asI .i64 v328).bind fun n329 =>
if ((u3 : Int) != n329) = true then
((stL w22 (⟨w0.heap.size, 0, none⟩) [.int .i64 0, .int .i64 0, .int .i64 0, .int .u64 0, .int .i64 0, .slice none 0 0, .bool false] 0).bind fun w330 =>
(ldN w330 (⟨w0.heap.size, 0, none⟩) 0 7).bind fun l331 =>
(asI .i64 (l331.getD 0 undef)).bind fun n332 =>
(asI .i64 (l331.getD 1 undef)).bind fun n333 =>
(asI .i64 (l331.getD 2 undef)).bind fun n334 =>
(asI .u64 (l331.getD 3 undef)).bind fun n335 =>
(asI .i64 (l331.getD 4 undef)).bind fun n336 =>
(asSl (l331.getD 5 undef)).bind fun q337 =>
(asB (l331.getD 6 undef)).bind fun b338 =>
some (.tuple #[.agg #[.int .i64 n332, .int .i64 n333, .int .i64 n334, .int .u64 n335, .int .i64 n336, .slice q337.1 q337.2.1 q337.2.2, .bool b338], .bool false, .int .i64 10], w330))
else
((World.cell? w22 (⟨r12.2.heap.size, 0, none⟩)).bind fun v339 =>
(asI .i64 v339).bind fun n340 =>
if ((n340 : Int) != 2) = true then
((stL w22 (⟨w0.heap.size, 0, none⟩) [.int .i64 0, .int .i64 0, .int .i64 0, .int .u64 0, .int .i64 0, .slice none 0 0, .bool false] 0).bind fun w341 =>
(ldN w341 (⟨w0.heap.size, 0, none⟩) 0 7).bind fun l342 =>
(asI .i64 (l342.getD 0 undef)).bind fun n343 =>
(asI .i64 (l342.getD 1 undef)).bind fun n344 =>
(asI .i64 (l342.getD 2 undef)).bind fun n345 =>
(asI .u64 (l342.getD 3 undef)).bind fun n346 =>
(asI .i64 (l342.getD 4 undef)).bind fun n347 =>
(asSl (l342.getD 5 undef)).bind fun q348 =>
(asB (l342.getD 6 undef)).bind fun b349 =>
some (.tuple #[.agg #[.int .i64 n343, .int .i64 n344, .int .i64 n345, .int .u64 n346, .int .i64 n347, .slice q348.1 q348.2.1 q348.2.2, .bool b349], .bool false, .int .i64 14], w341))
else
((stL w22 (⟨w0.heap.size, 0, none⟩) [.int .i64 3, .int .i64 u1, .int .i64 0, .int .u64 0, .int .i64 0, .slice none 0 0, .bool u4] 0).bind fun w350 =>
(ldN w350 (⟨w0.heap.size, 0, none⟩) 0 7).bind fun l351 =>
(asI .i64 (l351.getD 0 undef)).bind fun n352 =>
(asI .i64 (l351.getD 1 undef)).bind fun n353 =>
(asI .i64 (l351.getD 2 undef)).bind fun n354 =>
(asI .u64 (l351.getD 3 undef)).bind fun n355 =>
(asI .i64 (l351.getD 4 undef)).bind fun n356 =>
(asSl (l351.getD 5 undef)).bind fun q357 =>
(asB (l351.getD 6 undef)).bind fun b358 =>
some (.tuple #[.agg #[.int .i64 n352, .int .i64 n353, .int .i64 n354, .int .u64 n355, .int .i64 n356, .slice q357.1 q357.2.1 q357.2.2, .bool b358], .bool true, .int .i64 0], w350)))))
else
((World.cell? w22 (Addr.add (⟨r12.2.heap.size, 0, none⟩) 3)).bind fun v359 =>
(asI .i64 v359).bind fun n360 =>
if ((u3 : Int) != n360) = true then
((stL w22 (⟨w0.heap.size, 0, none⟩) [.int .i64 0, .int .i64 0, .int .i64 0, .int .u64 0, .int .i64 0, .slice none 0 0, .bool false] 0).bind fun w361 =>
(ldN w361 (⟨w0.heap.size, 0, none⟩) 0 7).bind fun l362 =>
(asI .i64 (l362.getD 0 undef)).bind fun n363 =>
(asI .i64 (l362.getD 1 undef)).bind fun n364 =>
(asI .i64 (l362.getD 2 undef)).bind fun n365 =>
(asI .u64 (l362.getD 3 undef)).bind fun n366 =>
(asI .i64 (l362.getD 4 undef)).bind fun n367 =>
(asSl (l362.getD 5 undef)).bind fun q368 =>
(asB (l362.getD 6 undef)).bind fun b369 =>
some (.tuple #[.agg #[.int .i64 n363, .int .i64 n364, .int .i64 n365, .int .u64 n366, .int .i64 n367, .slice q368.1 q368.2.1 q368.2.2, .bool b369], .bool false, .int .i64 10], w361))
else
((World.cell? w22 (⟨r12.2.heap.size, 0, none⟩)).bind fun v370 =>
(asI .i64 v370).bind fun n371 =>
if ((n371 : Int) != 2) = true then
((stL w22 (⟨w0.heap.size, 0, none⟩) [.int .i64 0, .int .i64 0, .int .i64 0, .int .u64 0, .int .i64 0, .slice none 0 0, .bool false] 0).bind fun w372 =>
(ldN w372 (⟨w0.heap.size, 0, none⟩) 0 7).bind fun l373 =>
(asI .i64 (l373.getD 0 undef)).bind fun n374 =>
(asI .i64 (l373.getD 1 undef)).bind fun n375 =>
(asI .i64 (l373.getD 2 undef)).bind fun n376 =>
(asI .u64 (l373.getD 3 undef)).bind fun n377 =>
(asI .i64 (l373.getD 4 undef)).bind fun n378 =>
(asSl (l373.getD 5 undef)).bind fun q379 =>
(asB (l373.getD 6 undef)).bind fun b380 =>
some (.tuple #[.agg #[.int .i64 n374, .int .i64 n375, .int .i64 n376, .int .u64 n377, .int .i64 n378, .slice q379.1 q379.2.1 q379.2.2, .bool b380], .bool false, .int .i64 14], w372))
else
((stL w22 (⟨w0.heap.size, 0, none⟩) [.int .i64 3, .int .i64 u1, .int .i64 0, .int .u64 0, .int .i64 0, .slice none 0 0, .bool u4] 0).bind fun w381 =>
(ldN w381 (⟨w0.heap.size, 0, none⟩) 0 7).bind fun l382 =>
(asI .i64 (l382.getD 0 undef)).bind fun n383 =>
(asI .i64 (l382.getD 1 undef)).bind fun n384 =>
(asI .i64 (l382.getD 2 undef)).bind fun n385 =>
(asI .u64 (l382.getD 3 undef)).bind fun n386 =>
(asI .i64 (l382.getD 4 undef)).bind fun n387 =>
(asSl (l382.getD 5 undef)).bind fun q388 =>
(asB (l382.getD 6 undef)).bind fun b389 =>
some (.tuple #[.agg #[.int .i64 n383, .int .i64 n384, .int .i64 n385, .int .u64 n386, .int .i64 n387, .slice q388.1 q388.2.1 q388.2.2, .bool b389], .bool true, .int .i64 0], w381))))))
else
((World.cell? w22 (Addr.add (⟨r12.2.heap.size, 0, none⟩) 5)).bind fun v390 =>
(asI .i64 v390).bind fun n391 =>
if ((u3 : Int) == n391) = true then
((World.cell? w22 (Addr.add (⟨r12.2.heap.size, 0, none⟩) 6)).bind fun v392 =>
(asI .u64 v392).bind fun n393 =>
if ((u2 : Int) == n393) = true then
((stL w22 (⟨w0.heap.size, 0, none⟩) [.int .i64 0, .int .i64 0, .int .i64 0, .int .u64 0, .int .i64 0, .slice none 0 0, .bool false] 0).bind fun w394 =>
(ldN w394 (⟨w0.heap.size, 0, none⟩) 0 7).bind fun l395 =>
(asI .i64 (l395.getD 0 undef)).bind fun n396 =>
(asI .i64 (l395.getD 1 undef)).bind fun n397 =>
(asI .i64 (l395.getD 2 undef)).bind fun n398 =>
(asI .u64 (l395.getD 3 undef)).bind fun n399 =>
(asI .i64 (l395.getD 4 undef)).bind fun n400 =>
(asSl (l395.getD 5 undef)).bind fun q401 =>
(asB (l395.getD 6 undef)).bind fun b402 =>
some (.tuple #[.agg #[.int .i64 n396, .int .i64 n397, .int .i64 n398, .int .u64 n399, .int .i64 n400, .slice q401.1 q401.2.1 q401.2.2, .bool b402], .bool false, .int .i64 0], w394))
else
((World.cell? w22 (Addr.add (⟨r12.2.heap.size, 0, none⟩) 3)).bind fun v403 =>
(asI .i64 v403).bind fun n404 =>
if ((u3 : Int) != n404) = true then
((stL w22 (⟨w0.heap.size, 0, none⟩) [.int .i64 0, .int .i64 0, .int .i64 0, .int .u64 0, .int .i64 0, .slice none 0 0, .bool false] 0).bind fun w405 =>
(ldN w405 (⟨w0.heap.size, 0, none⟩) 0 7).bind fun l406 =>
(asI .i64 (l406.getD 0 undef)).bind fun n407 =>
(asI .i64 (l406.getD 1 undef)).bind fun n408 =>
(asI .i64 (l406.getD 2 undef)).bind fun n409 =>
(asI .u64 (l406.getD 3 undef)).bind fun n410 =>
(asI .i64 (l406.getD 4 undef)).bind fun n411 =>
(asSl (l406.getD 5 undef)).bind fun q412 =>
(asB (l406.getD 6 undef)).bind fun b413 =>
some (.tuple #[.agg #[.int .i64 n407, .int .i64 n408, .int .i64 n409, .int .u64 n410, .int .i64 n411, .slice q412.1 q412.2.1 q412.2.2, .bool b413], .bool false, .int .i64 10], w405))
else
((World.cell? w22 (⟨r12.2.heap.size, 0, none⟩)).bind fun v414 =>
(asI .i64 v414).bind fun n415 =>
if ((n415 : Int) != 2) = true then
((stL w22 (⟨w0.heap.size, 0, none⟩) [.int .i64 0, .int .i64 0, .int .i64 0, .int .u64 0, .int .i64 0, .slice none 0 0, .bool false] 0).bind fun w416 =>
(ldN w416 (⟨w0.heap.size, 0, none⟩) 0 7).bind fun l417 =>
(asI .i64 (l417.getD 0 undef)).bind fun n418 =>
(asI .i64 (l417.getD 1 undef)).bind fun n419 =>
(asI .i64 (l417.getD 2 undef)).bind fun n420 =>
(asI .u64 (l417.getD 3 undef)).bind fun n421 =>
(asI .i64 (l417.getD 4 undef)).bind fun n422 =>
(asSl (l417.getD 5 undef)).bind fun q423 =>
(asB (l417.getD 6 undef)).bind fun b424 =>
some (.tuple #[.agg #[.int .i64 n418, .int .i64 n419, .int .i64 n420, .int .u64 n421, .int .i64 n422, .slice q423.1 q423.2.1 q423.2.2, .bool b424], .bool false, .int .i64 14], w416))
else
((stL w22 (⟨w0.heap.size, 0, none⟩) [.int .i64 3, .int .i64 u1, .int .i64 0, .int .u64 0, .int .i64 0, .slice none 0 0, .bool u4] 0).bind fun w425 =>
(ldN w425 (⟨w0.heap.size, 0, none⟩) 0 7).bind fun l426 =>
(asI .i64 (l426.getD 0 undef)).bind fun n427 =>
(asI .i64 (l426.getD 1 undef)).bind fun n428 =>
(asI .i64 (l426.getD 2 undef)).bind fun n429 =>
(asI .u64 (l426.getD 3 undef)).bind fun n430 =>
(asI .i64 (l426.getD 4 undef)).bind fun n431 =>
(asSl (l426.getD 5 undef)).bind fun q432 =>
(asB (l426.getD 6 undef)).bind fun b433 =>
some (.tuple #[.agg #[.int .i64 n427, .int .i64 n428, .int .i64 n429, .int .u64 n430, .int .i64 n431, .slice q432.1 q432.2.1 q432.2.2, .bool b433], .bool true, .int .i64 0], w425)))))
else
((World.cell? w22 (Addr.add (⟨r12.2.heap.size, 0, none⟩) 3)).bind fun v434 =>
(asI .i64 v434).bind fun n435 =>
if ((u3 : Int) != n435) = true then
((stL w22 (⟨w0.heap.size, 0, none⟩) [.int .i64 0, .int .i64 0, .int .i64 0, .int .u64 0, .int .i64 0, .slice none 0 0, .bool false] 0).bind fun w436 =>
(ldN w436 (⟨w0.heap.size, 0, none⟩) 0 7).bind fun l437 =>
(asI .i64 (l437.getD 0 undef)).bind fun n438 =>
(asI .i64 (l437.getD 1 undef)).bind fun n439 =>
(asI .i64 (l437.getD 2 undef)).bind fun n440 =>
(asI .u64 (l437.getD 3 undef)).bind fun n441 =>
(asI .i64 (l437.getD 4 undef)).bind fun n442 =>
(asSl (l437.getD 5 undef)).bind fun q443 =>
(asB (l437.getD 6 undef)).bind fun b444 =>
some (.tuple #[.agg #[.int .i64 n438, .int .i64 n439, .int .i64 n440, .int .u64 n441, .int .i64 n442, .slice q443.1 q443.2.1 q443.2.2, .bool b444], .bool false, .int .i64 10], w436))
else
((World.cell? w22 (⟨r12.2.heap.size, 0, none⟩)).bind fun v445 =>
(asI .i64 v445).bind fun n446 =>
if ((n446 : Int) != 2) = true then
((stL w22 (⟨w0.heap.size, 0, none⟩) [.int .i64 0, .int .i64 0, .int .i64 0, .int .u64 0, .int .i64 0, .slice none 0 0, .bool false] 0).bind fun w447 =>
(ldN w447 (⟨w0.heap.size, 0, none⟩) 0 7).bind fun l448 =>
(asI .i64 (l448.getD 0 undef)).bind fun n449 =>
(asI .i64 (l448.getD 1 undef)).bind fun n450 =>
(asI .i64 (l448.getD 2 undef)).bind fun n451 =>
(asI .u64 (l448.getD 3 undef)).bind fun n452 =>
(asI .i64 (l448.getD 4 undef)).bind fun n453 =>
(asSl (l448.getD 5 undef)).bind fun q454 =>
(asB (l448.getD 6 undef)).bind fun b455 =>
some (.tuple #[.agg #[.int .i64 n449, .int .i64 n450, .int .i64 n451, .int .u64 n452, .int .i64 n453, .slice q454.1 q454.2.1 q454.2.2, .bool b455], .bool false, .int .i64 14], w447))
else
((stL w22 (⟨w0.heap.size, 0, none⟩) [.int .i64 3, .int .i64 u1, .int .i64 0, .int .u64 0, .int .i64 0, .slice none 0 0, .bool u4] 0).bind fun w456 =>
(ldN w456 (⟨w0.heap.size, 0, none⟩) 0 7).bind fun l457 =>
(asI .i64 (l457.getD 0 undef)).bind fun n458 =>
(asI .i64 (l457.getD 1 undef)).bind fun n459 =>
(asI .i64 (l457.getD 2 undef)).bind fun n460 =>
(asI .u64 (l457.getD 3 undef)).bind fun n461 =>
(asI .i64 (l457.getD 4 undef)).bind fun n462 =>
(asSl (l457.getD 5 undef)).bind fun q463 =>
(asB (l457.getD 6 undef)).bind fun b464 =>
some (.tuple #[.agg #[.int .i64 n458, .int .i64 n459, .int .i64 n460, .int .u64 n461, .int .i64 n462, .slice q463.1 q463.2.1 q463.2.2, .bool b464], .bool true, .int .i64 0], w456))))))
else
((World.cell? w22 (Addr.add (⟨r12.2.heap.size, 0, none⟩) 5)).bind fun v465 =>
(asI .i64 v465).bind fun n466 =>
if ((u3 : Int) == n466) = true then
((World.cell? w22 (Addr.add (⟨r12.2.heap.size, 0, none⟩) 6)).bind fun v467 =>
(asI .u64 v467).bind fun n468 =>
if ((u2 : Int) == n468) = true then
((stL w22 (⟨w0.heap.size, 0, none⟩) [.int .i64 0, .int .i64 0, .int .i64 0, .int .u64 0, .int .i64 0, .slice none 0 0, .bool false] 0).bind fun w469 =>
(ldN w469 (⟨w0.heap.size, 0, none⟩) 0 7).bind fun l470 =>
(asI .i64 (l470.getD 0 undef)).bind fun n471 =>
(asI .i64 (l470.getD 1 undef)).bind fun n472 =>
(asI .i64 (l470.getD 2 undef)).bind fun n473 =>
(asI .u64 (l470.getD 3 undef)).bind fun n474 =>
(asI .i64 (l470.getD 4 undef)).bind fun n475 =>
(asSl (l470.getD 5 undef)).bind fun q476 =>
(asB (l470.getD 6 undef)).bind fun b477 =>
some (.tuple #[.agg #[.int .i64 n471, .int .i64 n472, .int .i64 n473, .int .u64 n474, .int .i64 n475, .slice q476.1 q476.2.1 q476.2.2, .bool b477], .bool false, .int .i64 0], w469))
else
((World.cell? w22 (Addr.add (⟨r12.2.heap.size, 0, none⟩) 3)).bind fun v478 =>
(asI .i64 v478).bind fun n479 =>
if ((u3 : Int) != n479) = true then
((stL w22 (⟨w0.heap.size, 0, none⟩) [.int .i64 0, .int .i64 0, .int .i64 0, .int .u64 0, .int .i64 0, .slice none 0 0, .bool false] 0).bind fun w480 =>
(ldN w480 (⟨w0.heap.size, 0, none⟩) 0 7).bind fun l481 =>
(asI .i64 (l481.getD 0 undef)).bind fun n482 =>
(asI .i64 (l481.getD 1 undef)).bind fun n483 =>
(asI .i64 (l481.getD 2 undef)).bind fun n484 =>
(asI .u64 (l481.getD 3 undef)).bind fun n485 =>
(asI .i64 (l481.getD 4 undef)).bind fun n486 =>
(asSl (l481.getD 5 undef)).bind fun q487 =>
(asB (l481.getD 6 undef)).bind fun b488 =>
some (.tuple #[.agg #[.int .i64 n482, .int .i64 n483, .int .i64 n484, .int .u64 n485, .int .i64 n486, .slice q487.1 q487.2.1 q487.2.2, .bool b488], .bool false, .int .i64 10], w480))
else
((World.cell? w22 (⟨r12.2.heap.size, 0, none⟩)).bind fun v489 =>
(asI .i64 v489).bind fun n490 =>
if ((n490 : Int) != 2) = true then
((stL w22 (⟨w0.heap.size, 0, none⟩) [.int .i64 0, .int .i64 0, .int .i64 0, .int .u64 0, .int .i64 0, .slice none 0 0, .bool false] 0).bind fun w491 =>
(ldN w491 (⟨w0.heap.size, 0, none⟩) 0 7).bind fun l492 =>
(asI .i64 (l492.getD 0 undef)).bind fun n493 =>
(asI .i64 (l492.getD 1 undef)).bind fun n494 =>
(asI .i64 (l492.getD 2 undef)).bind fun n495 =>
(asI .u64 (l492.getD 3 undef)).bind fun n496 =>
(asI .i64 (l492.getD 4 undef)).bind fun n497 =>
(asSl (l492.getD 5 undef)).bind fun q498 =>
(asB (l492.getD 6 undef)).bind fun b499 =>
some (.tuple #[.agg #[.int .i64 n493, .int .i64 n494, .int .i64 n495, .int .u64 n496, .int .i64 n497, .slice q498.1 q498.2.1 q498.2.2, .bool b499], .bool false, .int .i64 14], w491))
else
((stL w22 (⟨w0.heap.size, 0, none⟩) [.int .i64 3, .int .i64 u1, .int .i64 0, .int .u64 0, .int .i64 0, .slice none 0 0, .bool u4] 0).bind fun w500 =>
(ldN w500 (⟨w0.heap.size, 0, none⟩) 0 7).bind fun l501 =>
(asI .i64 (l501.getD 0 undef)).bind fun n502 =>
(asI .i64 (l501.getD 1 undef)).bind fun n503 =>
(asI .i64 (l501.getD 2 undef)).bind fun n504 =>
(asI .u64 (l501.getD 3 undef)).bind fun n505 =>
(asI .i64 (l501.getD 4 undef)).bind fun n506 =>
(asSl (l501.getD 5 undef)).bind fun q507 =>
(asB (l501.getD 6 undef)).bind fun b508 =>
some (.tuple #[.agg #[.int .i64 n502, .int .i64 n503, .int .i64 n504, .int .u64 n505, .int .i64 n506, .slice q507.1 q507.2.1 q507.2.2, .bool b508], .bool true, .int .i64 0], w500)))))
else
((World.cell? w22 (Addr.add (⟨r12.2.heap.size, 0, none⟩) 3)).bind fun v509 =>
(asI .i64 v509).bind fun n510 =>
if ((u3 : Int) != n510) = true then
((stL w22 (⟨w0.heap.size, 0, none⟩) [.int .i64 0, .int .i64 0, .int .i64 0, .int .u64 0, .int .i64 0, .slice none 0 0, .bool false] 0).bind fun w511 =>
(ldN w511 (⟨w0.heap.size, 0, none⟩) 0 7).bind fun l512 =>
(asI .i64 (l512.getD 0 undef)).bind fun n513 =>
(asI .i64 (l512.getD 1 undef)).bind fun n514 =>
(asI .i64 (l512.getD 2 undef)).bind fun n515 =>
(asI .u64 (l512.getD 3 undef)).bind fun n516 =>
(asI .i64 (l512.getD 4 undef)).bind fun n517 =>
(asSl (l512.getD 5 undef)).bind fun q518 =>
(asB (l512.getD 6 undef)).bind fun b519 =>
some (.tuple #[.agg #[.int .i64 n513, .int .i64 n514, .int .i64 n515, .int .u64 n516, .int .i64 n517, .slice q518.1 q518.2.1 q518.2.2, .bool b519], .bool false, .int .i64 10], w511))
else
((World.cell? w22 (⟨r12.2.heap.size, 0, none⟩)).bind fun v520 =>
(asI .i64 v520).bind fun n521 =>
if ((n521 : Int) != 2) = true then
((stL w22 (⟨w0.heap.size, 0, none⟩) [.int .i64 0, .int .i64 0, .int .i64 0, .int .u64 0, .int .i64 0, .slice none 0 0, .bool false] 0).bind fun w522 =>
(ldN w522 (⟨w0.heap.size, 0, none⟩) 0 7).bind fun l523 =>
(asI .i64 (l523.getD 0 undef)).bind fun n524 =>
(asI .i64 (l523.getD 1 undef)).bind fun n525 =>
(asI .i64 (l523.getD 2 undef)).bind fun n526 =>
(asI .u64 (l523.getD 3 undef)).bind fun n527 =>
(asI .i64 (l523.getD 4 undef)).bind fun n528 =>
(asSl (l523.getD 5 undef)).bind fun q529 =>
(asB (l523.getD 6 undef)).bind fun b530 =>
some (.tuple #[.agg #[.int .i64 n524, .int .i64 n525, .int .i64 n526, .int .u64 n527, .int .i64 n528, .slice q529.1 q529.2.1 q529.2.2, .bool b530], .bool false, .int .i64 14], w522))
else
((stL w22 (⟨w0.heap.size, 0, none⟩) [.int .i64 3, .int .i64 u1, .int .i64 0, .int .u64 0, .int .i64 0, .slice none 0 0, .bool u4] 0).bind fun w531 =>
(ldN w531 (⟨w0.heap.size, 0, none⟩) 0 7).bind fun l532 =>
(asI .i64 (l532.getD 0 undef)).bind fun n533 =>
(asI .i64 (l532.getD 1 undef)).bind fun n534 =>
(asI .i64 (l532.getD 2 undef)).bind fun n535 =>
(asI .u64 (l532.getD 3 undef)).bind fun n536 =>
(asI .i64 (l532.getD 4 undef)).bind fun n537 =>
(asSl (l532.getD 5 undef)).bind fun q538 =>
(asB (l532.getD 6 undef)).bind fun b539 =>
some (.tuple #[.agg #[.int .i64 n533, .int .i64 n534, .int .i64 n535, .int .u64 n536, .int .i64 n537, .slice q538.1 q538.2.1 q538.2.2, .bool b539], .bool true, .int .i64 0], w531)))))))
else
((World.cell? w22 (Addr.add (⟨r12.2.heap.size, 0, none⟩) 5)).bind fun v540 =>
(asI .i64 v540).bind fun n541 =>
if ((u3 : Int) == n541) = true then
((World.cell? w22 (Addr.add (⟨r12.2.heap.size, 0, none⟩) 6)).bind fun v542 =>
(asI .u64 v542).bind fun n543 =>
if ((u2 : Int) == n543) = true then
((World.cell? w22 (⟨r12.2.heap.size, 0, none⟩)).bind fun v544 =>
(asI .i64 v544).bind fun n545 =>
if ((n545 : Int) == 3) = true then
((stL w22 (⟨w0.heap.size, 0, none⟩) [.int .i64 0, .int .i64 0, .int .i64 0, .int .u64 0, .int .i64 0, .slice none 0 0, .bool false] 0).bind fun w546 =>
(ldN w546 (⟨w0.heap.size, 0, none⟩) 0 7).bind fun l547 =>
(asI .i64 (l547.getD 0 undef)).bind fun n548 =>
(asI .i64 (l547.getD 1 undef)).bind fun n549 =>
(asI .i64 (l547.getD 2 undef)).bind fun n550 =>
(asI .u64 (l547.getD 3 undef)).bind fun n551 =>
(asI .i64 (l547.getD 4 undef)).bind fun n552 =>
(asSl (l547.getD 5 undef)).bind fun q553 =>
(asB (l547.getD 6 undef)).bind fun b554 =>
some (.tuple #[.agg #[.int .i64 n548, .int .i64 n549, .int .i64 n550, .int .u64 n551, .int .i64 n552, .slice q553.1 q553.2.1 q553.2.2, .bool b554], .bool false, .int .i64 16], w546))
else
((World.cell? w22 (Addr.add (⟨r12.2.heap.size, 0, none⟩) 5)).bind fun v555 =>
(asI .i64 v555).bind fun n556 =>
if ((u3 : Int) == n556) = true then
((World.cell? w22 (Addr.add (⟨r12.2.heap.size, 0, none⟩) 6)).bind fun v557 =>
(asI .u64 v557).bind fun n558 =>
if ((u2 : Int) == n558) = true then
((stL w22 (⟨w0.heap.size, 0, none⟩) [.int .i64 0, .int .i64 0, .int .i64 0, .int .u64 0, .int .i64 0, .slice none 0 0, .bool false] 0).bind fun w559 =>
(ldN w559 (⟨w0.heap.size, 0, none⟩) 0 7).bind fun l560 =>
(asI .i64 (l560.getD 0 undef)).bind fun n561 =>
(asI .i64 (l560.getD 1 undef)).bind fun n562 =>
(asI .i64 (l560.getD 2 undef)).bind fun n563 =>
(asI .u64 (l560.getD 3 undef)).bind fun n564 =>
(asI .i64 (l560.getD 4 undef)).bind fun n565 =>
(asSl (l560.getD 5 undef)).bind fun q566 =>
(asB (l560.getD 6 undef)).bind fun b567 =>
some (.tuple #[.agg #[.int .i64 n561, .int .i64 n562, .int .i64 n563, .int .u64 n564, .int .i64 n565, .slice q566.1 q566.2.1 q566.2.2, .bool b567], .bool false, .int .i64 0], w559))
else
((World.cell? w22 (Addr.add (⟨r12.2.heap.size, 0, none⟩) 3)).bind fun v568 =>
(asI .i64 v568).bind fun n569 =>
if ((u3 : Int) != n569) = true then
((stL w22 (⟨w0.heap.size, 0, none⟩) [.int .i64 0, .int .i64 0, .int .i64 0, .int .u64 0, .int .i64 0, .slice none 0 0, .bool false] 0).bind fun w570 =>
(ldN w570 (⟨w0.heap.size, 0, none⟩) 0 7).bind fun l571 =>
(asI .i64 (l571.getD 0 undef)).bind fun n572 =>
(asI .i64 (l571.getD 1 undef)).bind fun n573 =>
(asI .i64 (l571.getD 2 undef)).bind fun n574 =>
(asI .u64 (l571.getD 3 undef)).bind fun n575 =>
(asI .i64 (l571.getD 4 undef)).bind fun n576 =>
(asSl (l571.getD 5 undef)).bind fun q577 =>
(asB (l571.getD 6 undef)).bind fun b578 =>
some (.tuple #[.agg #[.int .i64 n572, .int .i64 n573, .int .i64 n574, .int .u64 n575, .int .i64 n576, .slice q577.1 q577.2.1 q577.2.2, .bool b578], .bool false, .int .i64 10], w570))
else
((World.cell? w22 (⟨r12.2.heap.size, 0, none⟩)).bind fun v579 =>
(asI .i64 v579).bind fun n580 =>
if ((n580 : Int) != 2) = true then
((stL w22 (⟨w0.heap.size, 0, none⟩) [.int .i64 0, .int .i64 0, .int .i64 0, .int .u64 0, .int .i64 0, .slice none 0 0, .bool false] 0).bind fun w581 =>
(ldN w581 (⟨w0.heap.size, 0, none⟩) 0 7).bind fun l582 =>
(asI .i64 (l582.getD 0 undef)).bind fun n583 =>
(asI .i64 (l582.getD 1 undef)).bind fun n584 =>
(asI .i64 (l582.getD 2 undef)).bind fun n585 =>
(asI .u64 (l582.getD 3 undef)).bind fun n586 =>
(asI .i64 (l582.getD 4 undef)).bind fun n587 =>
(asSl (l582.getD 5 undef)).bind fun q588 =>
(asB (l582.getD 6 undef)).bind fun b589 =>
some (.tuple #[.agg #[.int .i64 n583, .int .i64 n584, .int .i64 n585, .int .u64 n586, .int .i64 n587, .slice q588.1 q588.2.1 q588.2.2, .bool b589], .bool false, .int .i64 14], w581))
else
((stL w22 (⟨w0.heap.size, 0, none⟩) [.int .i64 3, .int .i64 u1, .int .i64 0, .int .u64 0, .int .i64 0, .slice none 0 0, .bool u4] 0).bind fun w590 =>
(ldN w590 (⟨w0.heap.size, 0, none⟩) 0 7).bind fun l591 =>
(asI .i64 (l591.getD 0 undef)).bind fun n592 =>
(asI .i64 (l591.getD 1 undef)).bind fun n593 =>
(asI .i64 (l591.getD 2 undef)).bind fun n594 =>
(asI .u64 (l591.getD 3 undef)).bind fun n595 =>
(asI .i64 (l591.getD 4 undef)).bind fun n596 =>
(asSl (l591.getD 5 undef)).bind fun q597 =>
(asB (l591.getD 6 undef)).bind fun b598 =>
some (.tuple #[.agg #[.int .i64 n592, .int .i64 n593, .int .i64 n594, .int .u64 n595, .int .i64 n596, .slice q597.1 q597.2.1 q597.2.2, .bool b598], .bool true, .int .i64 0], w590)))))
else
((World.cell? w22 (Addr.add (⟨r12.2.heap.size, 0, none⟩) 3)).bind fun v599 =>
(asI .i64 v599).bind fun n600 =>
if ((u3 : Int) != n600) = true then
((stL w22 (⟨w0.heap.size, 0, none⟩) [.int .i64 0, .int .i64 0, .int .i64 0, .int .u64 0, .int .i64 0, .slice none 0 0, .bool false] 0).bind fun w601 =>
(ldN w601 (⟨w0.heap.size, 0, none⟩) 0 7).bind fun l602 =>
(asI .i64 (l602.getD 0 undef)).bind fun n603 =>
(asI .i64 (l602.getD 1 undef)).bind fun n604 =>
(asI .i64 (l602.getD 2 undef)).bind fun n605 =>
(asI .u64 (l602.getD 3 undef)).bind fun n606 =>
(asI .i64 (l602.getD 4 undef)).bind fun n607 =>
(asSl (l602.getD 5 undef)).bind fun q608 =>
(asB (l602.getD 6 undef)).bind fun b609 =>
some (.tuple #[.agg #[.int .i64 n603, .int .i64 n604, .int .i64 n605, .int .u64 n606, .int .i64 n607, .slice q608.1 q608.2.1 q608.2.2, .bool b609], .bool false, .int .i64 10], w601))
else
((World.cell? w22 (⟨r12.2.heap.size, 0, none⟩)).bind fun v610 =>
(asI .i64 v610).bind fun n611 =>
if ((n611 : Int) != 2) = true then
((stL w22 (⟨w0.heap.size, 0, none⟩) [.int .i64 0, .int .i64 0, .int .i64 0, .int .u64 0, .int .i64 0, .slice none 0 0, .bool false] 0).bind fun w612 =>
(ldN w612 (⟨w0.heap.size, 0, none⟩) 0 7).bind fun l613 =>
(asI .i64 (l613.getD 0 undef)).bind fun n614 =>
(asI .i64 (l613.getD 1 undef)).bind fun n615 =>
(asI .i64 (l613.getD 2 undef)).bind fun n616 =>
(asI .u64 (l613.getD 3 undef)).bind fun n617 =>
(asI .i64 (l613.getD 4 undef)).bind fun n618 =>
(asSl (l613.getD 5 undef)).bind fun q619 =>
(asB (l613.getD 6 undef)).bind fun b620 =>
some (.tuple #[.agg #[.int .i64 n614, .int .i64 n615, .int .i64 n616, .int .u64 n617, .int .i64 n618, .slice q619.1 q619.2.1 q619.2.2, .bool b620], .bool false, .int .i64 14], w612))
else
((stL w22 (⟨w0.heap.size, 0, none⟩) [.int .i64 3, .int .i64 u1, .int .i64 0, .int .u64 0, .int .i64 0, .slice none 0 0, .bool u4] 0).bind fun w621 =>
(ldN w621 (⟨w0.heap.size, 0, none⟩) 0 7).bind fun l622 =>
(asI .i64 (l622.getD 0 undef)).bind fun n623 =>
(asI .i64 (l622.getD 1 undef)).bind fun n624 =>
(asI .i64 (l622.getD 2 undef)).bind fun n625 =>
(asI .u64 (l622.getD 3 undef)).bind fun n626 =>
(asI .i64 (l622.getD 4 undef)).bind fun n627 =>
(asSl (l622.getD 5 undef)).bind fun q628 =>
(asB (l622.getD 6 undef)).bind fun b629 =>
some (.tuple #[.agg #[.int .i64 n623, .int .i64 n624, .int .i64 n625, .int .u64 n626, .int .i64 n627, .slice q628.1 q628.2.1 q628.2.2, .bool b629], .bool true, .int .i64 0], w621))))))
else
((World.cell? w22 (Addr.add (⟨r12.2.heap.size, 0, none⟩) 5)).bind fun v630 =>
(asI .i64 v630).bind fun n631 =>
if ((u3 : Int) == n631) = true then
((World.cell? w22 (Addr.add (⟨r12.2.heap.size, 0, none⟩) 6)).bind fun v632 =>
(asI .u64 v632).bind fun n633 =>
if ((u2 : Int) == n633) = true then
((stL w22 (⟨w0.heap.size, 0, none⟩) [.int .i64 0, .int .i64 0, .int .i64 0, .int .u64 0, .int .i64 0, .slice none 0 0, .bool false] 0).bind fun w634 =>
(ldN w634 (⟨w0.heap.size, 0, none⟩) 0 7).bind fun l635 =>
(asI .i64 (l635.getD 0 undef)).bind fun n636 =>
(asI .i64 (l635.getD 1 undef)).bind fun n637 =>
(asI .i64 (l635.getD 2 undef)).bind fun n638 =>
(asI .u64 (l635.getD 3 undef)).bind fun n639 =>
(asI .i64 (l635.getD 4 undef)).bind fun n640 =>
(asSl (l635.getD 5 undef)).bind fun q641 =>
(asB (l635.getD 6 undef)).bind fun b642 =>
some (.tuple #[.agg #[.int .i64 n636, .int .i64 n637, .int .i64 n638, .int .u64 n639, .int .i64 n640, .slice q641.1 q641.2.1 q641.2.2, .bool b642], .bool false, .int .i64 0], w634))
else
((World.cell? w22 (Addr.add (⟨r12.2.heap.size, 0, none⟩) 3)).bind fun v643 =>
(asI .i64 v643).bind fun n644 =>
if ((u3 : Int) != n644) = true then
((stL w22 (⟨w0.heap.size, 0, none⟩) [.int .i64 0, .int .i64 0, .int .i64 0, .int .u64 0, .int .i64 0, .slice none 0 0, .bool false] 0).bind fun w645 =>
(ldN w645 (⟨w0.heap.size, 0, none⟩) 0 7).bind fun l646 =>
(asI .i64 (l646.getD 0 undef)).bind fun n647 =>
(asI .i64 (l646.getD 1 undef)).bind fun n648 =>
(asI .i64 (l646.getD 2 undef)).bind fun n649 =>
(asI .u64 (l646.getD 3 undef)).bind fun n650 =>
(asI .i64 (l646.getD 4 undef)).bind fun n651 =>
(asSl (l646.getD 5 undef)).bind fun q652 =>
(asB (l646.getD 6 undef)).bind fun b653 =>
some (.tuple #[.agg #[.int .i64 n647, .int .i64 n648, .int .i64 n649, .int .u64 n650, .int .i64 n651, .slice q652.1 q652.2.1 q652.2.2, .bool b653], .bool false, .int .i64 10], w645))
else
((World.cell? w22 (⟨r12.2.heap.size, 0, none⟩)).bind fun v654 =>
(asI .i64 v654).bind fun n655 =>
if ((n655 : Int) != 2) = true then
((stL w22 (⟨w0.heap.size, 0, none⟩) [.int .i64 0, .int .i64 0, .int .i64 0, .int .u64 0, .int .i64 0, .slice none 0 0, .bool false] 0).bind fun w656 =>
(ldN w656 (⟨w0.heap.size, 0, none⟩) 0 7).bind fun l657 =>
(asI .i64 (l657.getD 0 undef)).bind fun n658 =>
(asI .i64 (l657.getD 1 undef)).bind fun n659 =>
(asI .i64 (l657.getD 2 undef)).bind fun n660 =>
(asI .u64 (l657.getD 3 undef)).bind fun n661 =>
(asI .i64 (l657.getD 4 undef)).bind fun n662 =>
(asSl (l657.getD 5 undef)).bind fun q663 =>
(asB (l657.getD 6 undef)).bind fun b664 =>
some (.tuple #[.agg #[.int .i64 n658, .int .i64 n659, .int .i64 n660, .int .u64 n661, .int .i64 n662, .slice q663.1 q663.2.1 q663.2.2, .bool b664], .bool false, .int .i64 14], w656))
else
((stL w22 (⟨w0.heap.size, 0, none⟩) [.int .i64 3, .int .i64 u1, .int .i64 0, .int .u64 0, .int .i64 0, .slice none 0 0, .bool u4] 0).bind fun w665 =>
(ldN w665 (⟨w0.heap.size, 0, none⟩) 0 7).bind fun l666 =>
(asI .i64 (l666.getD 0 undef)).bind fun n667 =>
(asI .i64 (l666.getD 1 undef)).bind fun n668 =>
(asI .i64 (l666.getD 2 undef)).bind fun n669 =>
(asI .u64 (l666.getD 3 undef)).bind fun n670 =>
(asI .i64 (l666.getD 4 undef)).bind fun n671 =>
(asSl (l666.getD 5 undef)).bind fun q672 =>
(asB (l666.getD 6 undef)).bind fun b673 =>
some (.tuple #[.agg #[.int .i64 n667, .int .i64 n668, .int .i64 n669, .int .u64 n670, .int .i64 n671, .slice q672.1 q672.2.1 q672.2.2, .bool b673], .bool true, .int .i64 0], w665)))))
else
((World.cell? w22 (Addr.add (⟨r12.2.heap.size, 0, none⟩) 3)).bind fun v674 =>
(asI .i64 v674).bind fun n675 =>
if ((u3 : Int) != n675) = true then
((stL w22 (⟨w0.heap.size, 0, none⟩) [.int .i64 0, .int .i64 0, .int .i64 0, .int .u64 0, .int .i64 0, .slice none 0 0, .bool false] 0).bind fun w676 =>
(ldN w676 (⟨w0.heap.size, 0, none⟩) 0 7).bind fun l677 =>
(asI .i64 (l677.getD 0 undef)).bind fun n678 =>
(asI .i64 (l677.getD 1 undef)).bind fun n679 =>
(asI .i64 (l677.getD 2 undef)).bind fun n680 =>
(asI .u64 (l677.getD 3 undef)).bind fun n681 =>
(asI .i64 (l677.getD 4 undef)).bind fun n682 =>
(asSl (l677.getD 5 undef)).bind fun q683 =>
(asB (l677.getD 6 undef)).bind fun b684 =>
some (.tuple #[.agg #[.int .i64 n678, .int .i64 n679, .int .i64 n680, .int .u64 n681, .int .i64 n682, .slice q683.1 q683.2.1 q683.2.2, .bool b684], .bool false, .int .i64 10], w676))
else
((World.cell? w22 (⟨r12.2.heap.size, 0, none⟩)).bind fun v685 =>
(asI .i64 v685).bind fun n686 =>
if ((n686 : Int) != 2) = true then
((stL w22 (⟨w0.heap.size, 0, none⟩) [.int .i64 0, .int .i64 0, .int .i64 0, .int .u64 0, .int .i64 0, .slice none 0 0, .bool false] 0).bind fun w687 =>
(ldN w687 (⟨w0.heap.size, 0, none⟩) 0 7).bind fun l688 =>
(asI .i64 (l688.getD 0 undef)).bind fun n689 =>
(asI .i64 (l688.getD 1 undef)).bind fun n690 =>
(asI .i64 (l688.getD 2 undef)).bind fun n691 =>
(asI .u64 (l688.getD 3 undef)).bind fun n692 =>
(asI .i64 (l688.getD 4 undef)).bind fun n693 =>
(asSl (l688.getD 5 undef)).bind fun q694 =>
(asB (l688.getD 6 undef)).bind fun b695 =>
some (.tuple #[.agg #[.int .i64 n689, .int .i64 n690, .int .i64 n691, .int .u64 n692, .int .i64 n693, .slice q694.1 q694.2.1 q694.2.2, .bool b695], .bool false, .int .i64 14], w687))
else
((stL w22 (⟨w0.heap.size, 0, none⟩) [.int .i64 3, .int .i64 u1, .int .i64 0, .int .u64 0, .int .i64 0, .slice none 0 0, .bool u4] 0).bind fun w696 =>
(ldN w696 (⟨w0.heap.size, 0, none⟩) 0 7).bind fun l697 =>
(asI .i64 (l697.getD 0 undef)).bind fun n698 =>
(asI .i64 (l697.getD 1 undef)).bind fun n699 =>
(asI .i64 (l697.getD 2 undef)).bind fun n700 =>
(asI .u64 (l697.getD 3 undef)).bind fun n701 =>
(asI .i64 (l697.getD 4 undef)).bind fun n702 =>
(asSl (l697.getD 5 undef)).bind fun q703 =>
(asB (l697.getD 6 undef)).bind fun b704 =>
some (.tuple #[.agg #[.int .i64 n698, .int .i64 n699, .int .i64 n700, .int .u64 n701, .int .i64 n702, .slice q703.1 q703.2.1 q703.2.2, .bool b704], .bool true, .int .i64 0], w696))))))
else
((World.cell? w22 (Addr.add (⟨r12.2.heap.size, 0, none⟩) 5)).bind fun v705 =>
(asI .i64 v705).bind fun n706 =>
if ((u3 : Int) == n706) = true then
((World.cell? w22 (Addr.add (⟨r12.2.heap.size, 0, none⟩) 6)).bind fun v707 =>
(asI .u64 v707).bind fun n708 =>
if ((u2 : Int) == n708) = true then
((stL w22 (⟨w0.heap.size, 0, none⟩) [.int .i64 0, .int .i64 0, .int .i64 0, .int .u64 0, .int .i64 0, .slice none 0 0, .bool false] 0).bind fun w709 =>
(ldN w709 (⟨w0.heap.size, 0, none⟩) 0 7).bind fun l710 =>
(asI .i64 (l710.getD 0 undef)).bind fun n711 =>
(asI .i64 (l710.getD 1 undef)).bind fun n712 =>
(asI .i64 (l710.getD 2 undef)).bind fun n713 =>
(asI .u64 (l710.getD 3 undef)).bind fun n714 =>
(asI .i64 (l710.getD 4 undef)).bind fun n715 =>
(asSl (l710.getD 5 undef)).bind fun q716 =>
(asB (l710.getD 6 undef)).bind fun b717 =>
some (.tuple #[.agg #[.int .i64 n711, .int .i64 n712, .int .i64 n713, .int .u64 n714, .int .i64 n715, .slice q716.1 q716.2.1 q716.2.2, .bool b717], .bool false, .int .i64 0], w709))
else
((World.cell? w22 (Addr.add (⟨r12.2.heap.size, 0, none⟩) 3)).bind fun v718 =>
(asI .i64 v718).bind fun n719 =>
if ((u3 : Int) != n719) = true then
((stL w22 (⟨w0.heap.size, 0, none⟩) [.int .i64 0, .int .i64 0, .int .i64 0, .int .u64 0, .int .i64 0, .slice none 0 0, .bool false] 0).bind fun w720 =>
(ldN w720 (⟨w0.heap.size, 0, none⟩) 0 7).bind fun l721 =>
(asI .i64 (l721.getD 0 undef)).bind fun n722 =>
(asI .i64 (l721.getD 1 undef)).bind fun n723 =>
(asI .i64 (l721.getD 2 undef)).bind fun n724 =>
(asI .u64 (l721.getD 3 undef)).bind fun n725 =>
(asI .i64 (l721.getD 4 undef)).bind fun n726 =>
(asSl (l721.getD 5 undef)).bind fun q727 =>
(asB (l721.getD 6 undef)).bind fun b728 =>
some (.tuple #[.agg #[.int .i64 n722, .int .i64 n723, .int .i64 n724, .int .u64 n725, .int .i64 n726, .slice q727.1 q727.2.1 q727.2.2, .bool b728], .bool false, .int .i64 10], w720))
else
((World.cell? w22 (⟨r12.2.heap.size, 0, none⟩)).bind fun v729 =>
(asI .i64 v729).bind fun n730 =>
if ((n730 : Int) != 2) = true then
((stL w22 (⟨w0.heap.size, 0, none⟩) [.int .i64 0, .int .i64 0, .int .i64 0, .int .u64 0, .int .i64 0, .slice none 0 0, .bool false] 0).bind fun w731 =>
(ldN w731 (⟨w0.heap.size, 0, none⟩) 0 7).bind fun l732 =>
(asI .i64 (l732.getD 0 undef)).bind fun n733 =>
(asI .i64 (l732.getD 1 undef)).bind fun n734 =>
(asI .i64 (l732.getD 2 undef)).bind fun n735 =>
(asI .u64 (l732.getD 3 undef)).bind fun n736 =>
(asI .i64 (l732.getD 4 undef)).bind fun n737 =>
(asSl (l732.getD 5 undef)).bind fun q738 =>
(asB (l732.getD 6 undef)).bind fun b739 =>
some (.tuple #[.agg #[.int .i64 n733, .int .i64 n734, .int .i64 n735, .int .u64 n736, .int .i64 n737, .slice q738.1 q738.2.1 q738.2.2, .bool b739], .bool false, .int .i64 14], w731))
else
((stL w22 (⟨w0.heap.size, 0, none⟩) [.int .i64 3, .int .i64 u1, .int .i64 0, .int .u64 0, .int .i64 0, .slice none 0 0, .bool u4] 0).bind fun w740 =>
(ldN w740 (⟨w0.heap.size, 0, none⟩) 0 7).bind fun l741 =>
(asI .i64 (l741.getD 0 undef)).bind fun n742 =>
(asI .i64 (l741.getD 1 undef)).bind fun n743 =>
(asI .i64 (l741.getD 2 undef)).bind fun n744 =>
(asI .u64 (l741.getD 3 undef)).bind fun n745 =>
(asI .i64 (l741.getD 4 undef)).bind fun n746 =>
(asSl (l741.getD 5 undef)).bind fun q747 =>
(asB (l741.getD 6 undef)).bind fun b748 =>
some (.tuple #[.agg #[.int .i64 n742, .int .i64 n743, .int .i64 n744, .int .u64 n745, .int .i64 n746, .slice q747.1 q747.2.1 q747.2.2, .bool b748], .bool true, .int .i64 0], w740)))))
else
((World.cell? w22 (Addr.add (⟨r12.2.heap.size, 0, none⟩) 3)).bind fun v749 =>
(asI .i64 v749).bind fun n750 =>
if ((u3 : Int) != n750) = true then
((stL w22 (⟨w0.heap.size, 0, none⟩) [.int .i64 0, .int .i64 0, .int .i64 0, .int .u64 0, .int .i64 0, .slice none 0 0, .bool false] 0).bind fun w751 =>
(ldN w751 (⟨w0.heap.size, 0, none⟩) 0 7).bind fun l752 =>
(asI .i64 (l752.getD 0 undef)).bind fun n753 =>
(asI .i64 (l752.getD 1 undef)).bind fun n754 =>
(asI .i64 (l752.getD 2 undef)).bind fun n755 =>
(asI .u64 (l752.getD 3 undef)).bind fun n756 =>
(asI .i64 (l752.getD 4 undef)).bind fun n757 =>
(asSl (l752.getD 5 undef)).bind fun q758 =>
(asB (l752.getD 6 undef)).bind fun b759 =>
some (.tuple #[.agg #[.int .i64 n753, .int .i64 n754, .int .i64 n755, .int .u64 n756, .int .i64 n757, .slice q758.1 q758.2.1 q758.2.2, .bool b759], .bool false, .int .i64 10], w751))
else
((World.cell? w22 (⟨r12.2.heap.size, 0, none⟩)).bind fun v760 =>
(asI .i64 v760).bind fun n761 =>
if ((n761 : Int) != 2) = true then
((stL w22 (⟨w0.heap.size, 0, none⟩) [.int .i64 0, .int .i64 0, .int .i64 0, .int .u64 0, .int .i64 0, .slice none 0 0, .bool false] 0).bind fun w762 =>
(ldN w762 (⟨w0.heap.size, 0, none⟩) 0 7).bind fun l763 =>
(asI .i64 (l763.getD 0 undef)).bind fun n764 =>
(asI .i64 (l763.getD 1 undef)).bind fun n765 =>
(asI .i64 (l763.getD 2 undef)).bind fun n766 =>
(asI .u64 (l763.getD 3 undef)).bind fun n767 =>
(asI .i64 (l763.getD 4 undef)).bind fun n768 =>
(asSl (l763.getD 5 undef)).bind fun q769 =>
(asB (l763.getD 6 undef)).bind fun b770 =>
some (.tuple #[.agg #[.int .i64 n764, .int .i64 n765, .int .i64 n766, .int .u64 n767, .int .i64 n768, .slice q769.1 q769.2.1 q769.2.2, .bool b770], .bool false, .int .i64 14], w762))
else
((stL w22 (⟨w0.heap.size, 0, none⟩) [.int .i64 3, .int .i64 u1, .int .i64 0, .int .u64 0, .int .i64 0, .slice none 0 0, .bool u4] 0).bind fun w771 =>
(ldN w771 (⟨w0.heap.size, 0, none⟩) 0 7).bind fun l772 =>
(asI .i64 (l772.getD 0 undef)).bind fun n773 =>
(asI .i64 (l772.getD 1 undef)).bind fun n774 =>
(asI .i64 (l772.getD 2 undef)).bind fun n775 =>
(asI .u64 (l772.getD 3 undef)).bind fun n776 =>
(asI .i64 (l772.getD 4 undef)).bind fun n777 =>
(asSl (l772.getD 5 undef)).bind fun q778 =>
(asB (l772.getD 6 undef)).bind fun b779 =>
some (.tuple #[.agg #[.int .i64 n773, .int .i64 n774, .int .i64 n775, .int .u64 n776, .int .i64 n777, .slice q778.1 q778.2.1 q778.2.2, .bool b779], .bool true, .int .i64 0], w771)))))))))

theorem g18_eq (u0 : Option Addr) (u1 : Int) (u2 : Int) (u3 : Int) (u4 : Bool) (w0 : World) : evFn Try.prog 18 g18_ann #[.pointer u0, .int .i64 u1, .int .u64 u2, .int .i64 u3, .bool u4] w0 = g18 u0 u1 u2 u3 u4 w0 := by kernel_rfl

theorem g18_call {u0 : Option Addr} {u1 : Int} {u2 : Int} {u3 : Int} {u4 : Bool} {w0 : World} {r : Value × World} (h : g18 u0 u1 u2 u3 u4 w0 = some r) : callF Try.prog 18 #[.pointer u0, .int .i64 u1, .int .u64 u2, .int .i64 u3, .bool u4] w0 = some r :=
  callF_of_evFn (ann := g18_ann) Try.call18 (by kernel_rfl) ((g18_eq u0 u1 u2 u3 u4 w0).trans h)

/-! 21: (*penstock/txn.State).Tx (s: *txn.State, n: int) -/
def g21_ann : List (List Nat × List Nat) := []

noncomputable def g21 (u0 : Option Addr) (u1 : Int) (w0 : World) : Option (Value × World) :=
if (u0.isNone) = true then
((stL (World.alloc w0 (.cells #[.int .i64 0, .int .i64 0, .int .u64 0, .int .i64 0, .slice none 0 0, .int .i64 0, .int .u64 0, .bool false] 46)) (⟨w0.heap.size, 0, none⟩) [.int .i64 0, .int .i64 0, .int .u64 0, .int .i64 0, .slice none 0 0, .int .i64 (-1), .int .u64 0, .bool false] 0).bind fun w1 =>
(ldN w1 (⟨w0.heap.size, 0, none⟩) 0 8).bind fun l2 =>
(asI .i64 (l2.getD 0 undef)).bind fun n3 =>
(asI .i64 (l2.getD 1 undef)).bind fun n4 =>
(asI .u64 (l2.getD 2 undef)).bind fun n5 =>
(asI .i64 (l2.getD 3 undef)).bind fun n6 =>
(asSl (l2.getD 4 undef)).bind fun q7 =>
(asI .i64 (l2.getD 5 undef)).bind fun n8 =>
(asI .u64 (l2.getD 6 undef)).bind fun n9 =>
(asB (l2.getD 7 undef)).bind fun b10 =>
some (.agg #[.int .i64 n3, .int .i64 n4, .int .u64 n5, .int .i64 n6, .slice q7.1 q7.2.1 q7.2.2, .int .i64 n8, .int .u64 n9, .bool b10], w1))
else
(u0.bind fun a11 =>
(World.cell? (World.alloc w0 (.cells #[.int .i64 0, .int .i64 0, .int .u64 0, .int .i64 0, .slice none 0 0, .int .i64 0, .int .u64 0, .bool false] 46)) a11).bind fun v12 =>
(asM v12).bind fun m13 =>
(mLook (.int .i64) (World.alloc w0 (.cells #[.int .i64 0, .int .i64 0, .int .u64 0, .int .i64 0, .slice none 0 0, .int .i64 0, .int .u64 0, .bool false] 46)) m13 (.int .i64 u1)).bind fun o14 =>
(asP (o14.getD (.pointer none))).bind fun p15 =>
if (p15.isNone) = true then
((stL (World.alloc w0 (.cells #[.int .i64 0, .int .i64 0, .int .u64 0, .int .i64 0, .slice none 0 0, .int .i64 0, .int .u64 0, .bool false] 46)) (⟨w0.heap.size, 0, none⟩) [.int .i64 0, .int .i64 0, .int .u64 0, .int .i64 0, .slice none 0 0, .int .i64 (-1), .int .u64 0, .bool false] 0).bind fun w16 =>
(ldN w16 (⟨w0.heap.size, 0, none⟩) 0 8).bind fun l17 =>
(asI .i64 (l17.getD 0 undef)).bind fun n18 =>
(asI .i64 (l17.getD 1 undef)).bind fun n19 =>
(asI .u64 (l17.getD 2 undef)).bind fun n20 =>
(asI .i64 (l17.getD 3 undef)).bind fun n21 =>
(asSl (l17.getD 4 undef)).bind fun q22 =>
(asI .i64 (l17.getD 5 undef)).bind fun n23 =>
(asI .u64 (l17.getD 6 undef)).bind fun n24 =>
(asB (l17.getD 7 undef)).bind fun b25 =>
some (.agg #[.int .i64 n18, .int .i64 n19, .int .u64 n20, .int .i64 n21, .slice q22.1 q22.2.1 q22.2.2, .int .i64 n23, .int .u64 n24, .bool b25], w16))
else
(u0.bind fun a26 =>
(World.cell? (World.alloc w0 (.cells #[.int .i64 0, .int .i64 0, .int .u64 0, .int .i64 0, .slice none 0 0, .int .i64 0, .int .u64 0, .bool false] 46)) a26).bind fun v27 =>
(asM v27).bind fun m28 =>
(mLook (.int .i64) (World.alloc w0 (.cells #[.int .i64 0, .int .i64 0, .int .u64 0, .int .i64 0, .slice none 0 0, .int .i64 0, .int .u64 0, .bool false] 46)) m28 (.int .i64 u1)).bind fun o29 =>
(asP (o29.getD (.pointer none))).bind fun p30 =>
p30.bind fun a31 =>
(ldN (World.alloc w0 (.cells #[.int .i64 0, .int .i64 0, .int .u64 0, .int .i64 0, .slice none 0 0, .int .i64 0, .int .u64 0, .bool false] 46)) a31 0 8).bind fun l32 =>
(asI .i64 (l32.getD 0 undef)).bind fun n33 =>
(asI .i64 (l32.getD 1 undef)).bind fun n34 =>
(asI .u64 (l32.getD 2 undef)).bind fun n35 =>
(asI .i64 (l32.getD 3 undef)).bind fun n36 =>
(asSl (l32.getD 4 undef)).bind fun q37 =>
(asI .i64 (l32.getD 5 undef)).bind fun n38 =>
(asI .u64 (l32.getD 6 undef)).bind fun n39 =>
(asB (l32.getD 7 undef)).bind fun b40 =>
(stL (World.alloc (World.alloc w0 (.cells #[.int .i64 0, .int .i64 0, .int .u64 0, .int .i64 0, .slice none 0 0, .int .i64 0, .int .u64 0, .bool false] 46)) (.cells #[.int .i64 0, .int .i64 0, .int .u64 0, .int .i64 0, .slice none 0 0, .int .i64 0, .int .u64 0, .bool false] 46)) (⟨(World.alloc w0 (.cells #[.int .i64 0, .int .i64 0, .int .u64 0, .int .i64 0, .slice none 0 0, .int .i64 0, .int .u64 0, .bool false] 46)).heap.size, 0, none⟩) [.int .i64 n33, .int .i64 n34, .int .u64 n35, .int .i64 n36, .slice q37.1 q37.2.1 q37.2.2, .int .i64 n38, .int .u64 n39, .bool b40] 0).bind fun w41 =>
(World.cell? w41 (Addr.add (⟨(World.alloc w0 (.cells #[.int .i64 0, .int .i64 0, .int .u64 0, .int .i64 0, .slice none 0 0, .int .i64 0, .int .u64 0, .bool false] 46)).heap.size, 0, none⟩) 4)).bind fun v42 =>
(asSl v42).bind fun q43 =>
(callF Try.prog 36 #[.slice q43.1 q43.2.1 q43.2.2] w41).bind fun r44 =>
(asSl r44.1).bind fun q45 =>
(st1 r44.2 (Addr.add (⟨(World.alloc w0 (.cells #[.int .i64 0, .int .i64 0, .int .u64 0, .int .i64 0, .slice none 0 0, .int .i64 0, .int .u64 0, .bool false] 46)).heap.size, 0, none⟩) 4) (.slice q45.1 q45.2.1 q45.2.2)).bind fun w46 =>
(ldN w46 (⟨(World.alloc w0 (.cells #[.int .i64 0, .int .i64 0, .int .u64 0, .int .i64 0, .slice none 0 0, .int .i64 0, .int .u64 0, .bool false] 46)).heap.size, 0, none⟩) 0 8).bind fun l47 =>
(asI .i64 (l47.getD 0 undef)).bind fun n48 =>
(asI .i64 (l47.getD 1 undef)).bind fun n49 =>
(asI .u64 (l47.getD 2 undef)).bind fun n50 =>
(asI .i64 (l47.getD 3 undef)).bind fun n51 =>
(asSl (l47.getD 4 undef)).bind fun q52 =>
(asI .i64 (l47.getD 5 undef)).bind fun n53 =>
(asI .u64 (l47.getD 6 undef)).bind fun n54 =>
(asB (l47.getD 7 undef)).bind fun b55 =>
(stL w46 (⟨w0.heap.size, 0, none⟩) [.int .i64 n48, .int .i64 n49, .int .u64 n50, .int .i64 n51, .slice q52.1 q52.2.1 q52.2.2, .int .i64 n53, .int .u64 n54, .bool b55] 0).bind fun w56 =>
(ldN w56 (⟨w0.heap.size, 0, none⟩) 0 8).bind fun l57 =>
(asI .i64 (l57.getD 0 undef)).bind fun n58 =>
(asI .i64 (l57.getD 1 undef)).bind fun n59 =>
(asI .u64 (l57.getD 2 undef)).bind fun n60 =>
(asI .i64 (l57.getD 3 undef)).bind fun n61 =>
(asSl (l57.getD 4 undef)).bind fun q62 =>
(asI .i64 (l57.getD 5 undef)).bind fun n63 =>
(asI .u64 (l57.getD 6 undef)).bind fun n64 =>
(asB (l57.getD 7 undef)).bind fun b65 =>
some (.agg #[.int .i64 n58, .int .i64 n59, .int .u64 n60, .int .i64 n61, .slice q62.1 q62.2.1 q62.2.2, .int .i64 n63, .int .u64 n64, .bool b65], w56)))

theorem g21_eq (u0 : Option Addr) (u1 : Int) (w0 : World) : evFn Try.prog 21 g21_ann #[.pointer u0, .int .i64 u1] w0 = g21 u0 u1 w0 := by kernel_rfl

theorem g21_call {u0 : Option Addr} {u1 : Int} {w0 : World} {r : Value × World} (h : g21 u0 u1 w0 = some r) : callF Try.prog 21 #[.pointer u0, .int .i64 u1] w0 = some r :=
  callF_of_evFn (ann := g21_ann) Try.call21 (by kernel_rfl) ((g21_eq u0 u1 w0).trans h)

/-! 25: (*penstock/txn.State).Names (s: *txn.State) -/
def g25_ann : List (List Nat × List Nat) := []

noncomputable def g25 (u0 : Option Addr) (w0 : World) : Option (Value × World) :=
if (u0.isNone) = true then
(some (.slice none 0 0, w0))
else
(u0.bind fun a1 =>
(World.cell? w0 a1).bind fun v2 =>
(asM v2).bind fun m3 =>
(callF Try.prog 39 #[.map m3] w0).bind fun r4 =>
(callF Try.prog 38 #[r4.1] r4.2).bind fun r5 =>
(asSl r5.1).bind fun q6 =>
some (.slice q6.1 q6.2.1 q6.2.2, r5.2))

theorem g25_eq (u0 : Option Addr) (w0 : World) : evFn Try.prog 25 g25_ann #[.pointer u0] w0 = g25 u0 w0 := by kernel_rfl

theorem g25_call {u0 : Option Addr} {w0 : World} {r : Value × World} (h : g25 u0 w0 = some r) : callF Try.prog 25 #[.pointer u0] w0 = some r :=
  callF_of_evFn (ann := g25_ann) Try.call25 (by kernel_rfl) ((g25_eq u0 w0).trans h)

/-! 32: slices.Contains[[]int,int] (s: []int, v: int) -/
def g32_ann : List (List Nat × List Nat) := []

noncomputable def g32 (u0 : Option Addr × Nat × Nat) (u1 : Int) (w0 : World) : Option (Value × World) :=
(callF Try.prog 62 #[.slice u0.1 u0.2.1 u0.2.2, .int .i64 u1] w0).bind fun r1 =>
(asI .i64 r1.1).bind fun n2 =>
some (.bool (decide ((n2 : Int) ≥ 0)), r1.2)

theorem g32_eq (u0 : Option Addr × Nat × Nat) (u1 : Int) (w0 : World) : evFn Try.prog 32 g32_ann #[.slice u0.1 u0.2.1 u0.2.2, .int .i64 u1] w0 = g32 u0 u1 w0 := by kernel_rfl

theorem g32_call {u0 : Option Addr × Nat × Nat} {u1 : Int} {w0 : World} {r : Value × World} (h : g32 u0 u1 w0 = some r) : callF Try.prog 32 #[.slice u0.1 u0.2.1 u0.2.2, .int .i64 u1] w0 = some r :=
  callF_of_evFn (ann := g32_ann) Try.call32 (by kernel_rfl) ((g32_eq u0 u1 w0).trans h)

/-! 34: (*penstock/txn.State).bad (s: *txn.State, n: int) -/
def g34_ann : List (List Nat × List Nat) := []

noncomputable def g34 (u0 : Option Addr) (u1 : Int) (w0 : World) : Option (Value × World) :=
if (u0.isNone) = true then
(some (.int .i64 5, w0))
else
(if (decide ((u1 : Int) < 0)) = true then
(some (.int .i64 1, w0))
else
(if (decide ((u1 : Int) ≥ 8)) = true then
(some (.int .i64 1, w0))
else
(some (.int .i64 0, w0))))

theorem g34_eq (u0 : Option Addr) (u1 : Int) (w0 : World) : evFn Try.prog 34 g34_ann #[.pointer u0, .int .i64 u1] w0 = g34 u0 u1 w0 := by kernel_rfl

theorem g34_call {u0 : Option Addr} {u1 : Int} {w0 : World} {r : Value × World} (h : g34 u0 u1 w0 = some r) : callF Try.prog 34 #[.pointer u0, .int .i64 u1] w0 = some r :=
  callF_of_evFn (ann := g34_ann) Try.call34 (by kernel_rfl) ((g34_eq u0 u1 w0).trans h)

/-! 36: slices.Clone[[]int,int] (s: []int) -/
def g36_ann : List (List Nat × List Nat) := []

noncomputable def g36 (u0 : Option Addr × Nat × Nat) (w0 : World) : Option (Value × World) :=
if (u0.1.isNone) = true then
(some (.slice none 0 0, w0))
else
((callB Try.prog .append #[28, 28] 28 #[false, false] #[.slice (some (⟨w0.heap.size, 0, none⟩)) 0 0, .slice u0.1 u0.2.1 u0.2.2] (World.alloc w0 (.cells #[] 3))).bind fun r1 =>
(asSl r1.1).bind fun q2 =>
some (.slice q2.1 q2.2.1 q2.2.2, r1.2))

theorem g36_eq (u0 : Option Addr × Nat × Nat) (w0 : World) : evFn Try.prog 36 g36_ann #[.slice u0.1 u0.2.1 u0.2.2] w0 = g36 u0 w0 := by kernel_rfl

theorem g36_call {u0 : Option Addr × Nat × Nat} {w0 : World} {r : Value × World} (h : g36 u0 w0 = some r) : callF Try.prog 36 #[.slice u0.1 u0.2.1 u0.2.2] w0 = some r :=
  callF_of_evFn (ann := g36_ann) Try.call36 (by kernel_rfl) ((g36_eq u0 w0).trans h)

/-! 62: slices.Index[[]int,int] (s: []int, v: int) -/
def g62_ann : List (List Nat × List Nat) := [([0, 1, 0, 1], [0, 1, 7, 4, 8])]

def g62_l2_cs (u0 : Option Addr × Nat × Nat) (u1 : Int) : List (Nat × Value) := ([(0, .slice u0.1 u0.2.1 u0.2.2), (1, .int .i64 u1), (7, .int .i64 (u0.2.1 : Int))] : List (Nat × Value))

/-- the round of a loop (slices.Index[[]int,int]) -/
noncomputable def g62_l2_b (u0 : Option Addr × Nat × Nat) (u1 : Int) (s3 : Int × Int) (w4 : World) : Option (Exit × (Int × Int) × World) :=
if (decide ((s3.2 : Int) < (u0.2.1 : Int))) = true then
((idxA u0.1 u0.2.1 1 s3.2).bind fun a5 =>
(World.cell? w4 a5).bind fun v6 =>
(asI .i64 v6).bind fun n7 =>
if ((u1 : Int) == n7) = true then
(some (.ret, (s3.2, s3.2), w4))
else
(some (.normal, (s3.1, (IntKind.i64.wrap (s3.2 + 1))), w4)))
else
(some ((.exit 0), (s3.1, s3.2), w4))

noncomputable def g62_K8  : Exit → Env → World → Option (Value × World) :=
  retK Try.prog Try.f62.results.toList

noncomputable def g62_K9  : Exit → Env → World → Option (Value × World) :=
  seqK (ev Try.prog 19 62 g62_ann (cAt [1, 1] (bodyOf Try.f62)) [1, 1] g62_K8) g62_K8

noncomputable def g62_K10  : Exit → Env → World → Option (Value × World) :=
  blkK 0 g62_K9

/-- the loop, from a state on -/
noncomputable def g62_l2 (u0 : Option Addr × Nat × Nat) (u1 : Int) (s : Int × Int) (w : World) : Option (Value × World) :=
  loopM Try.prog 19 62 g62_ann (cAt [1, 0, 1, 0, 0] (bodyOf Try.f62)) [0, 1, 0, 1] g62_K10 ((g62_l2_cs u0 u1) ++ sputs [(4, .i .i64), (8, .i .i64)] s) w

/-- behind the loop, left by x0 -/
noncomputable def g62_l2_x0  (t11 : Int × Int) (w12 : World) : Option (Value × World) :=
some (.int .i64 (-1), w12)

/-- behind the loop, left by ret -/
noncomputable def g62_l2_ret  (t13 : Int × Int) (w14 : World) : Option (Value × World) :=
some (.int .i64 t13.1, w14)

noncomputable def g62 (u0 : Option Addr × Nat × Nat) (u1 : Int) (w0 : World) : Option (Value × World) :=
g62_l2 u0 u1 (0, 0) w0

theorem g62_eq (u0 : Option Addr × Nat × Nat) (u1 : Int) (w0 : World) : evFn Try.prog 62 g62_ann #[.slice u0.1 u0.2.1 u0.2.2, .int .i64 u1] w0 = g62 u0 u1 w0 := by kernel_rfl

theorem g62_call {u0 : Option Addr × Nat × Nat} {u1 : Int} {w0 : World} {r : Value × World} (h : g62 u0 u1 w0 = some r) : callF Try.prog 62 #[.slice u0.1 u0.2.1 u0.2.2, .int .i64 u1] w0 = some r :=
  callF_of_evFn (ann := g62_ann) Try.call62 (by kernel_rfl) ((g62_eq u0 u1 w0).trans h)

theorem g62_l2_x0_of {u0 : Option Addr × Nat × Nat} {u1 : Int} {s t : Int × Int} {w w' : World} (h : loopS (g62_l2_b u0 u1) s w = some (.exit 0, t, w')) : g62_l2 u0 u1 s w = g62_l2_x0 t w' := by
  have h1 : g62_l2 u0 u1 s w = loopM Try.prog 19 62 g62_ann (cAt [1, 0, 1, 0, 0] (bodyOf Try.f62)) [0, 1, 0, 1] g62_K10 ((g62_l2_cs u0 u1) ++ sputs [(4, .i .i64), (8, .i .i64)] s) w := by kernel_rfl
  have h2 : loopM Try.prog 19 62 g62_ann (cAt [1, 0, 1, 0, 0] (bodyOf Try.f62)) [0, 1, 0, 1] g62_K10 ((g62_l2_cs u0 u1) ++ sputs [(4, .i .i64), (8, .i .i64)] s) w = g62_K10 (.exit 0) (puts 19 ((g62_l2_cs u0 u1) ++ sputs [(4, .i .i64), (8, .i .i64)] t)) w' :=
    loop_rule (P := Try.prog) (N := 19) (f := 62) (ann := g62_ann) (body := (cAt [1, 0, 1, 0, 0] (bodyOf Try.f62))) (pt := [0, 1, 0, 1]) (K := g62_K10) (g62_l2_cs u0 u1) [(4, .i .i64), (8, .i .i64)] (b := g62_l2_b u0 u1) (fun s w => by kernel_rfl) (by kernel_rfl) (by kernel_rfl) (by kernel_rfl) h
  have h3 : g62_K10 (.exit 0) (puts 19 ((g62_l2_cs u0 u1) ++ sputs [(4, .i .i64), (8, .i .i64)] t)) w' = g62_l2_x0 t w' := by kernel_rfl
  exact h1.trans (h2.trans h3)

theorem g62_l2_ret_of {u0 : Option Addr × Nat × Nat} {u1 : Int} {s t : Int × Int} {w w' : World} (h : loopS (g62_l2_b u0 u1) s w = some (.ret, t, w')) : g62_l2 u0 u1 s w = g62_l2_ret t w' := by
  have h1 : g62_l2 u0 u1 s w = loopM Try.prog 19 62 g62_ann (cAt [1, 0, 1, 0, 0] (bodyOf Try.f62)) [0, 1, 0, 1] g62_K10 ((g62_l2_cs u0 u1) ++ sputs [(4, .i .i64), (8, .i .i64)] s) w := by kernel_rfl
  have h2 : loopM Try.prog 19 62 g62_ann (cAt [1, 0, 1, 0, 0] (bodyOf Try.f62)) [0, 1, 0, 1] g62_K10 ((g62_l2_cs u0 u1) ++ sputs [(4, .i .i64), (8, .i .i64)] s) w = g62_K10 (.ret) (puts 19 ((g62_l2_cs u0 u1) ++ sputs [(4, .i .i64), (8, .i .i64)] t)) w' :=
    loop_rule (P := Try.prog) (N := 19) (f := 62) (ann := g62_ann) (body := (cAt [1, 0, 1, 0, 0] (bodyOf Try.f62))) (pt := [0, 1, 0, 1]) (K := g62_K10) (g62_l2_cs u0 u1) [(4, .i .i64), (8, .i .i64)] (b := g62_l2_b u0 u1) (fun s w => by kernel_rfl) (by kernel_rfl) (by kernel_rfl) (by kernel_rfl) h
  have h3 : g62_K10 (.ret) (puts 19 ((g62_l2_cs u0 u1) ++ sputs [(4, .i .i64), (8, .i .i64)] t)) w' = g62_l2_ret t w' := by kernel_rfl
  exact h1.trans (h2.trans h3)

end Go.Proofs.Ytlcojbodcbjkaaa
