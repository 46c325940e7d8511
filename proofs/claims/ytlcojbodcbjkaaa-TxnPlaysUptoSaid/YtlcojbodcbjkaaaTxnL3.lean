/-
  TxnL3: lemmas on what Go functions of this seat come to (for whatever arguments, as each says). No condition but those that stand in each lemma.
-/
import Derived.Test.YtlcojbodcbjkaaaTxnF0
namespace Go.Proofs.Ytlcojbodcbjkaaa
open Go Go.Ev
set_option maxRecDepth 100000
set_option linter.unusedVariables false
/-! 3: penstock/penstocklaw15.TxnPlays (script: []penstocklaw15.Op) -/
def g3_ann : List (List Nat × List Nat) := [([0, 1, 0, 1, 1, 1, 1], [3, 26, 27, 2, 4, 28]), ([0, 1, 0, 1, 1, 0, 1, 0, 1, 0, 1, 1, 1, 0, 0, 1, 1, 0, 0, 1, 0, 1, 1, 1, 1], [2, 3, 4, 6, 7, 8, 9, 10, 11, 12, 13, 26, 27, 28, 72, 73]), ([0, 1, 1, 1, 1, 1, 1, 1, 0, 0, 1, 1, 0, 0, 1, 0, 1, 1, 1, 1], [3, 4, 26, 27, 28, 174, 175, 2, 176]), ([0, 1, 1, 1, 1, 0, 0, 1, 1, 0, 0, 1, 1, 1, 1, 1, 1, 1, 0, 0, 1, 1, 0, 0, 1, 0, 1, 1, 1, 1], [2, 3, 4, 17, 26, 27, 28, 174, 175, 176, 191, 192]), ([0, 1, 1, 1, 1, 1, 1, 1, 0, 0, 1, 1, 0, 0, 1, 0, 1, 1, 1, 1], [3, 4, 26, 27, 28, 174, 175, 2, 176]), ([0, 1, 1, 1, 1, 0, 0, 1, 1, 0, 0, 1, 1, 1, 1, 1, 1, 1, 0, 0, 1, 1, 0, 0, 1, 0, 1, 1, 1, 1], [2, 3, 4, 17, 26, 27, 28, 174, 175, 176, 191, 192]), ([0, 1, 1, 1, 1, 1, 1, 1, 0, 0, 1, 1, 0, 0, 1, 0, 1, 1, 1, 1], [3, 4, 26, 27, 28, 174, 175, 2, 176]), ([0, 1, 1, 1, 1, 0, 0, 1, 1, 0, 0, 1, 1, 1, 1, 1, 1, 1, 0, 0, 1, 1, 0, 0, 1, 0, 1, 1, 1, 1], [2, 3, 4, 17, 26, 27, 28, 174, 175, 176, 191, 192]), ([0, 1, 1, 1, 1, 1, 1, 1, 0, 0, 1, 1, 0, 0, 1, 0, 1, 1, 1, 1], [3, 4, 26, 27, 28, 174, 175, 2, 176]), ([0, 1, 1, 1, 1, 0, 0, 1, 1, 0, 0, 1, 1, 1, 1, 1, 1, 1, 0, 0, 1, 1, 0, 0, 1, 0, 1, 1, 1, 1], [2, 3, 4, 17, 26, 27, 28, 174, 175, 176, 191, 192]), ([0, 1, 1, 1, 1, 1, 1, 1, 0, 0, 1, 1, 0, 0, 1, 0, 1, 1, 1, 1], [3, 4, 26, 27, 28, 174, 175, 2, 176]), ([0, 1, 1, 1, 1, 0, 0, 1, 1, 0, 0, 1, 1, 1, 1, 1, 1, 1, 0, 0, 1, 1, 0, 0, 1, 0, 1, 1, 1, 1], [2, 3, 4, 17, 26, 27, 28, 174, 175, 176, 191, 192]), ([0, 1, 1, 1, 1, 1, 1, 1, 0, 0, 1, 1, 0, 0, 1, 0, 1, 1, 1, 1], [3, 4, 26, 27, 28, 174, 175, 2, 176]), ([0, 1, 1, 1, 1, 0, 0, 1, 1, 0, 0, 1, 1, 1, 1, 1, 1, 1, 0, 0, 1, 1, 0, 0, 1, 0, 1, 1, 1, 1], [2, 3, 4, 17, 26, 27, 28, 174, 175, 176, 191, 192]), ([0, 1, 1, 1, 1, 1, 1, 1, 0, 0, 1, 1, 0, 0, 1, 0, 1, 1, 1, 1], [3, 4, 26, 27, 28, 174, 175, 2, 176]), ([0, 1, 1, 1, 1, 0, 0, 1, 1, 0, 0, 1, 1, 1, 1, 1, 1, 1, 0, 0, 1, 1, 0, 0, 1, 0, 1, 1, 1, 1], [2, 3, 4, 17, 26, 27, 28, 174, 175, 176, 191, 192]), ([0, 1, 1, 1, 1, 1, 1, 1, 0, 0, 1, 1, 0, 0, 1, 0, 1, 1, 1, 1], [3, 4, 26, 27, 28, 174, 175, 2, 176]), ([0, 1, 1, 1, 1, 0, 0, 1, 1, 0, 0, 1, 1, 1, 1, 1, 1, 1, 0, 0, 1, 1, 0, 0, 1, 0, 1, 1, 1, 1], [2, 3, 4, 17, 26, 27, 28, 174, 175, 176, 191, 192]), ([0, 1, 1, 1, 1, 1, 1, 1, 0, 0, 1, 1, 0, 0, 1, 0, 1, 1, 1, 1], [3, 4, 26, 27, 28, 174, 175, 2, 176]), ([0, 1, 1, 1, 1, 0, 0, 1, 1, 0, 0, 1, 1, 1, 1, 1, 1, 1, 0, 0, 1, 1, 0, 0, 1, 0, 1, 1, 1, 1], [2, 3, 4, 17, 26, 27, 28, 174, 175, 176, 191, 192]), ([0, 1, 1, 1, 1, 1, 1, 1, 0, 0, 1, 1, 0, 0, 1, 0, 1, 1, 1, 1], [3, 4, 26, 27, 28, 174, 175, 2, 176]), ([0, 1, 1, 1, 1, 0, 0, 1, 1, 0, 0, 1, 1, 1, 1, 1, 1, 1, 0, 0, 1, 1, 0, 0, 1, 0, 1, 1, 1, 1], [2, 3, 4, 17, 26, 27, 28, 174, 175, 176, 191, 192])]

def g3_l6_cs (p2 : Option Addr) (u0 : Option Addr × Nat × Nat) : List (Nat × Value) := ([(3, .pointer p2), (26, .slice u0.1 u0.2.1 u0.2.2), (27, .int .i64 (u0.2.1 : Int))] : List (Nat × Value))

def g3_l59_cs (s7 : Bool × (Option Addr × Nat × Nat) × Int) (p2 : Option Addr) (w8 : World) (w26 : World) (r37 : Value × World) (u0 : Option Addr × Nat × Nat) (q57 : Option Addr × Nat × Nat) : List (Nat × Value) := ([(2, .bool s7.1), (3, .pointer p2), (4, .slice s7.2.1.1 s7.2.1.2.1 s7.2.1.2.2), (6, .pointer (some (⟨w8.heap.size, 0, none⟩))), (7, .pointer (some (⟨w26.heap.size, 0, none⟩))), (8, .pointer (some (⟨(World.alloc w26 (.cells #[.int .i64 0, .int .i64 0, .int .i64 0, .int .u64 0, .int .i64 0, .slice none 0 0, .bool false] 30)).heap.size, 0, none⟩))), (9, .bool false), (10, .bool false), (11, .int .i64 0), (12, .int .i64 0), (13, .pointer (some (⟨r37.2.heap.size, 0, none⟩))), (26, .slice u0.1 u0.2.1 u0.2.2), (27, .int .i64 (u0.2.1 : Int)), (28, .int .i64 s7.2.2), (72, .int .i64 (q57.2.1 : Int))] : List (Nat × Value))

/-- the round of a loop (penstock/penstocklaw15.TxnPlays) -/
noncomputable def g3_l59_b (q57 : Option Addr × Nat × Nat) (r37 : Value × World) (s7 : Bool × (Option Addr × Nat × Nat) × Int) (p2 : Option Addr) (w8 : World) (w26 : World) (u0 : Option Addr × Nat × Nat) (s60 : Int) (w61 : World) : Option (Exit × (Int) × World) :=
if (decide ((s60 : Int) < (q57.2.1 : Int))) = true then
((World.cell? w61 (Addr.add (⟨r37.2.heap.size, 0, none⟩) 5)).bind fun v62 =>
(asSl v62).bind fun q63 =>
(idxA q63.1 q63.2.1 1 s60).bind fun a64 =>
(st1 w61 a64 (.int .i64 9)).bind fun w65 =>
some (.normal, (IntKind.i64.wrap (s60 + 1)), w65))
else
(some ((.exit 3), s60, w61))

noncomputable def g3_K66 (p2 : Option Addr) (u0 : Option Addr × Nat × Nat) : Exit → Env → World → Option (Exit × (Bool × (Option Addr × Nat × Nat) × Int) × World) :=
  fun e ρ w => ((List.map (·.1) (g3_l6_cs p2 u0)).mapM ρ).bind fun _ => loopK [(2, .b), (4, .sl), (28, .i .i64)] e ρ w

noncomputable def g3_K67 (p2 : Option Addr) (u0 : Option Addr × Nat × Nat) : Exit → Env → World → Option (Exit × (Bool × (Option Addr × Nat × Nat) × Int) × World) :=
  seqK (ev Try.prog 202 3 g3_ann (cAt [1, 1, 1, 1, 0, 1, 0, 0, 1, 1, 1] (bodyOf Try.f3)) [1, 1, 1, 0, 0, 1, 0, 1, 1, 1, 1] (g3_K66 p2 u0)) (g3_K66 p2 u0)

noncomputable def g3_K68 (p2 : Option Addr) (u0 : Option Addr × Nat × Nat) : Exit → Env → World → Option (Exit × (Bool × (Option Addr × Nat × Nat) × Int) × World) :=
  blkK 1 (g3_K67 p2 u0)

noncomputable def g3_K69 (p2 : Option Addr) (u0 : Option Addr × Nat × Nat) : Exit → Env → World → Option (Exit × (Bool × (Option Addr × Nat × Nat) × Int) × World) :=
  seqK (ev Try.prog 202 3 g3_ann (cAt [1, 1, 1, 1, 0, 1, 0, 0, 1, 1, 0, 0, 1, 1, 1, 1] (bodyOf Try.f3)) [1, 1, 1, 1, 0, 0, 1, 1, 0, 0, 1, 0, 1, 1, 1, 1] (g3_K68 p2 u0)) (g3_K68 p2 u0)

noncomputable def g3_K70 (p2 : Option Addr) (u0 : Option Addr × Nat × Nat) : Exit → Env → World → Option (Exit × (Bool × (Option Addr × Nat × Nat) × Int) × World) :=
  blkK 2 (g3_K69 p2 u0)

noncomputable def g3_K71 (p2 : Option Addr) (u0 : Option Addr × Nat × Nat) : Exit → Env → World → Option (Exit × (Bool × (Option Addr × Nat × Nat) × Int) × World) :=
  seqK (ev Try.prog 202 3 g3_ann (cAt [1, 1, 1, 1, 0, 1, 0, 0, 1, 1, 0, 0, 1, 1, 1, 0, 1, 0, 1, 0, 1, 1, 1] (bodyOf Try.f3)) [1, 1, 1, 0, 1, 0, 1, 0, 1, 1, 1, 0, 0, 1, 1, 0, 0, 1, 0, 1, 1, 1, 1] (g3_K70 p2 u0)) (g3_K70 p2 u0)

noncomputable def g3_K72 (p2 : Option Addr) (u0 : Option Addr × Nat × Nat) : Exit → Env → World → Option (Exit × (Bool × (Option Addr × Nat × Nat) × Int) × World) :=
  blkK 3 (g3_K71 p2 u0)

/-- the loop, from a state on -/
noncomputable def g3_l59 (s7 : Bool × (Option Addr × Nat × Nat) × Int) (p2 : Option Addr) (w8 : World) (w26 : World) (r37 : Value × World) (u0 : Option Addr × Nat × Nat) (q57 : Option Addr × Nat × Nat) (s : Int) (w : World) : Option (Exit × (Bool × (Option Addr × Nat × Nat) × Int) × World) :=
  loopM Try.prog 202 3 g3_ann (cAt [1, 1, 1, 1, 0, 1, 0, 0, 1, 1, 0, 0, 1, 1, 1, 0, 1, 0, 1, 0, 1, 1, 0, 1, 0, 0] (bodyOf Try.f3)) [0, 1, 0, 1, 1, 0, 1, 0, 1, 0, 1, 1, 1, 0, 0, 1, 1, 0, 0, 1, 0, 1, 1, 1, 1] (g3_K72 p2 u0) ((g3_l59_cs s7 p2 w8 w26 r37 u0 q57) ++ sputs [(73, .i .i64)] s) w

def g3_l117_cs (p2 : Option Addr) (q93 : Option Addr × Nat × Nat) (u0 : Option Addr × Nat × Nat) (s7 : Bool × (Option Addr × Nat × Nat) × Int) (r110 : Value × World) : List (Nat × Value) := ([(3, .pointer p2), (4, .slice q93.1 q93.2.1 q93.2.2), (26, .slice u0.1 u0.2.1 u0.2.2), (27, .int .i64 (u0.2.1 : Int)), (28, .int .i64 s7.2.2), (174, .slice (some (⟨r110.2.heap.size, 0, none⟩)) 2 2), (175, .int .i64 2)] : List (Nat × Value))

noncomputable def g3_K208 (p2 : Option Addr) (q93 : Option Addr × Nat × Nat) (u0 : Option Addr × Nat × Nat) (s7 : Bool × (Option Addr × Nat × Nat) × Int) (r110 : Value × World) : Exit → Env → World → Option (Exit × (Bool × Int) × World) :=
  fun e ρ w => ((List.map (·.1) (g3_l117_cs p2 q93 u0 s7 r110)).mapM ρ).bind fun _ => loopK [(2, .b), (176, .i .i64)] e ρ w

noncomputable def g3_K209 (p2 : Option Addr) (q93 : Option Addr × Nat × Nat) (u0 : Option Addr × Nat × Nat) (s7 : Bool × (Option Addr × Nat × Nat) × Int) (r110 : Value × World) : Exit → Env → World → Option (Exit × (Bool × Int) × World) :=
  seqK (ev Try.prog 202 3 g3_ann (cAt [1, 1, 1, 1, 0, 1, 0, 0, 1, 1, 0, 0, 1, 1, 1, 1, 1, 1, 1, 0, 0, 1, 1, 1] (bodyOf Try.f3)) [1, 1, 1, 0, 0, 1, 1, 1, 1, 1, 1, 1, 0, 0, 1, 1, 0, 0, 1, 0, 1, 1, 1, 1] (g3_K208 p2 q93 u0 s7 r110)) (g3_K208 p2 q93 u0 s7 r110)

noncomputable def g3_K210 (p2 : Option Addr) (q93 : Option Addr × Nat × Nat) (u0 : Option Addr × Nat × Nat) (s7 : Bool × (Option Addr × Nat × Nat) × Int) (r110 : Value × World) : Exit → Env → World → Option (Exit × (Bool × Int) × World) :=
  blkK 6 (g3_K209 p2 q93 u0 s7 r110)

noncomputable def g3_K211 (p2 : Option Addr) (q93 : Option Addr × Nat × Nat) (u0 : Option Addr × Nat × Nat) (s7 : Bool × (Option Addr × Nat × Nat) × Int) (r110 : Value × World) : Exit → Env → World → Option (Exit × (Bool × Int) × World) :=
  blkK 7 (g3_K210 p2 q93 u0 s7 r110)

def g3_l201_cs (s118 : Bool × Int) (p2 : Option Addr) (q93 : Option Addr × Nat × Nat) (r123 : Value × World) (u0 : Option Addr × Nat × Nat) (s7 : Bool × (Option Addr × Nat × Nat) × Int) (r110 : Value × World) (q199 : Option Addr × Nat × Nat) : List (Nat × Value) := ([(2, .bool s118.1), (3, .pointer p2), (4, .slice q93.1 q93.2.1 q93.2.2), (17, .pointer (some (⟨r123.2.heap.size, 0, none⟩))), (26, .slice u0.1 u0.2.1 u0.2.2), (27, .int .i64 (u0.2.1 : Int)), (28, .int .i64 s7.2.2), (174, .slice (some (⟨r110.2.heap.size, 0, none⟩)) 2 2), (175, .int .i64 2), (176, .int .i64 s118.2), (191, .int .i64 (q199.2.1 : Int))] : List (Nat × Value))

/-- the loop, from a state on -/
noncomputable def g3_l201 (s118 : Bool × Int) (p2 : Option Addr) (q93 : Option Addr × Nat × Nat) (r123 : Value × World) (u0 : Option Addr × Nat × Nat) (s7 : Bool × (Option Addr × Nat × Nat) × Int) (r110 : Value × World) (q199 : Option Addr × Nat × Nat) (s : Int) (w : World) : Option (Exit × (Bool × Int) × World) :=
  loopM Try.prog 202 3 g3_ann (cAt [1, 1, 1, 1, 0, 1, 0, 0, 1, 1, 0, 0, 1, 1, 1, 1, 1, 1, 1, 0, 0, 1, 1, 0, 0, 1, 1, 1, 1, 0, 0] (bodyOf Try.f3)) [0, 1, 1, 1, 1, 0, 0, 1, 1, 0, 0, 1, 1, 1, 1, 1, 1, 1, 0, 0, 1, 1, 0, 0, 1, 0, 1, 1, 1, 1] (g3_K211 p2 q93 u0 s7 r110) ((g3_l201_cs s118 p2 q93 r123 u0 s7 r110 q199) ++ sputs [(192, .i .i64)] s) w

noncomputable def g3_j167 (s118 : Bool × Int) (p2 : Option Addr) (q93 : Option Addr × Nat × Nat) (n122 : Int) (r123 : Value × World) (u0 : Option Addr × Nat × Nat) (s7 : Bool × (Option Addr × Nat × Nat) × Int) (r110 : Value × World) (a120 : Addr) (n125 : Int) (n126 : Int) (n127 : Int) (n128 : Int) (q129 : Option Addr × Nat × Nat) (n130 : Int) (n131 : Int) (b132 : Bool) (w133 : World) (x177 : Int) (x178 : Int) (x179 : Int) (x180 : Int) (x181 : Option Addr × Nat × Nat) (x182 : Int) (x183 : Int) (x184 : Bool) (x185 : Int) (x186 : Int) (x187 : Int) (x188 : Int) (x189 : Option Addr × Nat × Nat) (x190 : Int) (x191 : Int) (x192 : Bool) (w193 : World) : Option (Exit × (Bool × Int) × World) :=
(callF Try.prog 22 #[.agg #[.int .i64 x177, .int .i64 x178, .int .u64 x179, .int .i64 x180, .slice x181.1 x181.2.1 x181.2.2, .int .i64 x182, .int .u64 x183, .bool x184], .agg #[.int .i64 x185, .int .i64 x186, .int .u64 x187, .int .i64 x188, .slice x189.1 x189.2.1 x189.2.2, .int .i64 x190, .int .u64 x191, .bool x192]] w193).bind fun r194 =>
(asB r194.1).bind fun b195 =>
if (!b195) = true then
(some (.ret, (false, s118.2), r194.2))
else
((World.cell? r194.2 (Addr.add (⟨r123.2.heap.size, 0, none⟩) 4)).bind fun v198 =>
(asSl v198).bind fun q199 =>
g3_l201 s118 p2 q93 r123 u0 s7 r110 q199 0 r194.2)

/-- the round of a loop (penstock/penstocklaw15.TxnPlays) -/
noncomputable def g3_l201_b (q199 : Option Addr × Nat × Nat) (r123 : Value × World) (s118 : Bool × Int) (p2 : Option Addr) (q93 : Option Addr × Nat × Nat) (u0 : Option Addr × Nat × Nat) (s7 : Bool × (Option Addr × Nat × Nat) × Int) (r110 : Value × World) (s202 : Int) (w203 : World) : Option (Exit × (Int) × World) :=
if (decide ((s202 : Int) < (q199.2.1 : Int))) = true then
((World.cell? w203 (Addr.add (⟨r123.2.heap.size, 0, none⟩) 4)).bind fun v204 =>
(asSl v204).bind fun q205 =>
(idxA q205.1 q205.2.1 1 s202).bind fun a206 =>
(st1 w203 a206 (.int .i64 9)).bind fun w207 =>
some (.normal, (IntKind.i64.wrap (s202 + 1)), w207))
else
(some ((.exit 7), s202, w203))

/-- behind the loop, left by x7 -/
noncomputable def g3_l201_x7 (s118 : Bool × Int) (t212 : Int) (w213 : World) : Option (Exit × (Bool × Int) × World) :=
some (.normal, (s118.1, (IntKind.i64.wrap (s118.2 + 1))), w213)

/-- the round of a loop (penstock/penstocklaw15.TxnPlays) -/
noncomputable def g3_l117_b (r110 : Value × World) (p2 : Option Addr) (q93 : Option Addr × Nat × Nat) (u0 : Option Addr × Nat × Nat) (s7 : Bool × (Option Addr × Nat × Nat) × Int) (s118 : Bool × Int) (w119 : World) : Option (Exit × (Bool × Int) × World) :=
if (decide ((s118.2 : Int) < 2)) = true then
((idxA (some (⟨r110.2.heap.size, 0, none⟩)) 2 1 s118.2).bind fun a120 =>
(World.cell? w119 a120).bind fun v121 =>
(asI .i64 v121).bind fun n122 =>
(callF Try.prog 21 #[.pointer p2, .int .i64 n122] w119).bind fun r123 =>
(Ev.asAgg 8 r123.1).bind fun l124 =>
(asI .i64 (l124.getD 0 undef)).bind fun n125 =>
(asI .i64 (l124.getD 1 undef)).bind fun n126 =>
(asI .u64 (l124.getD 2 undef)).bind fun n127 =>
(asI .i64 (l124.getD 3 undef)).bind fun n128 =>
(asSl (l124.getD 4 undef)).bind fun q129 =>
(asI .i64 (l124.getD 5 undef)).bind fun n130 =>
(asI .u64 (l124.getD 6 undef)).bind fun n131 =>
(asB (l124.getD 7 undef)).bind fun b132 =>
(stL (World.alloc r123.2 (.cells #[.int .i64 0, .int .i64 0, .int .u64 0, .int .i64 0, .slice none 0 0, .int .i64 0, .int .u64 0, .bool false] 46)) (⟨r123.2.heap.size, 0, none⟩) [.int .i64 n125, .int .i64 n126, .int .u64 n127, .int .i64 n128, .slice q129.1 q129.2.1 q129.2.2, .int .i64 n130, .int .u64 n131, .bool b132] 0).bind fun w133 =>
if (ahd (Region.schedule true (opsOf (cAt [1, 1, 1, 1, 0, 1, 0, 0, 1, 1, 0, 0, 1, 1, 1, 1, 1, 1, 1, 0, 0, 1, 1, 0, 0, 1, 1, 0, 0] (bodyOf Try.f3))) (World.tape w133 (World.drawn w133) (.order 3 37))) 0 3 && true) = true then
((ldN (World.drew w133) (⟨r123.2.heap.size, 0, none⟩) 0 8).bind fun l136 =>
(asI .i64 (l136.getD 0 undef)).bind fun n137 =>
(asI .i64 (l136.getD 1 undef)).bind fun n138 =>
(asI .u64 (l136.getD 2 undef)).bind fun n139 =>
(asI .i64 (l136.getD 3 undef)).bind fun n140 =>
(asSl (l136.getD 4 undef)).bind fun q141 =>
(asI .i64 (l136.getD 5 undef)).bind fun n142 =>
(asI .u64 (l136.getD 6 undef)).bind fun n143 =>
(asB (l136.getD 7 undef)).bind fun b144 =>
(callF Try.prog 23 #[.slice q93.1 q93.2.1 q93.2.2, .int .i64 n122] (World.drew w133)).bind fun r157 =>
(Ev.asAgg 8 r157.1).bind fun l158 =>
(asI .i64 (l158.getD 0 undef)).bind fun n159 =>
(asI .i64 (l158.getD 1 undef)).bind fun n160 =>
(asI .u64 (l158.getD 2 undef)).bind fun n161 =>
(asI .i64 (l158.getD 3 undef)).bind fun n162 =>
(asSl (l158.getD 4 undef)).bind fun q163 =>
(asI .i64 (l158.getD 5 undef)).bind fun n164 =>
(asI .u64 (l158.getD 6 undef)).bind fun n165 =>
(asB (l158.getD 7 undef)).bind fun b166 =>
g3_j167 s118 p2 q93 n122 r123 u0 s7 r110 a120 n125 n126 n127 n128 q129 n130 n131 b132 w133 n137 n138 n139 n140 (q141.1, q141.2.1, q141.2.2) n142 n143 b144 n159 n160 n161 n162 (q163.1, q163.2.1, q163.2.2) n164 n165 b166 r157.2)
else
((callF Try.prog 23 #[.slice q93.1 q93.2.1 q93.2.2, .int .i64 n122] (World.drew w133)).bind fun r146 =>
(Ev.asAgg 8 r146.1).bind fun l147 =>
(asI .i64 (l147.getD 0 undef)).bind fun n148 =>
(asI .i64 (l147.getD 1 undef)).bind fun n149 =>
(asI .u64 (l147.getD 2 undef)).bind fun n150 =>
(asI .i64 (l147.getD 3 undef)).bind fun n151 =>
(asSl (l147.getD 4 undef)).bind fun q152 =>
(asI .i64 (l147.getD 5 undef)).bind fun n153 =>
(asI .u64 (l147.getD 6 undef)).bind fun n154 =>
(asB (l147.getD 7 undef)).bind fun b155 =>
(ldN r146.2 (⟨r123.2.heap.size, 0, none⟩) 0 8).bind fun l168 =>
(asI .i64 (l168.getD 0 undef)).bind fun n169 =>
(asI .i64 (l168.getD 1 undef)).bind fun n170 =>
(asI .u64 (l168.getD 2 undef)).bind fun n171 =>
(asI .i64 (l168.getD 3 undef)).bind fun n172 =>
(asSl (l168.getD 4 undef)).bind fun q173 =>
(asI .i64 (l168.getD 5 undef)).bind fun n174 =>
(asI .u64 (l168.getD 6 undef)).bind fun n175 =>
(asB (l168.getD 7 undef)).bind fun b176 =>
g3_j167 s118 p2 q93 n122 r123 u0 s7 r110 a120 n125 n126 n127 n128 q129 n130 n131 b132 w133 n169 n170 n171 n172 (q173.1, q173.2.1, q173.2.2) n174 n175 b176 n148 n149 n150 n151 (q152.1, q152.2.1, q152.2.2) n153 n154 b155 r146.2))
else
(some ((.exit 5), (s118.1, s118.2), w119))

noncomputable def g3_K214 (p2 : Option Addr) (u0 : Option Addr × Nat × Nat) : Exit → Env → World → Option (Exit × (Bool × (Option Addr × Nat × Nat) × Int) × World) :=
  blkK 5 (g3_K68 p2 u0)

/-- the loop, from a state on -/
noncomputable def g3_l117 (p2 : Option Addr) (q93 : Option Addr × Nat × Nat) (u0 : Option Addr × Nat × Nat) (s7 : Bool × (Option Addr × Nat × Nat) × Int) (r110 : Value × World) (s : Bool × Int) (w : World) : Option (Exit × (Bool × (Option Addr × Nat × Nat) × Int) × World) :=
  loopM Try.prog 202 3 g3_ann (cAt [1, 1, 1, 1, 0, 1, 0, 0, 1, 1, 0, 0, 1, 1, 1, 1, 1, 1, 1, 0, 0] (bodyOf Try.f3)) [0, 1, 1, 1, 1, 1, 1, 1, 0, 0, 1, 1, 0, 0, 1, 0, 1, 1, 1, 1] (g3_K214 p2 u0) ((g3_l117_cs p2 q93 u0 s7 r110) ++ sputs [(2, .b), (176, .i .i64)] s) w

/-- behind the loop, left by x5 -/
noncomputable def g3_l117_x5 (q93 : Option Addr × Nat × Nat) (s7 : Bool × (Option Addr × Nat × Nat) × Int) (t215 : Bool × Int) (w216 : World) : Option (Exit × (Bool × (Option Addr × Nat × Nat) × Int) × World) :=
some (.normal, (t215.1, (q93.1, q93.2.1, q93.2.2), (IntKind.i64.wrap (s7.2.2 + 1))), w216)

/-- behind the loop, left by x3 -/
noncomputable def g3_l59_x3 (w8 : World) (s7 : Bool × (Option Addr × Nat × Nat) × Int) (w26 : World) (p2 : Option Addr) (u0 : Option Addr × Nat × Nat) (t73 : Int) (w74 : World) : Option (Exit × (Bool × (Option Addr × Nat × Nat) × Int) × World) :=
(ldN w74 (Addr.add (⟨w8.heap.size, 0, none⟩) 8) 0 7).bind fun l75 =>
(asI .i64 (l75.getD 0 undef)).bind fun n76 =>
(asI .i64 (l75.getD 1 undef)).bind fun n77 =>
(asI .i64 (l75.getD 2 undef)).bind fun n78 =>
(asI .u64 (l75.getD 3 undef)).bind fun n79 =>
(asI .i64 (l75.getD 4 undef)).bind fun n80 =>
(asSl (l75.getD 5 undef)).bind fun q81 =>
(asB (l75.getD 6 undef)).bind fun b82 =>
(callF Try.prog 12 #[.agg #[.int .i64 n76, .int .i64 n77, .int .i64 n78, .int .u64 n79, .int .i64 n80, .slice q81.1 q81.2.1 q81.2.2, .bool b82]] w74).bind fun r83 =>
(Ev.asAgg 7 r83.1).bind fun l84 =>
(asI .i64 (l84.getD 0 undef)).bind fun n85 =>
(asI .i64 (l84.getD 1 undef)).bind fun n86 =>
(asI .i64 (l84.getD 2 undef)).bind fun n87 =>
(asI .u64 (l84.getD 3 undef)).bind fun n88 =>
(asI .i64 (l84.getD 4 undef)).bind fun n89 =>
(asSl (l84.getD 5 undef)).bind fun q90 =>
(asB (l84.getD 6 undef)).bind fun b91 =>
(callB Try.prog .append #[26, 26] 26 #[false, false] #[.slice s7.2.1.1 s7.2.1.2.1 s7.2.1.2.2, .slice (some (⟨r83.2.heap.size, 0, none⟩)) 1 1] (World.alloc r83.2 (.cells #[.int .i64 n85, .int .i64 n86, .int .i64 n87, .int .u64 n88, .int .i64 n89, .slice q90.1 q90.2.1 q90.2.2, .bool b91] 30))).bind fun r92 =>
(asSl r92.1).bind fun q93 =>
if (!(false == false)) = true then
(some (.ret, (false, (q93.1, q93.2.1, q93.2.2), s7.2.2), r92.2))
else
((ldN r92.2 (⟨w26.heap.size, 0, none⟩) 0 7).bind fun l94 =>
(asI .i64 (l94.getD 0 undef)).bind fun n95 =>
(asI .i64 (l94.getD 1 undef)).bind fun n96 =>
(asI .i64 (l94.getD 2 undef)).bind fun n97 =>
(asI .u64 (l94.getD 3 undef)).bind fun n98 =>
(asI .i64 (l94.getD 4 undef)).bind fun n99 =>
(asSl (l94.getD 5 undef)).bind fun q100 =>
(asB (l94.getD 6 undef)).bind fun b101 =>
(ldN r92.2 (⟨(World.alloc w26 (.cells #[.int .i64 0, .int .i64 0, .int .i64 0, .int .u64 0, .int .i64 0, .slice none 0 0, .bool false] 30)).heap.size, 0, none⟩) 0 7).bind fun l102 =>
(asI .i64 (l102.getD 0 undef)).bind fun n103 =>
(asI .i64 (l102.getD 1 undef)).bind fun n104 =>
(asI .i64 (l102.getD 2 undef)).bind fun n105 =>
(asI .u64 (l102.getD 3 undef)).bind fun n106 =>
(asI .i64 (l102.getD 4 undef)).bind fun n107 =>
(asSl (l102.getD 5 undef)).bind fun q108 =>
(asB (l102.getD 6 undef)).bind fun b109 =>
(callF Try.prog 20 #[.agg #[.int .i64 n95, .int .i64 n96, .int .i64 n97, .int .u64 n98, .int .i64 n99, .slice q100.1 q100.2.1 q100.2.2, .bool b101], .agg #[.int .i64 n103, .int .i64 n104, .int .i64 n105, .int .u64 n106, .int .i64 n107, .slice q108.1 q108.2.1 q108.2.2, .bool b109]] r92.2).bind fun r110 =>
(asB r110.1).bind fun b111 =>
if (!b111) = true then
(some (.ret, (false, (q93.1, q93.2.1, q93.2.2), s7.2.2), r110.2))
else
((World.cell? r110.2 (Addr.add (⟨w8.heap.size, 0, none⟩) 1)).bind fun v112 =>
(asI .i64 v112).bind fun n113 =>
(World.cell? r110.2 (Addr.add (Addr.add (⟨w8.heap.size, 0, none⟩) 8) 1)).bind fun v114 =>
(asI .i64 v114).bind fun n115 =>
g3_l117 p2 q93 u0 s7 r110 (s7.1, 0) (World.alloc r110.2 (.cells #[.int .i64 n113, .int .i64 n115] 3))))

def g3_l302_cs (p2 : Option Addr) (q296 : Option Addr × Nat × Nat) (u0 : Option Addr × Nat × Nat) (s7 : Bool × (Option Addr × Nat × Nat) × Int) (r295 : Value × World) : List (Nat × Value) := ([(3, .pointer p2), (4, .slice q296.1 q296.2.1 q296.2.2), (26, .slice u0.1 u0.2.1 u0.2.2), (27, .int .i64 (u0.2.1 : Int)), (28, .int .i64 s7.2.2), (174, .slice (some (⟨r295.2.heap.size, 0, none⟩)) 2 2), (175, .int .i64 2)] : List (Nat × Value))

noncomputable def g3_K393 (p2 : Option Addr) (q296 : Option Addr × Nat × Nat) (u0 : Option Addr × Nat × Nat) (s7 : Bool × (Option Addr × Nat × Nat) × Int) (r295 : Value × World) : Exit → Env → World → Option (Exit × (Bool × Int) × World) :=
  fun e ρ w => ((List.map (·.1) (g3_l302_cs p2 q296 u0 s7 r295)).mapM ρ).bind fun _ => loopK [(2, .b), (176, .i .i64)] e ρ w

noncomputable def g3_K394 (p2 : Option Addr) (q296 : Option Addr × Nat × Nat) (u0 : Option Addr × Nat × Nat) (s7 : Bool × (Option Addr × Nat × Nat) × Int) (r295 : Value × World) : Exit → Env → World → Option (Exit × (Bool × Int) × World) :=
  seqK (ev Try.prog 202 3 g3_ann (cAt [1, 1, 1, 1, 0, 1, 0, 0, 1, 1, 0, 0, 1, 1, 1, 1, 1, 1, 1, 0, 0, 1, 1, 1] (bodyOf Try.f3)) [1, 1, 1, 0, 0, 1, 1, 1, 1, 1, 1, 1, 0, 0, 1, 1, 0, 0, 1, 0, 1, 1, 1, 1] (g3_K393 p2 q296 u0 s7 r295)) (g3_K393 p2 q296 u0 s7 r295)

noncomputable def g3_K395 (p2 : Option Addr) (q296 : Option Addr × Nat × Nat) (u0 : Option Addr × Nat × Nat) (s7 : Bool × (Option Addr × Nat × Nat) × Int) (r295 : Value × World) : Exit → Env → World → Option (Exit × (Bool × Int) × World) :=
  blkK 6 (g3_K394 p2 q296 u0 s7 r295)

noncomputable def g3_K396 (p2 : Option Addr) (q296 : Option Addr × Nat × Nat) (u0 : Option Addr × Nat × Nat) (s7 : Bool × (Option Addr × Nat × Nat) × Int) (r295 : Value × World) : Exit → Env → World → Option (Exit × (Bool × Int) × World) :=
  blkK 7 (g3_K395 p2 q296 u0 s7 r295)

def g3_l386_cs (s303 : Bool × Int) (p2 : Option Addr) (q296 : Option Addr × Nat × Nat) (r308 : Value × World) (u0 : Option Addr × Nat × Nat) (s7 : Bool × (Option Addr × Nat × Nat) × Int) (r295 : Value × World) (q384 : Option Addr × Nat × Nat) : List (Nat × Value) := ([(2, .bool s303.1), (3, .pointer p2), (4, .slice q296.1 q296.2.1 q296.2.2), (17, .pointer (some (⟨r308.2.heap.size, 0, none⟩))), (26, .slice u0.1 u0.2.1 u0.2.2), (27, .int .i64 (u0.2.1 : Int)), (28, .int .i64 s7.2.2), (174, .slice (some (⟨r295.2.heap.size, 0, none⟩)) 2 2), (175, .int .i64 2), (176, .int .i64 s303.2), (191, .int .i64 (q384.2.1 : Int))] : List (Nat × Value))

/-- the loop, from a state on -/
noncomputable def g3_l386 (s303 : Bool × Int) (p2 : Option Addr) (q296 : Option Addr × Nat × Nat) (r308 : Value × World) (u0 : Option Addr × Nat × Nat) (s7 : Bool × (Option Addr × Nat × Nat) × Int) (r295 : Value × World) (q384 : Option Addr × Nat × Nat) (s : Int) (w : World) : Option (Exit × (Bool × Int) × World) :=
  loopM Try.prog 202 3 g3_ann (cAt [1, 1, 1, 1, 0, 1, 0, 0, 1, 1, 0, 0, 1, 1, 1, 1, 1, 1, 1, 0, 0, 1, 1, 0, 0, 1, 1, 1, 1, 0, 0] (bodyOf Try.f3)) [0, 1, 1, 1, 1, 0, 0, 1, 1, 0, 0, 1, 1, 1, 1, 1, 1, 1, 0, 0, 1, 1, 0, 0, 1, 0, 1, 1, 1, 1] (g3_K396 p2 q296 u0 s7 r295) ((g3_l386_cs s303 p2 q296 r308 u0 s7 r295 q384) ++ sputs [(192, .i .i64)] s) w

noncomputable def g3_j352 (s303 : Bool × Int) (p2 : Option Addr) (q296 : Option Addr × Nat × Nat) (n307 : Int) (r308 : Value × World) (u0 : Option Addr × Nat × Nat) (s7 : Bool × (Option Addr × Nat × Nat) × Int) (r295 : Value × World) (a305 : Addr) (n310 : Int) (n311 : Int) (n312 : Int) (n313 : Int) (q314 : Option Addr × Nat × Nat) (n315 : Int) (n316 : Int) (b317 : Bool) (w318 : World) (x362 : Int) (x363 : Int) (x364 : Int) (x365 : Int) (x366 : Option Addr × Nat × Nat) (x367 : Int) (x368 : Int) (x369 : Bool) (x370 : Int) (x371 : Int) (x372 : Int) (x373 : Int) (x374 : Option Addr × Nat × Nat) (x375 : Int) (x376 : Int) (x377 : Bool) (w378 : World) : Option (Exit × (Bool × Int) × World) :=
(callF Try.prog 22 #[.agg #[.int .i64 x362, .int .i64 x363, .int .u64 x364, .int .i64 x365, .slice x366.1 x366.2.1 x366.2.2, .int .i64 x367, .int .u64 x368, .bool x369], .agg #[.int .i64 x370, .int .i64 x371, .int .u64 x372, .int .i64 x373, .slice x374.1 x374.2.1 x374.2.2, .int .i64 x375, .int .u64 x376, .bool x377]] w378).bind fun r379 =>
(asB r379.1).bind fun b380 =>
if (!b380) = true then
(some (.ret, (false, s303.2), r379.2))
else
((World.cell? r379.2 (Addr.add (⟨r308.2.heap.size, 0, none⟩) 4)).bind fun v383 =>
(asSl v383).bind fun q384 =>
g3_l386 s303 p2 q296 r308 u0 s7 r295 q384 0 r379.2)

/-- the round of a loop (penstock/penstocklaw15.TxnPlays) -/
noncomputable def g3_l386_b (q384 : Option Addr × Nat × Nat) (r308 : Value × World) (s303 : Bool × Int) (p2 : Option Addr) (q296 : Option Addr × Nat × Nat) (u0 : Option Addr × Nat × Nat) (s7 : Bool × (Option Addr × Nat × Nat) × Int) (r295 : Value × World) (s387 : Int) (w388 : World) : Option (Exit × (Int) × World) :=
if (decide ((s387 : Int) < (q384.2.1 : Int))) = true then
((World.cell? w388 (Addr.add (⟨r308.2.heap.size, 0, none⟩) 4)).bind fun v389 =>
(asSl v389).bind fun q390 =>
(idxA q390.1 q390.2.1 1 s387).bind fun a391 =>
(st1 w388 a391 (.int .i64 9)).bind fun w392 =>
some (.normal, (IntKind.i64.wrap (s387 + 1)), w392))
else
(some ((.exit 7), s387, w388))

/-- behind the loop, left by x7 -/
noncomputable def g3_l386_x7 (s303 : Bool × Int) (t397 : Int) (w398 : World) : Option (Exit × (Bool × Int) × World) :=
some (.normal, (s303.1, (IntKind.i64.wrap (s303.2 + 1))), w398)

/-- the round of a loop (penstock/penstocklaw15.TxnPlays) -/
noncomputable def g3_l302_b (r295 : Value × World) (p2 : Option Addr) (q296 : Option Addr × Nat × Nat) (u0 : Option Addr × Nat × Nat) (s7 : Bool × (Option Addr × Nat × Nat) × Int) (s303 : Bool × Int) (w304 : World) : Option (Exit × (Bool × Int) × World) :=
if (decide ((s303.2 : Int) < 2)) = true then
((idxA (some (⟨r295.2.heap.size, 0, none⟩)) 2 1 s303.2).bind fun a305 =>
(World.cell? w304 a305).bind fun v306 =>
(asI .i64 v306).bind fun n307 =>
(callF Try.prog 21 #[.pointer p2, .int .i64 n307] w304).bind fun r308 =>
(Ev.asAgg 8 r308.1).bind fun l309 =>
(asI .i64 (l309.getD 0 undef)).bind fun n310 =>
(asI .i64 (l309.getD 1 undef)).bind fun n311 =>
(asI .u64 (l309.getD 2 undef)).bind fun n312 =>
(asI .i64 (l309.getD 3 undef)).bind fun n313 =>
(asSl (l309.getD 4 undef)).bind fun q314 =>
(asI .i64 (l309.getD 5 undef)).bind fun n315 =>
(asI .u64 (l309.getD 6 undef)).bind fun n316 =>
(asB (l309.getD 7 undef)).bind fun b317 =>
(stL (World.alloc r308.2 (.cells #[.int .i64 0, .int .i64 0, .int .u64 0, .int .i64 0, .slice none 0 0, .int .i64 0, .int .u64 0, .bool false] 46)) (⟨r308.2.heap.size, 0, none⟩) [.int .i64 n310, .int .i64 n311, .int .u64 n312, .int .i64 n313, .slice q314.1 q314.2.1 q314.2.2, .int .i64 n315, .int .u64 n316, .bool b317] 0).bind fun w318 =>
if (ahd (Region.schedule true (opsOf (cAt [1, 1, 1, 1, 0, 1, 0, 0, 1, 1, 0, 0, 1, 1, 1, 1, 1, 1, 1, 0, 0, 1, 1, 0, 0, 1, 1, 0, 0] (bodyOf Try.f3))) (World.tape w318 (World.drawn w318) (.order 3 37))) 0 3 && true) = true then
((ldN (World.drew w318) (⟨r308.2.heap.size, 0, none⟩) 0 8).bind fun l321 =>
(asI .i64 (l321.getD 0 undef)).bind fun n322 =>
(asI .i64 (l321.getD 1 undef)).bind fun n323 =>
(asI .u64 (l321.getD 2 undef)).bind fun n324 =>
(asI .i64 (l321.getD 3 undef)).bind fun n325 =>
(asSl (l321.getD 4 undef)).bind fun q326 =>
(asI .i64 (l321.getD 5 undef)).bind fun n327 =>
(asI .u64 (l321.getD 6 undef)).bind fun n328 =>
(asB (l321.getD 7 undef)).bind fun b329 =>
(callF Try.prog 23 #[.slice q296.1 q296.2.1 q296.2.2, .int .i64 n307] (World.drew w318)).bind fun r342 =>
(Ev.asAgg 8 r342.1).bind fun l343 =>
(asI .i64 (l343.getD 0 undef)).bind fun n344 =>
(asI .i64 (l343.getD 1 undef)).bind fun n345 =>
(asI .u64 (l343.getD 2 undef)).bind fun n346 =>
(asI .i64 (l343.getD 3 undef)).bind fun n347 =>
(asSl (l343.getD 4 undef)).bind fun q348 =>
(asI .i64 (l343.getD 5 undef)).bind fun n349 =>
(asI .u64 (l343.getD 6 undef)).bind fun n350 =>
(asB (l343.getD 7 undef)).bind fun b351 =>
g3_j352 s303 p2 q296 n307 r308 u0 s7 r295 a305 n310 n311 n312 n313 q314 n315 n316 b317 w318 n322 n323 n324 n325 (q326.1, q326.2.1, q326.2.2) n327 n328 b329 n344 n345 n346 n347 (q348.1, q348.2.1, q348.2.2) n349 n350 b351 r342.2)
else
((callF Try.prog 23 #[.slice q296.1 q296.2.1 q296.2.2, .int .i64 n307] (World.drew w318)).bind fun r331 =>
(Ev.asAgg 8 r331.1).bind fun l332 =>
(asI .i64 (l332.getD 0 undef)).bind fun n333 =>
(asI .i64 (l332.getD 1 undef)).bind fun n334 =>
(asI .u64 (l332.getD 2 undef)).bind fun n335 =>
(asI .i64 (l332.getD 3 undef)).bind fun n336 =>
(asSl (l332.getD 4 undef)).bind fun q337 =>
(asI .i64 (l332.getD 5 undef)).bind fun n338 =>
(asI .u64 (l332.getD 6 undef)).bind fun n339 =>
(asB (l332.getD 7 undef)).bind fun b340 =>
(ldN r331.2 (⟨r308.2.heap.size, 0, none⟩) 0 8).bind fun l353 =>
(asI .i64 (l353.getD 0 undef)).bind fun n354 =>
(asI .i64 (l353.getD 1 undef)).bind fun n355 =>
(asI .u64 (l353.getD 2 undef)).bind fun n356 =>
(asI .i64 (l353.getD 3 undef)).bind fun n357 =>
(asSl (l353.getD 4 undef)).bind fun q358 =>
(asI .i64 (l353.getD 5 undef)).bind fun n359 =>
(asI .u64 (l353.getD 6 undef)).bind fun n360 =>
(asB (l353.getD 7 undef)).bind fun b361 =>
g3_j352 s303 p2 q296 n307 r308 u0 s7 r295 a305 n310 n311 n312 n313 q314 n315 n316 b317 w318 n354 n355 n356 n357 (q358.1, q358.2.1, q358.2.2) n359 n360 b361 n333 n334 n335 n336 (q337.1, q337.2.1, q337.2.2) n338 n339 b340 r331.2))
else
(some ((.exit 5), (s303.1, s303.2), w304))

noncomputable def g3_K399 (p2 : Option Addr) (u0 : Option Addr × Nat × Nat) : Exit → Env → World → Option (Exit × (Bool × (Option Addr × Nat × Nat) × Int) × World) :=
  blkK 5 (g3_K68 p2 u0)

/-- the loop, from a state on -/
noncomputable def g3_l302 (p2 : Option Addr) (q296 : Option Addr × Nat × Nat) (u0 : Option Addr × Nat × Nat) (s7 : Bool × (Option Addr × Nat × Nat) × Int) (r295 : Value × World) (s : Bool × Int) (w : World) : Option (Exit × (Bool × (Option Addr × Nat × Nat) × Int) × World) :=
  loopM Try.prog 202 3 g3_ann (cAt [1, 1, 1, 1, 0, 1, 0, 0, 1, 1, 0, 0, 1, 1, 1, 1, 1, 1, 1, 0, 0] (bodyOf Try.f3)) [0, 1, 1, 1, 1, 1, 1, 1, 0, 0, 1, 1, 0, 0, 1, 0, 1, 1, 1, 1] (g3_K399 p2 u0) ((g3_l302_cs p2 q296 u0 s7 r295) ++ sputs [(2, .b), (176, .i .i64)] s) w

/-- behind the loop, left by x5 -/
noncomputable def g3_l302_x5 (q296 : Option Addr × Nat × Nat) (s7 : Bool × (Option Addr × Nat × Nat) × Int) (t400 : Bool × Int) (w401 : World) : Option (Exit × (Bool × (Option Addr × Nat × Nat) × Int) × World) :=
some (.normal, (t400.1, (q296.1, q296.2.1, q296.2.2), (IntKind.i64.wrap (s7.2.2 + 1))), w401)

def g3_l409_cs (p2 : Option Addr) (s7 : Bool × (Option Addr × Nat × Nat) × Int) (u0 : Option Addr × Nat × Nat) (r273 : Value × World) : List (Nat × Value) := ([(3, .pointer p2), (4, .slice s7.2.1.1 s7.2.1.2.1 s7.2.1.2.2), (26, .slice u0.1 u0.2.1 u0.2.2), (27, .int .i64 (u0.2.1 : Int)), (28, .int .i64 s7.2.2), (174, .slice (some (⟨r273.2.heap.size, 0, none⟩)) 2 2), (175, .int .i64 2)] : List (Nat × Value))

noncomputable def g3_K500 (p2 : Option Addr) (s7 : Bool × (Option Addr × Nat × Nat) × Int) (u0 : Option Addr × Nat × Nat) (r273 : Value × World) : Exit → Env → World → Option (Exit × (Bool × Int) × World) :=
  fun e ρ w => ((List.map (·.1) (g3_l409_cs p2 s7 u0 r273)).mapM ρ).bind fun _ => loopK [(2, .b), (176, .i .i64)] e ρ w

noncomputable def g3_K501 (p2 : Option Addr) (s7 : Bool × (Option Addr × Nat × Nat) × Int) (u0 : Option Addr × Nat × Nat) (r273 : Value × World) : Exit → Env → World → Option (Exit × (Bool × Int) × World) :=
  seqK (ev Try.prog 202 3 g3_ann (cAt [1, 1, 1, 1, 0, 1, 0, 0, 1, 1, 0, 0, 1, 1, 1, 1, 1, 1, 1, 0, 0, 1, 1, 1] (bodyOf Try.f3)) [1, 1, 1, 0, 0, 1, 1, 1, 1, 1, 1, 1, 0, 0, 1, 1, 0, 0, 1, 0, 1, 1, 1, 1] (g3_K500 p2 s7 u0 r273)) (g3_K500 p2 s7 u0 r273)

noncomputable def g3_K502 (p2 : Option Addr) (s7 : Bool × (Option Addr × Nat × Nat) × Int) (u0 : Option Addr × Nat × Nat) (r273 : Value × World) : Exit → Env → World → Option (Exit × (Bool × Int) × World) :=
  blkK 6 (g3_K501 p2 s7 u0 r273)

noncomputable def g3_K503 (p2 : Option Addr) (s7 : Bool × (Option Addr × Nat × Nat) × Int) (u0 : Option Addr × Nat × Nat) (r273 : Value × World) : Exit → Env → World → Option (Exit × (Bool × Int) × World) :=
  blkK 7 (g3_K502 p2 s7 u0 r273)

def g3_l493_cs (s410 : Bool × Int) (p2 : Option Addr) (s7 : Bool × (Option Addr × Nat × Nat) × Int) (r415 : Value × World) (u0 : Option Addr × Nat × Nat) (r273 : Value × World) (q491 : Option Addr × Nat × Nat) : List (Nat × Value) := ([(2, .bool s410.1), (3, .pointer p2), (4, .slice s7.2.1.1 s7.2.1.2.1 s7.2.1.2.2), (17, .pointer (some (⟨r415.2.heap.size, 0, none⟩))), (26, .slice u0.1 u0.2.1 u0.2.2), (27, .int .i64 (u0.2.1 : Int)), (28, .int .i64 s7.2.2), (174, .slice (some (⟨r273.2.heap.size, 0, none⟩)) 2 2), (175, .int .i64 2), (176, .int .i64 s410.2), (191, .int .i64 (q491.2.1 : Int))] : List (Nat × Value))

/-- the loop, from a state on -/
noncomputable def g3_l493 (s410 : Bool × Int) (p2 : Option Addr) (s7 : Bool × (Option Addr × Nat × Nat) × Int) (r415 : Value × World) (u0 : Option Addr × Nat × Nat) (r273 : Value × World) (q491 : Option Addr × Nat × Nat) (s : Int) (w : World) : Option (Exit × (Bool × Int) × World) :=
  loopM Try.prog 202 3 g3_ann (cAt [1, 1, 1, 1, 0, 1, 0, 0, 1, 1, 0, 0, 1, 1, 1, 1, 1, 1, 1, 0, 0, 1, 1, 0, 0, 1, 1, 1, 1, 0, 0] (bodyOf Try.f3)) [0, 1, 1, 1, 1, 0, 0, 1, 1, 0, 0, 1, 1, 1, 1, 1, 1, 1, 0, 0, 1, 1, 0, 0, 1, 0, 1, 1, 1, 1] (g3_K503 p2 s7 u0 r273) ((g3_l493_cs s410 p2 s7 r415 u0 r273 q491) ++ sputs [(192, .i .i64)] s) w

noncomputable def g3_j459 (s410 : Bool × Int) (p2 : Option Addr) (s7 : Bool × (Option Addr × Nat × Nat) × Int) (n414 : Int) (r415 : Value × World) (u0 : Option Addr × Nat × Nat) (r273 : Value × World) (a412 : Addr) (n417 : Int) (n418 : Int) (n419 : Int) (n420 : Int) (q421 : Option Addr × Nat × Nat) (n422 : Int) (n423 : Int) (b424 : Bool) (w425 : World) (x469 : Int) (x470 : Int) (x471 : Int) (x472 : Int) (x473 : Option Addr × Nat × Nat) (x474 : Int) (x475 : Int) (x476 : Bool) (x477 : Int) (x478 : Int) (x479 : Int) (x480 : Int) (x481 : Option Addr × Nat × Nat) (x482 : Int) (x483 : Int) (x484 : Bool) (w485 : World) : Option (Exit × (Bool × Int) × World) :=
(callF Try.prog 22 #[.agg #[.int .i64 x469, .int .i64 x470, .int .u64 x471, .int .i64 x472, .slice x473.1 x473.2.1 x473.2.2, .int .i64 x474, .int .u64 x475, .bool x476], .agg #[.int .i64 x477, .int .i64 x478, .int .u64 x479, .int .i64 x480, .slice x481.1 x481.2.1 x481.2.2, .int .i64 x482, .int .u64 x483, .bool x484]] w485).bind fun r486 =>
(asB r486.1).bind fun b487 =>
if (!b487) = true then
(some (.ret, (false, s410.2), r486.2))
else
((World.cell? r486.2 (Addr.add (⟨r415.2.heap.size, 0, none⟩) 4)).bind fun v490 =>
(asSl v490).bind fun q491 =>
g3_l493 s410 p2 s7 r415 u0 r273 q491 0 r486.2)

/-- the round of a loop (penstock/penstocklaw15.TxnPlays) -/
noncomputable def g3_l493_b (q491 : Option Addr × Nat × Nat) (r415 : Value × World) (s410 : Bool × Int) (p2 : Option Addr) (s7 : Bool × (Option Addr × Nat × Nat) × Int) (u0 : Option Addr × Nat × Nat) (r273 : Value × World) (s494 : Int) (w495 : World) : Option (Exit × (Int) × World) :=
if (decide ((s494 : Int) < (q491.2.1 : Int))) = true then
((World.cell? w495 (Addr.add (⟨r415.2.heap.size, 0, none⟩) 4)).bind fun v496 =>
(asSl v496).bind fun q497 =>
(idxA q497.1 q497.2.1 1 s494).bind fun a498 =>
(st1 w495 a498 (.int .i64 9)).bind fun w499 =>
some (.normal, (IntKind.i64.wrap (s494 + 1)), w499))
else
(some ((.exit 7), s494, w495))

/-- behind the loop, left by x7 -/
noncomputable def g3_l493_x7 (s410 : Bool × Int) (t504 : Int) (w505 : World) : Option (Exit × (Bool × Int) × World) :=
some (.normal, (s410.1, (IntKind.i64.wrap (s410.2 + 1))), w505)

/-- the round of a loop (penstock/penstocklaw15.TxnPlays) -/
noncomputable def g3_l409_b (r273 : Value × World) (p2 : Option Addr) (s7 : Bool × (Option Addr × Nat × Nat) × Int) (u0 : Option Addr × Nat × Nat) (s410 : Bool × Int) (w411 : World) : Option (Exit × (Bool × Int) × World) :=
if (decide ((s410.2 : Int) < 2)) = true then
((idxA (some (⟨r273.2.heap.size, 0, none⟩)) 2 1 s410.2).bind fun a412 =>
(World.cell? w411 a412).bind fun v413 =>
(asI .i64 v413).bind fun n414 =>
(callF Try.prog 21 #[.pointer p2, .int .i64 n414] w411).bind fun r415 =>
(Ev.asAgg 8 r415.1).bind fun l416 =>
(asI .i64 (l416.getD 0 undef)).bind fun n417 =>
(asI .i64 (l416.getD 1 undef)).bind fun n418 =>
(asI .u64 (l416.getD 2 undef)).bind fun n419 =>
(asI .i64 (l416.getD 3 undef)).bind fun n420 =>
(asSl (l416.getD 4 undef)).bind fun q421 =>
(asI .i64 (l416.getD 5 undef)).bind fun n422 =>
(asI .u64 (l416.getD 6 undef)).bind fun n423 =>
(asB (l416.getD 7 undef)).bind fun b424 =>
(stL (World.alloc r415.2 (.cells #[.int .i64 0, .int .i64 0, .int .u64 0, .int .i64 0, .slice none 0 0, .int .i64 0, .int .u64 0, .bool false] 46)) (⟨r415.2.heap.size, 0, none⟩) [.int .i64 n417, .int .i64 n418, .int .u64 n419, .int .i64 n420, .slice q421.1 q421.2.1 q421.2.2, .int .i64 n422, .int .u64 n423, .bool b424] 0).bind fun w425 =>
if (ahd (Region.schedule true (opsOf (cAt [1, 1, 1, 1, 0, 1, 0, 0, 1, 1, 0, 0, 1, 1, 1, 1, 1, 1, 1, 0, 0, 1, 1, 0, 0, 1, 1, 0, 0] (bodyOf Try.f3))) (World.tape w425 (World.drawn w425) (.order 3 37))) 0 3 && true) = true then
((ldN (World.drew w425) (⟨r415.2.heap.size, 0, none⟩) 0 8).bind fun l428 =>
(asI .i64 (l428.getD 0 undef)).bind fun n429 =>
(asI .i64 (l428.getD 1 undef)).bind fun n430 =>
(asI .u64 (l428.getD 2 undef)).bind fun n431 =>
(asI .i64 (l428.getD 3 undef)).bind fun n432 =>
(asSl (l428.getD 4 undef)).bind fun q433 =>
(asI .i64 (l428.getD 5 undef)).bind fun n434 =>
(asI .u64 (l428.getD 6 undef)).bind fun n435 =>
(asB (l428.getD 7 undef)).bind fun b436 =>
(callF Try.prog 23 #[.slice s7.2.1.1 s7.2.1.2.1 s7.2.1.2.2, .int .i64 n414] (World.drew w425)).bind fun r449 =>
(Ev.asAgg 8 r449.1).bind fun l450 =>
(asI .i64 (l450.getD 0 undef)).bind fun n451 =>
(asI .i64 (l450.getD 1 undef)).bind fun n452 =>
(asI .u64 (l450.getD 2 undef)).bind fun n453 =>
(asI .i64 (l450.getD 3 undef)).bind fun n454 =>
(asSl (l450.getD 4 undef)).bind fun q455 =>
(asI .i64 (l450.getD 5 undef)).bind fun n456 =>
(asI .u64 (l450.getD 6 undef)).bind fun n457 =>
(asB (l450.getD 7 undef)).bind fun b458 =>
g3_j459 s410 p2 s7 n414 r415 u0 r273 a412 n417 n418 n419 n420 q421 n422 n423 b424 w425 n429 n430 n431 n432 (q433.1, q433.2.1, q433.2.2) n434 n435 b436 n451 n452 n453 n454 (q455.1, q455.2.1, q455.2.2) n456 n457 b458 r449.2)
else
((callF Try.prog 23 #[.slice s7.2.1.1 s7.2.1.2.1 s7.2.1.2.2, .int .i64 n414] (World.drew w425)).bind fun r438 =>
(Ev.asAgg 8 r438.1).bind fun l439 =>
(asI .i64 (l439.getD 0 undef)).bind fun n440 =>
(asI .i64 (l439.getD 1 undef)).bind fun n441 =>
(asI .u64 (l439.getD 2 undef)).bind fun n442 =>
(asI .i64 (l439.getD 3 undef)).bind fun n443 =>
(asSl (l439.getD 4 undef)).bind fun q444 =>
(asI .i64 (l439.getD 5 undef)).bind fun n445 =>
(asI .u64 (l439.getD 6 undef)).bind fun n446 =>
(asB (l439.getD 7 undef)).bind fun b447 =>
(ldN r438.2 (⟨r415.2.heap.size, 0, none⟩) 0 8).bind fun l460 =>
(asI .i64 (l460.getD 0 undef)).bind fun n461 =>
(asI .i64 (l460.getD 1 undef)).bind fun n462 =>
(asI .u64 (l460.getD 2 undef)).bind fun n463 =>
(asI .i64 (l460.getD 3 undef)).bind fun n464 =>
(asSl (l460.getD 4 undef)).bind fun q465 =>
(asI .i64 (l460.getD 5 undef)).bind fun n466 =>
(asI .u64 (l460.getD 6 undef)).bind fun n467 =>
(asB (l460.getD 7 undef)).bind fun b468 =>
g3_j459 s410 p2 s7 n414 r415 u0 r273 a412 n417 n418 n419 n420 q421 n422 n423 b424 w425 n461 n462 n463 n464 (q465.1, q465.2.1, q465.2.2) n466 n467 b468 n440 n441 n442 n443 (q444.1, q444.2.1, q444.2.2) n445 n446 b447 r438.2))
else
(some ((.exit 5), (s410.1, s410.2), w411))

noncomputable def g3_K506 (p2 : Option Addr) (u0 : Option Addr × Nat × Nat) : Exit → Env → World → Option (Exit × (Bool × (Option Addr × Nat × Nat) × Int) × World) :=
  blkK 5 (g3_K68 p2 u0)

/-- the loop, from a state on -/
noncomputable def g3_l409 (p2 : Option Addr) (s7 : Bool × (Option Addr × Nat × Nat) × Int) (u0 : Option Addr × Nat × Nat) (r273 : Value × World) (s : Bool × Int) (w : World) : Option (Exit × (Bool × (Option Addr × Nat × Nat) × Int) × World) :=
  loopM Try.prog 202 3 g3_ann (cAt [1, 1, 1, 1, 0, 1, 0, 0, 1, 1, 0, 0, 1, 1, 1, 1, 1, 1, 1, 0, 0] (bodyOf Try.f3)) [0, 1, 1, 1, 1, 1, 1, 1, 0, 0, 1, 1, 0, 0, 1, 0, 1, 1, 1, 1] (g3_K506 p2 u0) ((g3_l409_cs p2 s7 u0 r273) ++ sputs [(2, .b), (176, .i .i64)] s) w

/-- behind the loop, left by x5 -/
noncomputable def g3_l409_x5 (s7 : Bool × (Option Addr × Nat × Nat) × Int) (t507 : Bool × Int) (w508 : World) : Option (Exit × (Bool × (Option Addr × Nat × Nat) × Int) × World) :=
some (.normal, (t507.1, (s7.2.1.1, s7.2.1.2.1, s7.2.1.2.2), (IntKind.i64.wrap (s7.2.2 + 1))), w508)

def g3_l516_cs (p2 : Option Addr) (s7 : Bool × (Option Addr × Nat × Nat) × Int) (u0 : Option Addr × Nat × Nat) (r273 : Value × World) : List (Nat × Value) := ([(3, .pointer p2), (4, .slice s7.2.1.1 s7.2.1.2.1 s7.2.1.2.2), (26, .slice u0.1 u0.2.1 u0.2.2), (27, .int .i64 (u0.2.1 : Int)), (28, .int .i64 s7.2.2), (174, .slice (some (⟨r273.2.heap.size, 0, none⟩)) 2 2), (175, .int .i64 2)] : List (Nat × Value))

noncomputable def g3_K607 (p2 : Option Addr) (s7 : Bool × (Option Addr × Nat × Nat) × Int) (u0 : Option Addr × Nat × Nat) (r273 : Value × World) : Exit → Env → World → Option (Exit × (Bool × Int) × World) :=
  fun e ρ w => ((List.map (·.1) (g3_l516_cs p2 s7 u0 r273)).mapM ρ).bind fun _ => loopK [(2, .b), (176, .i .i64)] e ρ w

noncomputable def g3_K608 (p2 : Option Addr) (s7 : Bool × (Option Addr × Nat × Nat) × Int) (u0 : Option Addr × Nat × Nat) (r273 : Value × World) : Exit → Env → World → Option (Exit × (Bool × Int) × World) :=
  seqK (ev Try.prog 202 3 g3_ann (cAt [1, 1, 1, 1, 0, 1, 0, 0, 1, 1, 0, 0, 1, 1, 1, 1, 1, 1, 1, 0, 0, 1, 1, 1] (bodyOf Try.f3)) [1, 1, 1, 0, 0, 1, 1, 1, 1, 1, 1, 1, 0, 0, 1, 1, 0, 0, 1, 0, 1, 1, 1, 1] (g3_K607 p2 s7 u0 r273)) (g3_K607 p2 s7 u0 r273)

noncomputable def g3_K609 (p2 : Option Addr) (s7 : Bool × (Option Addr × Nat × Nat) × Int) (u0 : Option Addr × Nat × Nat) (r273 : Value × World) : Exit → Env → World → Option (Exit × (Bool × Int) × World) :=
  blkK 6 (g3_K608 p2 s7 u0 r273)

noncomputable def g3_K610 (p2 : Option Addr) (s7 : Bool × (Option Addr × Nat × Nat) × Int) (u0 : Option Addr × Nat × Nat) (r273 : Value × World) : Exit → Env → World → Option (Exit × (Bool × Int) × World) :=
  blkK 7 (g3_K609 p2 s7 u0 r273)

def g3_l600_cs (s517 : Bool × Int) (p2 : Option Addr) (s7 : Bool × (Option Addr × Nat × Nat) × Int) (r522 : Value × World) (u0 : Option Addr × Nat × Nat) (r273 : Value × World) (q598 : Option Addr × Nat × Nat) : List (Nat × Value) := ([(2, .bool s517.1), (3, .pointer p2), (4, .slice s7.2.1.1 s7.2.1.2.1 s7.2.1.2.2), (17, .pointer (some (⟨r522.2.heap.size, 0, none⟩))), (26, .slice u0.1 u0.2.1 u0.2.2), (27, .int .i64 (u0.2.1 : Int)), (28, .int .i64 s7.2.2), (174, .slice (some (⟨r273.2.heap.size, 0, none⟩)) 2 2), (175, .int .i64 2), (176, .int .i64 s517.2), (191, .int .i64 (q598.2.1 : Int))] : List (Nat × Value))

/-- the loop, from a state on -/
noncomputable def g3_l600 (s517 : Bool × Int) (p2 : Option Addr) (s7 : Bool × (Option Addr × Nat × Nat) × Int) (r522 : Value × World) (u0 : Option Addr × Nat × Nat) (r273 : Value × World) (q598 : Option Addr × Nat × Nat) (s : Int) (w : World) : Option (Exit × (Bool × Int) × World) :=
  loopM Try.prog 202 3 g3_ann (cAt [1, 1, 1, 1, 0, 1, 0, 0, 1, 1, 0, 0, 1, 1, 1, 1, 1, 1, 1, 0, 0, 1, 1, 0, 0, 1, 1, 1, 1, 0, 0] (bodyOf Try.f3)) [0, 1, 1, 1, 1, 0, 0, 1, 1, 0, 0, 1, 1, 1, 1, 1, 1, 1, 0, 0, 1, 1, 0, 0, 1, 0, 1, 1, 1, 1] (g3_K610 p2 s7 u0 r273) ((g3_l600_cs s517 p2 s7 r522 u0 r273 q598) ++ sputs [(192, .i .i64)] s) w

noncomputable def g3_j566 (s517 : Bool × Int) (p2 : Option Addr) (s7 : Bool × (Option Addr × Nat × Nat) × Int) (n521 : Int) (r522 : Value × World) (u0 : Option Addr × Nat × Nat) (r273 : Value × World) (a519 : Addr) (n524 : Int) (n525 : Int) (n526 : Int) (n527 : Int) (q528 : Option Addr × Nat × Nat) (n529 : Int) (n530 : Int) (b531 : Bool) (w532 : World) (x576 : Int) (x577 : Int) (x578 : Int) (x579 : Int) (x580 : Option Addr × Nat × Nat) (x581 : Int) (x582 : Int) (x583 : Bool) (x584 : Int) (x585 : Int) (x586 : Int) (x587 : Int) (x588 : Option Addr × Nat × Nat) (x589 : Int) (x590 : Int) (x591 : Bool) (w592 : World) : Option (Exit × (Bool × Int) × World) :=
(callF Try.prog 22 #[.agg #[.int .i64 x576, .int .i64 x577, .int .u64 x578, .int .i64 x579, .slice x580.1 x580.2.1 x580.2.2, .int .i64 x581, .int .u64 x582, .bool x583], .agg #[.int .i64 x584, .int .i64 x585, .int .u64 x586, .int .i64 x587, .slice x588.1 x588.2.1 x588.2.2, .int .i64 x589, .int .u64 x590, .bool x591]] w592).bind fun r593 =>
(asB r593.1).bind fun b594 =>
if (!b594) = true then
(some (.ret, (false, s517.2), r593.2))
else
((World.cell? r593.2 (Addr.add (⟨r522.2.heap.size, 0, none⟩) 4)).bind fun v597 =>
(asSl v597).bind fun q598 =>
g3_l600 s517 p2 s7 r522 u0 r273 q598 0 r593.2)

/-- the round of a loop (penstock/penstocklaw15.TxnPlays) -/
noncomputable def g3_l600_b (q598 : Option Addr × Nat × Nat) (r522 : Value × World) (s517 : Bool × Int) (p2 : Option Addr) (s7 : Bool × (Option Addr × Nat × Nat) × Int) (u0 : Option Addr × Nat × Nat) (r273 : Value × World) (s601 : Int) (w602 : World) : Option (Exit × (Int) × World) :=
if (decide ((s601 : Int) < (q598.2.1 : Int))) = true then
((World.cell? w602 (Addr.add (⟨r522.2.heap.size, 0, none⟩) 4)).bind fun v603 =>
(asSl v603).bind fun q604 =>
(idxA q604.1 q604.2.1 1 s601).bind fun a605 =>
(st1 w602 a605 (.int .i64 9)).bind fun w606 =>
some (.normal, (IntKind.i64.wrap (s601 + 1)), w606))
else
(some ((.exit 7), s601, w602))

/-- behind the loop, left by x7 -/
noncomputable def g3_l600_x7 (s517 : Bool × Int) (t611 : Int) (w612 : World) : Option (Exit × (Bool × Int) × World) :=
some (.normal, (s517.1, (IntKind.i64.wrap (s517.2 + 1))), w612)

/-- the round of a loop (penstock/penstocklaw15.TxnPlays) -/
noncomputable def g3_l516_b (r273 : Value × World) (p2 : Option Addr) (s7 : Bool × (Option Addr × Nat × Nat) × Int) (u0 : Option Addr × Nat × Nat) (s517 : Bool × Int) (w518 : World) : Option (Exit × (Bool × Int) × World) :=
if (decide ((s517.2 : Int) < 2)) = true then
((idxA (some (⟨r273.2.heap.size, 0, none⟩)) 2 1 s517.2).bind fun a519 =>
(World.cell? w518 a519).bind fun v520 =>
(asI .i64 v520).bind fun n521 =>
(callF Try.prog 21 #[.pointer p2, .int .i64 n521] w518).bind fun r522 =>
(Ev.asAgg 8 r522.1).bind fun l523 =>
(asI .i64 (l523.getD 0 undef)).bind fun n524 =>
(asI .i64 (l523.getD 1 undef)).bind fun n525 =>
(asI .u64 (l523.getD 2 undef)).bind fun n526 =>
(asI .i64 (l523.getD 3 undef)).bind fun n527 =>
(asSl (l523.getD 4 undef)).bind fun q528 =>
(asI .i64 (l523.getD 5 undef)).bind fun n529 =>
(asI .u64 (l523.getD 6 undef)).bind fun n530 =>
(asB (l523.getD 7 undef)).bind fun b531 =>
(stL (World.alloc r522.2 (.cells #[.int .i64 0, .int .i64 0, .int .u64 0, .int .i64 0, .slice none 0 0, .int .i64 0, .int .u64 0, .bool false] 46)) (⟨r522.2.heap.size, 0, none⟩) [.int .i64 n524, .int .i64 n525, .int .u64 n526, .int .i64 n527, .slice q528.1 q528.2.1 q528.2.2, .int .i64 n529, .int .u64 n530, .bool b531] 0).bind fun w532 =>
if (ahd (Region.schedule true (opsOf (cAt [1, 1, 1, 1, 0, 1, 0, 0, 1, 1, 0, 0, 1, 1, 1, 1, 1, 1, 1, 0, 0, 1, 1, 0, 0, 1, 1, 0, 0] (bodyOf Try.f3))) (World.tape w532 (World.drawn w532) (.order 3 37))) 0 3 && true) = true then
((ldN (World.drew w532) (⟨r522.2.heap.size, 0, none⟩) 0 8).bind fun l535 =>
(asI .i64 (l535.getD 0 undef)).bind fun n536 =>
(asI .i64 (l535.getD 1 undef)).bind fun n537 =>
(asI .u64 (l535.getD 2 undef)).bind fun n538 =>
(asI .i64 (l535.getD 3 undef)).bind fun n539 =>
(asSl (l535.getD 4 undef)).bind fun q540 =>
(asI .i64 (l535.getD 5 undef)).bind fun n541 =>
(asI .u64 (l535.getD 6 undef)).bind fun n542 =>
(asB (l535.getD 7 undef)).bind fun b543 =>
(callF Try.prog 23 #[.slice s7.2.1.1 s7.2.1.2.1 s7.2.1.2.2, .int .i64 n521] (World.drew w532)).bind fun r556 =>
(Ev.asAgg 8 r556.1).bind fun l557 =>
(asI .i64 (l557.getD 0 undef)).bind fun n558 =>
(asI .i64 (l557.getD 1 undef)).bind fun n559 =>
(asI .u64 (l557.getD 2 undef)).bind fun n560 =>
(asI .i64 (l557.getD 3 undef)).bind fun n561 =>
(asSl (l557.getD 4 undef)).bind fun q562 =>
(asI .i64 (l557.getD 5 undef)).bind fun n563 =>
(asI .u64 (l557.getD 6 undef)).bind fun n564 =>
(asB (l557.getD 7 undef)).bind fun b565 =>
g3_j566 s517 p2 s7 n521 r522 u0 r273 a519 n524 n525 n526 n527 q528 n529 n530 b531 w532 n536 n537 n538 n539 (q540.1, q540.2.1, q540.2.2) n541 n542 b543 n558 n559 n560 n561 (q562.1, q562.2.1, q562.2.2) n563 n564 b565 r556.2)
else
((callF Try.prog 23 #[.slice s7.2.1.1 s7.2.1.2.1 s7.2.1.2.2, .int .i64 n521] (World.drew w532)).bind fun r545 =>
(Ev.asAgg 8 r545.1).bind fun l546 =>
(asI .i64 (l546.getD 0 undef)).bind fun n547 =>
(asI .i64 (l546.getD 1 undef)).bind fun n548 =>
(asI .u64 (l546.getD 2 undef)).bind fun n549 =>
(asI .i64 (l546.getD 3 undef)).bind fun n550 =>
(asSl (l546.getD 4 undef)).bind fun q551 =>
(asI .i64 (l546.getD 5 undef)).bind fun n552 =>
(asI .u64 (l546.getD 6 undef)).bind fun n553 =>
(asB (l546.getD 7 undef)).bind fun b554 =>
(ldN r545.2 (⟨r522.2.heap.size, 0, none⟩) 0 8).bind fun l567 =>
(asI .i64 (l567.getD 0 undef)).bind fun n568 =>
(asI .i64 (l567.getD 1 undef)).bind fun n569 =>
(asI .u64 (l567.getD 2 undef)).bind fun n570 =>
(asI .i64 (l567.getD 3 undef)).bind fun n571 =>
(asSl (l567.getD 4 undef)).bind fun q572 =>
(asI .i64 (l567.getD 5 undef)).bind fun n573 =>
(asI .u64 (l567.getD 6 undef)).bind fun n574 =>
(asB (l567.getD 7 undef)).bind fun b575 =>
g3_j566 s517 p2 s7 n521 r522 u0 r273 a519 n524 n525 n526 n527 q528 n529 n530 b531 w532 n568 n569 n570 n571 (q572.1, q572.2.1, q572.2.2) n573 n574 b575 n547 n548 n549 n550 (q551.1, q551.2.1, q551.2.2) n552 n553 b554 r545.2))
else
(some ((.exit 5), (s517.1, s517.2), w518))

noncomputable def g3_K613 (p2 : Option Addr) (u0 : Option Addr × Nat × Nat) : Exit → Env → World → Option (Exit × (Bool × (Option Addr × Nat × Nat) × Int) × World) :=
  blkK 5 (g3_K68 p2 u0)

/-- the loop, from a state on -/
noncomputable def g3_l516 (p2 : Option Addr) (s7 : Bool × (Option Addr × Nat × Nat) × Int) (u0 : Option Addr × Nat × Nat) (r273 : Value × World) (s : Bool × Int) (w : World) : Option (Exit × (Bool × (Option Addr × Nat × Nat) × Int) × World) :=
  loopM Try.prog 202 3 g3_ann (cAt [1, 1, 1, 1, 0, 1, 0, 0, 1, 1, 0, 0, 1, 1, 1, 1, 1, 1, 1, 0, 0] (bodyOf Try.f3)) [0, 1, 1, 1, 1, 1, 1, 1, 0, 0, 1, 1, 0, 0, 1, 0, 1, 1, 1, 1] (g3_K613 p2 u0) ((g3_l516_cs p2 s7 u0 r273) ++ sputs [(2, .b), (176, .i .i64)] s) w

/-- behind the loop, left by x5 -/
noncomputable def g3_l516_x5 (s7 : Bool × (Option Addr × Nat × Nat) × Int) (t614 : Bool × Int) (w615 : World) : Option (Exit × (Bool × (Option Addr × Nat × Nat) × Int) × World) :=
some (.normal, (t614.1, (s7.2.1.1, s7.2.1.2.1, s7.2.1.2.2), (IntKind.i64.wrap (s7.2.2 + 1))), w615)

def g3_l705_cs (p2 : Option Addr) (q699 : Option Addr × Nat × Nat) (u0 : Option Addr × Nat × Nat) (s7 : Bool × (Option Addr × Nat × Nat) × Int) (r698 : Value × World) : List (Nat × Value) := ([(3, .pointer p2), (4, .slice q699.1 q699.2.1 q699.2.2), (26, .slice u0.1 u0.2.1 u0.2.2), (27, .int .i64 (u0.2.1 : Int)), (28, .int .i64 s7.2.2), (174, .slice (some (⟨r698.2.heap.size, 0, none⟩)) 2 2), (175, .int .i64 2)] : List (Nat × Value))

noncomputable def g3_K796 (p2 : Option Addr) (q699 : Option Addr × Nat × Nat) (u0 : Option Addr × Nat × Nat) (s7 : Bool × (Option Addr × Nat × Nat) × Int) (r698 : Value × World) : Exit → Env → World → Option (Exit × (Bool × Int) × World) :=
  fun e ρ w => ((List.map (·.1) (g3_l705_cs p2 q699 u0 s7 r698)).mapM ρ).bind fun _ => loopK [(2, .b), (176, .i .i64)] e ρ w

noncomputable def g3_K797 (p2 : Option Addr) (q699 : Option Addr × Nat × Nat) (u0 : Option Addr × Nat × Nat) (s7 : Bool × (Option Addr × Nat × Nat) × Int) (r698 : Value × World) : Exit → Env → World → Option (Exit × (Bool × Int) × World) :=
  seqK (ev Try.prog 202 3 g3_ann (cAt [1, 1, 1, 1, 0, 1, 0, 0, 1, 1, 0, 0, 1, 1, 1, 1, 1, 1, 1, 0, 0, 1, 1, 1] (bodyOf Try.f3)) [1, 1, 1, 0, 0, 1, 1, 1, 1, 1, 1, 1, 0, 0, 1, 1, 0, 0, 1, 0, 1, 1, 1, 1] (g3_K796 p2 q699 u0 s7 r698)) (g3_K796 p2 q699 u0 s7 r698)

noncomputable def g3_K798 (p2 : Option Addr) (q699 : Option Addr × Nat × Nat) (u0 : Option Addr × Nat × Nat) (s7 : Bool × (Option Addr × Nat × Nat) × Int) (r698 : Value × World) : Exit → Env → World → Option (Exit × (Bool × Int) × World) :=
  blkK 6 (g3_K797 p2 q699 u0 s7 r698)

noncomputable def g3_K799 (p2 : Option Addr) (q699 : Option Addr × Nat × Nat) (u0 : Option Addr × Nat × Nat) (s7 : Bool × (Option Addr × Nat × Nat) × Int) (r698 : Value × World) : Exit → Env → World → Option (Exit × (Bool × Int) × World) :=
  blkK 7 (g3_K798 p2 q699 u0 s7 r698)

def g3_l789_cs (s706 : Bool × Int) (p2 : Option Addr) (q699 : Option Addr × Nat × Nat) (r711 : Value × World) (u0 : Option Addr × Nat × Nat) (s7 : Bool × (Option Addr × Nat × Nat) × Int) (r698 : Value × World) (q787 : Option Addr × Nat × Nat) : List (Nat × Value) := ([(2, .bool s706.1), (3, .pointer p2), (4, .slice q699.1 q699.2.1 q699.2.2), (17, .pointer (some (⟨r711.2.heap.size, 0, none⟩))), (26, .slice u0.1 u0.2.1 u0.2.2), (27, .int .i64 (u0.2.1 : Int)), (28, .int .i64 s7.2.2), (174, .slice (some (⟨r698.2.heap.size, 0, none⟩)) 2 2), (175, .int .i64 2), (176, .int .i64 s706.2), (191, .int .i64 (q787.2.1 : Int))] : List (Nat × Value))

/-- the loop, from a state on -/
noncomputable def g3_l789 (s706 : Bool × Int) (p2 : Option Addr) (q699 : Option Addr × Nat × Nat) (r711 : Value × World) (u0 : Option Addr × Nat × Nat) (s7 : Bool × (Option Addr × Nat × Nat) × Int) (r698 : Value × World) (q787 : Option Addr × Nat × Nat) (s : Int) (w : World) : Option (Exit × (Bool × Int) × World) :=
  loopM Try.prog 202 3 g3_ann (cAt [1, 1, 1, 1, 0, 1, 0, 0, 1, 1, 0, 0, 1, 1, 1, 1, 1, 1, 1, 0, 0, 1, 1, 0, 0, 1, 1, 1, 1, 0, 0] (bodyOf Try.f3)) [0, 1, 1, 1, 1, 0, 0, 1, 1, 0, 0, 1, 1, 1, 1, 1, 1, 1, 0, 0, 1, 1, 0, 0, 1, 0, 1, 1, 1, 1] (g3_K799 p2 q699 u0 s7 r698) ((g3_l789_cs s706 p2 q699 r711 u0 s7 r698 q787) ++ sputs [(192, .i .i64)] s) w

noncomputable def g3_j755 (s706 : Bool × Int) (p2 : Option Addr) (q699 : Option Addr × Nat × Nat) (n710 : Int) (r711 : Value × World) (u0 : Option Addr × Nat × Nat) (s7 : Bool × (Option Addr × Nat × Nat) × Int) (r698 : Value × World) (a708 : Addr) (n713 : Int) (n714 : Int) (n715 : Int) (n716 : Int) (q717 : Option Addr × Nat × Nat) (n718 : Int) (n719 : Int) (b720 : Bool) (w721 : World) (x765 : Int) (x766 : Int) (x767 : Int) (x768 : Int) (x769 : Option Addr × Nat × Nat) (x770 : Int) (x771 : Int) (x772 : Bool) (x773 : Int) (x774 : Int) (x775 : Int) (x776 : Int) (x777 : Option Addr × Nat × Nat) (x778 : Int) (x779 : Int) (x780 : Bool) (w781 : World) : Option (Exit × (Bool × Int) × World) :=
(callF Try.prog 22 #[.agg #[.int .i64 x765, .int .i64 x766, .int .u64 x767, .int .i64 x768, .slice x769.1 x769.2.1 x769.2.2, .int .i64 x770, .int .u64 x771, .bool x772], .agg #[.int .i64 x773, .int .i64 x774, .int .u64 x775, .int .i64 x776, .slice x777.1 x777.2.1 x777.2.2, .int .i64 x778, .int .u64 x779, .bool x780]] w781).bind fun r782 =>
(asB r782.1).bind fun b783 =>
if (!b783) = true then
(some (.ret, (false, s706.2), r782.2))
else
((World.cell? r782.2 (Addr.add (⟨r711.2.heap.size, 0, none⟩) 4)).bind fun v786 =>
(asSl v786).bind fun q787 =>
g3_l789 s706 p2 q699 r711 u0 s7 r698 q787 0 r782.2)

/-- the round of a loop (penstock/penstocklaw15.TxnPlays) -/
noncomputable def g3_l789_b (q787 : Option Addr × Nat × Nat) (r711 : Value × World) (s706 : Bool × Int) (p2 : Option Addr) (q699 : Option Addr × Nat × Nat) (u0 : Option Addr × Nat × Nat) (s7 : Bool × (Option Addr × Nat × Nat) × Int) (r698 : Value × World) (s790 : Int) (w791 : World) : Option (Exit × (Int) × World) :=
if (decide ((s790 : Int) < (q787.2.1 : Int))) = true then
((World.cell? w791 (Addr.add (⟨r711.2.heap.size, 0, none⟩) 4)).bind fun v792 =>
(asSl v792).bind fun q793 =>
(idxA q793.1 q793.2.1 1 s790).bind fun a794 =>
(st1 w791 a794 (.int .i64 9)).bind fun w795 =>
some (.normal, (IntKind.i64.wrap (s790 + 1)), w795))
else
(some ((.exit 7), s790, w791))

/-- behind the loop, left by x7 -/
noncomputable def g3_l789_x7 (s706 : Bool × Int) (t800 : Int) (w801 : World) : Option (Exit × (Bool × Int) × World) :=
some (.normal, (s706.1, (IntKind.i64.wrap (s706.2 + 1))), w801)

/-- the round of a loop (penstock/penstocklaw15.TxnPlays) -/
noncomputable def g3_l705_b (r698 : Value × World) (p2 : Option Addr) (q699 : Option Addr × Nat × Nat) (u0 : Option Addr × Nat × Nat) (s7 : Bool × (Option Addr × Nat × Nat) × Int) (s706 : Bool × Int) (w707 : World) : Option (Exit × (Bool × Int) × World) :=
if (decide ((s706.2 : Int) < 2)) = true then
((idxA (some (⟨r698.2.heap.size, 0, none⟩)) 2 1 s706.2).bind fun a708 =>
(World.cell? w707 a708).bind fun v709 =>
(asI .i64 v709).bind fun n710 =>
(callF Try.prog 21 #[.pointer p2, .int .i64 n710] w707).bind fun r711 =>
(Ev.asAgg 8 r711.1).bind fun l712 =>
(asI .i64 (l712.getD 0 undef)).bind fun n713 =>
(asI .i64 (l712.getD 1 undef)).bind fun n714 =>
(asI .u64 (l712.getD 2 undef)).bind fun n715 =>
(asI .i64 (l712.getD 3 undef)).bind fun n716 =>
(asSl (l712.getD 4 undef)).bind fun q717 =>
(asI .i64 (l712.getD 5 undef)).bind fun n718 =>
(asI .u64 (l712.getD 6 undef)).bind fun n719 =>
(asB (l712.getD 7 undef)).bind fun b720 =>
(stL (World.alloc r711.2 (.cells #[.int .i64 0, .int .i64 0, .int .u64 0, .int .i64 0, .slice none 0 0, .int .i64 0, .int .u64 0, .bool false] 46)) (⟨r711.2.heap.size, 0, none⟩) [.int .i64 n713, .int .i64 n714, .int .u64 n715, .int .i64 n716, .slice q717.1 q717.2.1 q717.2.2, .int .i64 n718, .int .u64 n719, .bool b720] 0).bind fun w721 =>
if (ahd (Region.schedule true (opsOf (cAt [1, 1, 1, 1, 0, 1, 0, 0, 1, 1, 0, 0, 1, 1, 1, 1, 1, 1, 1, 0, 0, 1, 1, 0, 0, 1, 1, 0, 0] (bodyOf Try.f3))) (World.tape w721 (World.drawn w721) (.order 3 37))) 0 3 && true) = true then
((ldN (World.drew w721) (⟨r711.2.heap.size, 0, none⟩) 0 8).bind fun l724 =>
(asI .i64 (l724.getD 0 undef)).bind fun n725 =>
(asI .i64 (l724.getD 1 undef)).bind fun n726 =>
(asI .u64 (l724.getD 2 undef)).bind fun n727 =>
(asI .i64 (l724.getD 3 undef)).bind fun n728 =>
(asSl (l724.getD 4 undef)).bind fun q729 =>
(asI .i64 (l724.getD 5 undef)).bind fun n730 =>
(asI .u64 (l724.getD 6 undef)).bind fun n731 =>
(asB (l724.getD 7 undef)).bind fun b732 =>
(callF Try.prog 23 #[.slice q699.1 q699.2.1 q699.2.2, .int .i64 n710] (World.drew w721)).bind fun r745 =>
(Ev.asAgg 8 r745.1).bind fun l746 =>
(asI .i64 (l746.getD 0 undef)).bind fun n747 =>
(asI .i64 (l746.getD 1 undef)).bind fun n748 =>
(asI .u64 (l746.getD 2 undef)).bind fun n749 =>
(asI .i64 (l746.getD 3 undef)).bind fun n750 =>
(asSl (l746.getD 4 undef)).bind fun q751 =>
(asI .i64 (l746.getD 5 undef)).bind fun n752 =>
(asI .u64 (l746.getD 6 undef)).bind fun n753 =>
(asB (l746.getD 7 undef)).bind fun b754 =>
g3_j755 s706 p2 q699 n710 r711 u0 s7 r698 a708 n713 n714 n715 n716 q717 n718 n719 b720 w721 n725 n726 n727 n728 (q729.1, q729.2.1, q729.2.2) n730 n731 b732 n747 n748 n749 n750 (q751.1, q751.2.1, q751.2.2) n752 n753 b754 r745.2)
else
((callF Try.prog 23 #[.slice q699.1 q699.2.1 q699.2.2, .int .i64 n710] (World.drew w721)).bind fun r734 =>
(Ev.asAgg 8 r734.1).bind fun l735 =>
(asI .i64 (l735.getD 0 undef)).bind fun n736 =>
(asI .i64 (l735.getD 1 undef)).bind fun n737 =>
(asI .u64 (l735.getD 2 undef)).bind fun n738 =>
(asI .i64 (l735.getD 3 undef)).bind fun n739 =>
(asSl (l735.getD 4 undef)).bind fun q740 =>
(asI .i64 (l735.getD 5 undef)).bind fun n741 =>
(asI .u64 (l735.getD 6 undef)).bind fun n742 =>
(asB (l735.getD 7 undef)).bind fun b743 =>
(ldN r734.2 (⟨r711.2.heap.size, 0, none⟩) 0 8).bind fun l756 =>
(asI .i64 (l756.getD 0 undef)).bind fun n757 =>
(asI .i64 (l756.getD 1 undef)).bind fun n758 =>
(asI .u64 (l756.getD 2 undef)).bind fun n759 =>
(asI .i64 (l756.getD 3 undef)).bind fun n760 =>
(asSl (l756.getD 4 undef)).bind fun q761 =>
(asI .i64 (l756.getD 5 undef)).bind fun n762 =>
(asI .u64 (l756.getD 6 undef)).bind fun n763 =>
(asB (l756.getD 7 undef)).bind fun b764 =>
g3_j755 s706 p2 q699 n710 r711 u0 s7 r698 a708 n713 n714 n715 n716 q717 n718 n719 b720 w721 n757 n758 n759 n760 (q761.1, q761.2.1, q761.2.2) n762 n763 b764 n736 n737 n738 n739 (q740.1, q740.2.1, q740.2.2) n741 n742 b743 r734.2))
else
(some ((.exit 5), (s706.1, s706.2), w707))

noncomputable def g3_K802 (p2 : Option Addr) (u0 : Option Addr × Nat × Nat) : Exit → Env → World → Option (Exit × (Bool × (Option Addr × Nat × Nat) × Int) × World) :=
  blkK 5 (g3_K68 p2 u0)

/-- the loop, from a state on -/
noncomputable def g3_l705 (p2 : Option Addr) (q699 : Option Addr × Nat × Nat) (u0 : Option Addr × Nat × Nat) (s7 : Bool × (Option Addr × Nat × Nat) × Int) (r698 : Value × World) (s : Bool × Int) (w : World) : Option (Exit × (Bool × (Option Addr × Nat × Nat) × Int) × World) :=
  loopM Try.prog 202 3 g3_ann (cAt [1, 1, 1, 1, 0, 1, 0, 0, 1, 1, 0, 0, 1, 1, 1, 1, 1, 1, 1, 0, 0] (bodyOf Try.f3)) [0, 1, 1, 1, 1, 1, 1, 1, 0, 0, 1, 1, 0, 0, 1, 0, 1, 1, 1, 1] (g3_K802 p2 u0) ((g3_l705_cs p2 q699 u0 s7 r698) ++ sputs [(2, .b), (176, .i .i64)] s) w

/-- behind the loop, left by x5 -/
noncomputable def g3_l705_x5 (q699 : Option Addr × Nat × Nat) (s7 : Bool × (Option Addr × Nat × Nat) × Int) (t803 : Bool × Int) (w804 : World) : Option (Exit × (Bool × (Option Addr × Nat × Nat) × Int) × World) :=
some (.normal, (t803.1, (q699.1, q699.2.1, q699.2.2), (IntKind.i64.wrap (s7.2.2 + 1))), w804)

def g3_l812_cs (p2 : Option Addr) (s7 : Bool × (Option Addr × Nat × Nat) × Int) (u0 : Option Addr × Nat × Nat) (r676 : Value × World) : List (Nat × Value) := ([(3, .pointer p2), (4, .slice s7.2.1.1 s7.2.1.2.1 s7.2.1.2.2), (26, .slice u0.1 u0.2.1 u0.2.2), (27, .int .i64 (u0.2.1 : Int)), (28, .int .i64 s7.2.2), (174, .slice (some (⟨r676.2.heap.size, 0, none⟩)) 2 2), (175, .int .i64 2)] : List (Nat × Value))

noncomputable def g3_K903 (p2 : Option Addr) (s7 : Bool × (Option Addr × Nat × Nat) × Int) (u0 : Option Addr × Nat × Nat) (r676 : Value × World) : Exit → Env → World → Option (Exit × (Bool × Int) × World) :=
  fun e ρ w => ((List.map (·.1) (g3_l812_cs p2 s7 u0 r676)).mapM ρ).bind fun _ => loopK [(2, .b), (176, .i .i64)] e ρ w

noncomputable def g3_K904 (p2 : Option Addr) (s7 : Bool × (Option Addr × Nat × Nat) × Int) (u0 : Option Addr × Nat × Nat) (r676 : Value × World) : Exit → Env → World → Option (Exit × (Bool × Int) × World) :=
  seqK (ev Try.prog 202 3 g3_ann (cAt [1, 1, 1, 1, 0, 1, 0, 0, 1, 1, 0, 0, 1, 1, 1, 1, 1, 1, 1, 0, 0, 1, 1, 1] (bodyOf Try.f3)) [1, 1, 1, 0, 0, 1, 1, 1, 1, 1, 1, 1, 0, 0, 1, 1, 0, 0, 1, 0, 1, 1, 1, 1] (g3_K903 p2 s7 u0 r676)) (g3_K903 p2 s7 u0 r676)

noncomputable def g3_K905 (p2 : Option Addr) (s7 : Bool × (Option Addr × Nat × Nat) × Int) (u0 : Option Addr × Nat × Nat) (r676 : Value × World) : Exit → Env → World → Option (Exit × (Bool × Int) × World) :=
  blkK 6 (g3_K904 p2 s7 u0 r676)

noncomputable def g3_K906 (p2 : Option Addr) (s7 : Bool × (Option Addr × Nat × Nat) × Int) (u0 : Option Addr × Nat × Nat) (r676 : Value × World) : Exit → Env → World → Option (Exit × (Bool × Int) × World) :=
  blkK 7 (g3_K905 p2 s7 u0 r676)

def g3_l896_cs (s813 : Bool × Int) (p2 : Option Addr) (s7 : Bool × (Option Addr × Nat × Nat) × Int) (r818 : Value × World) (u0 : Option Addr × Nat × Nat) (r676 : Value × World) (q894 : Option Addr × Nat × Nat) : List (Nat × Value) := ([(2, .bool s813.1), (3, .pointer p2), (4, .slice s7.2.1.1 s7.2.1.2.1 s7.2.1.2.2), (17, .pointer (some (⟨r818.2.heap.size, 0, none⟩))), (26, .slice u0.1 u0.2.1 u0.2.2), (27, .int .i64 (u0.2.1 : Int)), (28, .int .i64 s7.2.2), (174, .slice (some (⟨r676.2.heap.size, 0, none⟩)) 2 2), (175, .int .i64 2), (176, .int .i64 s813.2), (191, .int .i64 (q894.2.1 : Int))] : List (Nat × Value))

/-- the loop, from a state on -/
noncomputable def g3_l896 (s813 : Bool × Int) (p2 : Option Addr) (s7 : Bool × (Option Addr × Nat × Nat) × Int) (r818 : Value × World) (u0 : Option Addr × Nat × Nat) (r676 : Value × World) (q894 : Option Addr × Nat × Nat) (s : Int) (w : World) : Option (Exit × (Bool × Int) × World) :=
  loopM Try.prog 202 3 g3_ann (cAt [1, 1, 1, 1, 0, 1, 0, 0, 1, 1, 0, 0, 1, 1, 1, 1, 1, 1, 1, 0, 0, 1, 1, 0, 0, 1, 1, 1, 1, 0, 0] (bodyOf Try.f3)) [0, 1, 1, 1, 1, 0, 0, 1, 1, 0, 0, 1, 1, 1, 1, 1, 1, 1, 0, 0, 1, 1, 0, 0, 1, 0, 1, 1, 1, 1] (g3_K906 p2 s7 u0 r676) ((g3_l896_cs s813 p2 s7 r818 u0 r676 q894) ++ sputs [(192, .i .i64)] s) w

noncomputable def g3_j862 (s813 : Bool × Int) (p2 : Option Addr) (s7 : Bool × (Option Addr × Nat × Nat) × Int) (n817 : Int) (r818 : Value × World) (u0 : Option Addr × Nat × Nat) (r676 : Value × World) (a815 : Addr) (n820 : Int) (n821 : Int) (n822 : Int) (n823 : Int) (q824 : Option Addr × Nat × Nat) (n825 : Int) (n826 : Int) (b827 : Bool) (w828 : World) (x872 : Int) (x873 : Int) (x874 : Int) (x875 : Int) (x876 : Option Addr × Nat × Nat) (x877 : Int) (x878 : Int) (x879 : Bool) (x880 : Int) (x881 : Int) (x882 : Int) (x883 : Int) (x884 : Option Addr × Nat × Nat) (x885 : Int) (x886 : Int) (x887 : Bool) (w888 : World) : Option (Exit × (Bool × Int) × World) :=
(callF Try.prog 22 #[.agg #[.int .i64 x872, .int .i64 x873, .int .u64 x874, .int .i64 x875, .slice x876.1 x876.2.1 x876.2.2, .int .i64 x877, .int .u64 x878, .bool x879], .agg #[.int .i64 x880, .int .i64 x881, .int .u64 x882, .int .i64 x883, .slice x884.1 x884.2.1 x884.2.2, .int .i64 x885, .int .u64 x886, .bool x887]] w888).bind fun r889 =>
(asB r889.1).bind fun b890 =>
if (!b890) = true then
(some (.ret, (false, s813.2), r889.2))
else
((World.cell? r889.2 (Addr.add (⟨r818.2.heap.size, 0, none⟩) 4)).bind fun v893 =>
(asSl v893).bind fun q894 =>
g3_l896 s813 p2 s7 r818 u0 r676 q894 0 r889.2)

/-- the round of a loop (penstock/penstocklaw15.TxnPlays) -/
noncomputable def g3_l896_b (q894 : Option Addr × Nat × Nat) (r818 : Value × World) (s813 : Bool × Int) (p2 : Option Addr) (s7 : Bool × (Option Addr × Nat × Nat) × Int) (u0 : Option Addr × Nat × Nat) (r676 : Value × World) (s897 : Int) (w898 : World) : Option (Exit × (Int) × World) :=
if (decide ((s897 : Int) < (q894.2.1 : Int))) = true then
((World.cell? w898 (Addr.add (⟨r818.2.heap.size, 0, none⟩) 4)).bind fun v899 =>
(asSl v899).bind fun q900 =>
(idxA q900.1 q900.2.1 1 s897).bind fun a901 =>
(st1 w898 a901 (.int .i64 9)).bind fun w902 =>
some (.normal, (IntKind.i64.wrap (s897 + 1)), w902))
else
(some ((.exit 7), s897, w898))

/-- behind the loop, left by x7 -/
noncomputable def g3_l896_x7 (s813 : Bool × Int) (t907 : Int) (w908 : World) : Option (Exit × (Bool × Int) × World) :=
some (.normal, (s813.1, (IntKind.i64.wrap (s813.2 + 1))), w908)

/-- the round of a loop (penstock/penstocklaw15.TxnPlays) -/
noncomputable def g3_l812_b (r676 : Value × World) (p2 : Option Addr) (s7 : Bool × (Option Addr × Nat × Nat) × Int) (u0 : Option Addr × Nat × Nat) (s813 : Bool × Int) (w814 : World) : Option (Exit × (Bool × Int) × World) :=
if (decide ((s813.2 : Int) < 2)) = true then
((idxA (some (⟨r676.2.heap.size, 0, none⟩)) 2 1 s813.2).bind fun a815 =>
(World.cell? w814 a815).bind fun v816 =>
(asI .i64 v816).bind fun n817 =>
(callF Try.prog 21 #[.pointer p2, .int .i64 n817] w814).bind fun r818 =>
(Ev.asAgg 8 r818.1).bind fun l819 =>
(asI .i64 (l819.getD 0 undef)).bind fun n820 =>
(asI .i64 (l819.getD 1 undef)).bind fun n821 =>
(asI .u64 (l819.getD 2 undef)).bind fun n822 =>
(asI .i64 (l819.getD 3 undef)).bind fun n823 =>
(asSl (l819.getD 4 undef)).bind fun q824 =>
(asI .i64 (l819.getD 5 undef)).bind fun n825 =>
(asI .u64 (l819.getD 6 undef)).bind fun n826 =>
(asB (l819.getD 7 undef)).bind fun b827 =>
(stL (World.alloc r818.2 (.cells #[.int .i64 0, .int .i64 0, .int .u64 0, .int .i64 0, .slice none 0 0, .int .i64 0, .int .u64 0, .bool false] 46)) (⟨r818.2.heap.size, 0, none⟩) [.int .i64 n820, .int .i64 n821, .int .u64 n822, .int .i64 n823, .slice q824.1 q824.2.1 q824.2.2, .int .i64 n825, .int .u64 n826, .bool b827] 0).bind fun w828 =>
if (ahd (Region.schedule true (opsOf (cAt [1, 1, 1, 1, 0, 1, 0, 0, 1, 1, 0, 0, 1, 1, 1, 1, 1, 1, 1, 0, 0, 1, 1, 0, 0, 1, 1, 0, 0] (bodyOf Try.f3))) (World.tape w828 (World.drawn w828) (.order 3 37))) 0 3 && true) = true then
((ldN (World.drew w828) (⟨r818.2.heap.size, 0, none⟩) 0 8).bind fun l831 =>
(asI .i64 (l831.getD 0 undef)).bind fun n832 =>
(asI .i64 (l831.getD 1 undef)).bind fun n833 =>
(asI .u64 (l831.getD 2 undef)).bind fun n834 =>
(asI .i64 (l831.getD 3 undef)).bind fun n835 =>
(asSl (l831.getD 4 undef)).bind fun q836 =>
(asI .i64 (l831.getD 5 undef)).bind fun n837 =>
(asI .u64 (l831.getD 6 undef)).bind fun n838 =>
(asB (l831.getD 7 undef)).bind fun b839 =>
(callF Try.prog 23 #[.slice s7.2.1.1 s7.2.1.2.1 s7.2.1.2.2, .int .i64 n817] (World.drew w828)).bind fun r852 =>
(Ev.asAgg 8 r852.1).bind fun l853 =>
(asI .i64 (l853.getD 0 undef)).bind fun n854 =>
(asI .i64 (l853.getD 1 undef)).bind fun n855 =>
(asI .u64 (l853.getD 2 undef)).bind fun n856 =>
(asI .i64 (l853.getD 3 undef)).bind fun n857 =>
(asSl (l853.getD 4 undef)).bind fun q858 =>
(asI .i64 (l853.getD 5 undef)).bind fun n859 =>
(asI .u64 (l853.getD 6 undef)).bind fun n860 =>
(asB (l853.getD 7 undef)).bind fun b861 =>
g3_j862 s813 p2 s7 n817 r818 u0 r676 a815 n820 n821 n822 n823 q824 n825 n826 b827 w828 n832 n833 n834 n835 (q836.1, q836.2.1, q836.2.2) n837 n838 b839 n854 n855 n856 n857 (q858.1, q858.2.1, q858.2.2) n859 n860 b861 r852.2)
else
((callF Try.prog 23 #[.slice s7.2.1.1 s7.2.1.2.1 s7.2.1.2.2, .int .i64 n817] (World.drew w828)).bind fun r841 =>
(Ev.asAgg 8 r841.1).bind fun l842 =>
(asI .i64 (l842.getD 0 undef)).bind fun n843 =>
(asI .i64 (l842.getD 1 undef)).bind fun n844 =>
(asI .u64 (l842.getD 2 undef)).bind fun n845 =>
(asI .i64 (l842.getD 3 undef)).bind fun n846 =>
(asSl (l842.getD 4 undef)).bind fun q847 =>
(asI .i64 (l842.getD 5 undef)).bind fun n848 =>
(asI .u64 (l842.getD 6 undef)).bind fun n849 =>
(asB (l842.getD 7 undef)).bind fun b850 =>
(ldN r841.2 (⟨r818.2.heap.size, 0, none⟩) 0 8).bind fun l863 =>
(asI .i64 (l863.getD 0 undef)).bind fun n864 =>
(asI .i64 (l863.getD 1 undef)).bind fun n865 =>
(asI .u64 (l863.getD 2 undef)).bind fun n866 =>
(asI .i64 (l863.getD 3 undef)).bind fun n867 =>
(asSl (l863.getD 4 undef)).bind fun q868 =>
(asI .i64 (l863.getD 5 undef)).bind fun n869 =>
(asI .u64 (l863.getD 6 undef)).bind fun n870 =>
(asB (l863.getD 7 undef)).bind fun b871 =>
g3_j862 s813 p2 s7 n817 r818 u0 r676 a815 n820 n821 n822 n823 q824 n825 n826 b827 w828 n864 n865 n866 n867 (q868.1, q868.2.1, q868.2.2) n869 n870 b871 n843 n844 n845 n846 (q847.1, q847.2.1, q847.2.2) n848 n849 b850 r841.2))
else
(some ((.exit 5), (s813.1, s813.2), w814))

noncomputable def g3_K909 (p2 : Option Addr) (u0 : Option Addr × Nat × Nat) : Exit → Env → World → Option (Exit × (Bool × (Option Addr × Nat × Nat) × Int) × World) :=
  blkK 5 (g3_K68 p2 u0)

/-- the loop, from a state on -/
noncomputable def g3_l812 (p2 : Option Addr) (s7 : Bool × (Option Addr × Nat × Nat) × Int) (u0 : Option Addr × Nat × Nat) (r676 : Value × World) (s : Bool × Int) (w : World) : Option (Exit × (Bool × (Option Addr × Nat × Nat) × Int) × World) :=
  loopM Try.prog 202 3 g3_ann (cAt [1, 1, 1, 1, 0, 1, 0, 0, 1, 1, 0, 0, 1, 1, 1, 1, 1, 1, 1, 0, 0] (bodyOf Try.f3)) [0, 1, 1, 1, 1, 1, 1, 1, 0, 0, 1, 1, 0, 0, 1, 0, 1, 1, 1, 1] (g3_K909 p2 u0) ((g3_l812_cs p2 s7 u0 r676) ++ sputs [(2, .b), (176, .i .i64)] s) w

/-- behind the loop, left by x5 -/
noncomputable def g3_l812_x5 (s7 : Bool × (Option Addr × Nat × Nat) × Int) (t910 : Bool × Int) (w911 : World) : Option (Exit × (Bool × (Option Addr × Nat × Nat) × Int) × World) :=
some (.normal, (t910.1, (s7.2.1.1, s7.2.1.2.1, s7.2.1.2.2), (IntKind.i64.wrap (s7.2.2 + 1))), w911)

def g3_l919_cs (p2 : Option Addr) (s7 : Bool × (Option Addr × Nat × Nat) × Int) (u0 : Option Addr × Nat × Nat) (r676 : Value × World) : List (Nat × Value) := ([(3, .pointer p2), (4, .slice s7.2.1.1 s7.2.1.2.1 s7.2.1.2.2), (26, .slice u0.1 u0.2.1 u0.2.2), (27, .int .i64 (u0.2.1 : Int)), (28, .int .i64 s7.2.2), (174, .slice (some (⟨r676.2.heap.size, 0, none⟩)) 2 2), (175, .int .i64 2)] : List (Nat × Value))

noncomputable def g3_K1010 (p2 : Option Addr) (s7 : Bool × (Option Addr × Nat × Nat) × Int) (u0 : Option Addr × Nat × Nat) (r676 : Value × World) : Exit → Env → World → Option (Exit × (Bool × Int) × World) :=
  fun e ρ w => ((List.map (·.1) (g3_l919_cs p2 s7 u0 r676)).mapM ρ).bind fun _ => loopK [(2, .b), (176, .i .i64)] e ρ w

noncomputable def g3_K1011 (p2 : Option Addr) (s7 : Bool × (Option Addr × Nat × Nat) × Int) (u0 : Option Addr × Nat × Nat) (r676 : Value × World) : Exit → Env → World → Option (Exit × (Bool × Int) × World) :=
  seqK (ev Try.prog 202 3 g3_ann (cAt [1, 1, 1, 1, 0, 1, 0, 0, 1, 1, 0, 0, 1, 1, 1, 1, 1, 1, 1, 0, 0, 1, 1, 1] (bodyOf Try.f3)) [1, 1, 1, 0, 0, 1, 1, 1, 1, 1, 1, 1, 0, 0, 1, 1, 0, 0, 1, 0, 1, 1, 1, 1] (g3_K1010 p2 s7 u0 r676)) (g3_K1010 p2 s7 u0 r676)

noncomputable def g3_K1012 (p2 : Option Addr) (s7 : Bool × (Option Addr × Nat × Nat) × Int) (u0 : Option Addr × Nat × Nat) (r676 : Value × World) : Exit → Env → World → Option (Exit × (Bool × Int) × World) :=
  blkK 6 (g3_K1011 p2 s7 u0 r676)

noncomputable def g3_K1013 (p2 : Option Addr) (s7 : Bool × (Option Addr × Nat × Nat) × Int) (u0 : Option Addr × Nat × Nat) (r676 : Value × World) : Exit → Env → World → Option (Exit × (Bool × Int) × World) :=
  blkK 7 (g3_K1012 p2 s7 u0 r676)

def g3_l1003_cs (s920 : Bool × Int) (p2 : Option Addr) (s7 : Bool × (Option Addr × Nat × Nat) × Int) (r925 : Value × World) (u0 : Option Addr × Nat × Nat) (r676 : Value × World) (q1001 : Option Addr × Nat × Nat) : List (Nat × Value) := ([(2, .bool s920.1), (3, .pointer p2), (4, .slice s7.2.1.1 s7.2.1.2.1 s7.2.1.2.2), (17, .pointer (some (⟨r925.2.heap.size, 0, none⟩))), (26, .slice u0.1 u0.2.1 u0.2.2), (27, .int .i64 (u0.2.1 : Int)), (28, .int .i64 s7.2.2), (174, .slice (some (⟨r676.2.heap.size, 0, none⟩)) 2 2), (175, .int .i64 2), (176, .int .i64 s920.2), (191, .int .i64 (q1001.2.1 : Int))] : List (Nat × Value))

/-- the loop, from a state on -/
noncomputable def g3_l1003 (s920 : Bool × Int) (p2 : Option Addr) (s7 : Bool × (Option Addr × Nat × Nat) × Int) (r925 : Value × World) (u0 : Option Addr × Nat × Nat) (r676 : Value × World) (q1001 : Option Addr × Nat × Nat) (s : Int) (w : World) : Option (Exit × (Bool × Int) × World) :=
  loopM Try.prog 202 3 g3_ann (cAt [1, 1, 1, 1, 0, 1, 0, 0, 1, 1, 0, 0, 1, 1, 1, 1, 1, 1, 1, 0, 0, 1, 1, 0, 0, 1, 1, 1, 1, 0, 0] (bodyOf Try.f3)) [0, 1, 1, 1, 1, 0, 0, 1, 1, 0, 0, 1, 1, 1, 1, 1, 1, 1, 0, 0, 1, 1, 0, 0, 1, 0, 1, 1, 1, 1] (g3_K1013 p2 s7 u0 r676) ((g3_l1003_cs s920 p2 s7 r925 u0 r676 q1001) ++ sputs [(192, .i .i64)] s) w

noncomputable def g3_j969 (s920 : Bool × Int) (p2 : Option Addr) (s7 : Bool × (Option Addr × Nat × Nat) × Int) (n924 : Int) (r925 : Value × World) (u0 : Option Addr × Nat × Nat) (r676 : Value × World) (a922 : Addr) (n927 : Int) (n928 : Int) (n929 : Int) (n930 : Int) (q931 : Option Addr × Nat × Nat) (n932 : Int) (n933 : Int) (b934 : Bool) (w935 : World) (x979 : Int) (x980 : Int) (x981 : Int) (x982 : Int) (x983 : Option Addr × Nat × Nat) (x984 : Int) (x985 : Int) (x986 : Bool) (x987 : Int) (x988 : Int) (x989 : Int) (x990 : Int) (x991 : Option Addr × Nat × Nat) (x992 : Int) (x993 : Int) (x994 : Bool) (w995 : World) : Option (Exit × (Bool × Int) × World) :=
(callF Try.prog 22 #[.agg #[.int .i64 x979, .int .i64 x980, .int .u64 x981, .int .i64 x982, .slice x983.1 x983.2.1 x983.2.2, .int .i64 x984, .int .u64 x985, .bool x986], .agg #[.int .i64 x987, .int .i64 x988, .int .u64 x989, .int .i64 x990, .slice x991.1 x991.2.1 x991.2.2, .int .i64 x992, .int .u64 x993, .bool x994]] w995).bind fun r996 =>
(asB r996.1).bind fun b997 =>
if (!b997) = true then
(some (.ret, (false, s920.2), r996.2))
else
((World.cell? r996.2 (Addr.add (⟨r925.2.heap.size, 0, none⟩) 4)).bind fun v1000 =>
(asSl v1000).bind fun q1001 =>
g3_l1003 s920 p2 s7 r925 u0 r676 q1001 0 r996.2)

/-- the round of a loop (penstock/penstocklaw15.TxnPlays) -/
noncomputable def g3_l1003_b (q1001 : Option Addr × Nat × Nat) (r925 : Value × World) (s920 : Bool × Int) (p2 : Option Addr) (s7 : Bool × (Option Addr × Nat × Nat) × Int) (u0 : Option Addr × Nat × Nat) (r676 : Value × World) (s1004 : Int) (w1005 : World) : Option (Exit × (Int) × World) :=
if (decide ((s1004 : Int) < (q1001.2.1 : Int))) = true then
((World.cell? w1005 (Addr.add (⟨r925.2.heap.size, 0, none⟩) 4)).bind fun v1006 =>
(asSl v1006).bind fun q1007 =>
(idxA q1007.1 q1007.2.1 1 s1004).bind fun a1008 =>
(st1 w1005 a1008 (.int .i64 9)).bind fun w1009 =>
some (.normal, (IntKind.i64.wrap (s1004 + 1)), w1009))
else
(some ((.exit 7), s1004, w1005))

/-- behind the loop, left by x7 -/
noncomputable def g3_l1003_x7 (s920 : Bool × Int) (t1014 : Int) (w1015 : World) : Option (Exit × (Bool × Int) × World) :=
some (.normal, (s920.1, (IntKind.i64.wrap (s920.2 + 1))), w1015)

/-- the round of a loop (penstock/penstocklaw15.TxnPlays) -/
noncomputable def g3_l919_b (r676 : Value × World) (p2 : Option Addr) (s7 : Bool × (Option Addr × Nat × Nat) × Int) (u0 : Option Addr × Nat × Nat) (s920 : Bool × Int) (w921 : World) : Option (Exit × (Bool × Int) × World) :=
if (decide ((s920.2 : Int) < 2)) = true then
((idxA (some (⟨r676.2.heap.size, 0, none⟩)) 2 1 s920.2).bind fun a922 =>
(World.cell? w921 a922).bind fun v923 =>
(asI .i64 v923).bind fun n924 =>
(callF Try.prog 21 #[.pointer p2, .int .i64 n924] w921).bind fun r925 =>
(Ev.asAgg 8 r925.1).bind fun l926 =>
(asI .i64 (l926.getD 0 undef)).bind fun n927 =>
(asI .i64 (l926.getD 1 undef)).bind fun n928 =>
(asI .u64 (l926.getD 2 undef)).bind fun n929 =>
(asI .i64 (l926.getD 3 undef)).bind fun n930 =>
(asSl (l926.getD 4 undef)).bind fun q931 =>
(asI .i64 (l926.getD 5 undef)).bind fun n932 =>
(asI .u64 (l926.getD 6 undef)).bind fun n933 =>
(asB (l926.getD 7 undef)).bind fun b934 =>
(stL (World.alloc r925.2 (.cells #[.int .i64 0, .int .i64 0, .int .u64 0, .int .i64 0, .slice none 0 0, .int .i64 0, .int .u64 0, .bool false] 46)) (⟨r925.2.heap.size, 0, none⟩) [.int .i64 n927, .int .i64 n928, .int .u64 n929, .int .i64 n930, .slice q931.1 q931.2.1 q931.2.2, .int .i64 n932, .int .u64 n933, .bool b934] 0).bind fun w935 =>
if (ahd (Region.schedule true (opsOf (cAt [1, 1, 1, 1, 0, 1, 0, 0, 1, 1, 0, 0, 1, 1, 1, 1, 1, 1, 1, 0, 0, 1, 1, 0, 0, 1, 1, 0, 0] (bodyOf Try.f3))) (World.tape w935 (World.drawn w935) (.order 3 37))) 0 3 && true) = true then
((ldN (World.drew w935) (⟨r925.2.heap.size, 0, none⟩) 0 8).bind fun l938 =>
(asI .i64 (l938.getD 0 undef)).bind fun n939 =>
(asI .i64 (l938.getD 1 undef)).bind fun n940 =>
(asI .u64 (l938.getD 2 undef)).bind fun n941 =>
(asI .i64 (l938.getD 3 undef)).bind fun n942 =>
(asSl (l938.getD 4 undef)).bind fun q943 =>
(asI .i64 (l938.getD 5 undef)).bind fun n944 =>
(asI .u64 (l938.getD 6 undef)).bind fun n945 =>
(asB (l938.getD 7 undef)).bind fun b946 =>
(callF Try.prog 23 #[.slice s7.2.1.1 s7.2.1.2.1 s7.2.1.2.2, .int .i64 n924] (World.drew w935)).bind fun r959 =>
(Ev.asAgg 8 r959.1).bind fun l960 =>
(asI .i64 (l960.getD 0 undef)).bind fun n961 =>
(asI .i64 (l960.getD 1 undef)).bind fun n962 =>
(asI .u64 (l960.getD 2 undef)).bind fun n963 =>
(asI .i64 (l960.getD 3 undef)).bind fun n964 =>
(asSl (l960.getD 4 undef)).bind fun q965 =>
(asI .i64 (l960.getD 5 undef)).bind fun n966 =>
(asI .u64 (l960.getD 6 undef)).bind fun n967 =>
(asB (l960.getD 7 undef)).bind fun b968 =>
g3_j969 s920 p2 s7 n924 r925 u0 r676 a922 n927 n928 n929 n930 q931 n932 n933 b934 w935 n939 n940 n941 n942 (q943.1, q943.2.1, q943.2.2) n944 n945 b946 n961 n962 n963 n964 (q965.1, q965.2.1, q965.2.2) n966 n967 b968 r959.2)
else
((callF Try.prog 23 #[.slice s7.2.1.1 s7.2.1.2.1 s7.2.1.2.2, .int .i64 n924] (World.drew w935)).bind fun r948 =>
(Ev.asAgg 8 r948.1).bind fun l949 =>
(asI .i64 (l949.getD 0 undef)).bind fun n950 =>
(asI .i64 (l949.getD 1 undef)).bind fun n951 =>
(asI .u64 (l949.getD 2 undef)).bind fun n952 =>
(asI .i64 (l949.getD 3 undef)).bind fun n953 =>
(asSl (l949.getD 4 undef)).bind fun q954 =>
(asI .i64 (l949.getD 5 undef)).bind fun n955 =>
(asI .u64 (l949.getD 6 undef)).bind fun n956 =>
(asB (l949.getD 7 undef)).bind fun b957 =>
(ldN r948.2 (⟨r925.2.heap.size, 0, none⟩) 0 8).bind fun l970 =>
(asI .i64 (l970.getD 0 undef)).bind fun n971 =>
(asI .i64 (l970.getD 1 undef)).bind fun n972 =>
(asI .u64 (l970.getD 2 undef)).bind fun n973 =>
(asI .i64 (l970.getD 3 undef)).bind fun n974 =>
(asSl (l970.getD 4 undef)).bind fun q975 =>
(asI .i64 (l970.getD 5 undef)).bind fun n976 =>
(asI .u64 (l970.getD 6 undef)).bind fun n977 =>
(asB (l970.getD 7 undef)).bind fun b978 =>
g3_j969 s920 p2 s7 n924 r925 u0 r676 a922 n927 n928 n929 n930 q931 n932 n933 b934 w935 n971 n972 n973 n974 (q975.1, q975.2.1, q975.2.2) n976 n977 b978 n950 n951 n952 n953 (q954.1, q954.2.1, q954.2.2) n955 n956 b957 r948.2))
else
(some ((.exit 5), (s920.1, s920.2), w921))

noncomputable def g3_K1016 (p2 : Option Addr) (u0 : Option Addr × Nat × Nat) : Exit → Env → World → Option (Exit × (Bool × (Option Addr × Nat × Nat) × Int) × World) :=
  blkK 5 (g3_K68 p2 u0)

/-- the loop, from a state on -/
noncomputable def g3_l919 (p2 : Option Addr) (s7 : Bool × (Option Addr × Nat × Nat) × Int) (u0 : Option Addr × Nat × Nat) (r676 : Value × World) (s : Bool × Int) (w : World) : Option (Exit × (Bool × (Option Addr × Nat × Nat) × Int) × World) :=
  loopM Try.prog 202 3 g3_ann (cAt [1, 1, 1, 1, 0, 1, 0, 0, 1, 1, 0, 0, 1, 1, 1, 1, 1, 1, 1, 0, 0] (bodyOf Try.f3)) [0, 1, 1, 1, 1, 1, 1, 1, 0, 0, 1, 1, 0, 0, 1, 0, 1, 1, 1, 1] (g3_K1016 p2 u0) ((g3_l919_cs p2 s7 u0 r676) ++ sputs [(2, .b), (176, .i .i64)] s) w

/-- behind the loop, left by x5 -/
noncomputable def g3_l919_x5 (s7 : Bool × (Option Addr × Nat × Nat) × Int) (t1017 : Bool × Int) (w1018 : World) : Option (Exit × (Bool × (Option Addr × Nat × Nat) × Int) × World) :=
some (.normal, (t1017.1, (s7.2.1.1, s7.2.1.2.1, s7.2.1.2.2), (IntKind.i64.wrap (s7.2.2 + 1))), w1018)

def g3_l1108_cs (p2 : Option Addr) (q1102 : Option Addr × Nat × Nat) (u0 : Option Addr × Nat × Nat) (s7 : Bool × (Option Addr × Nat × Nat) × Int) (r1101 : Value × World) : List (Nat × Value) := ([(3, .pointer p2), (4, .slice q1102.1 q1102.2.1 q1102.2.2), (26, .slice u0.1 u0.2.1 u0.2.2), (27, .int .i64 (u0.2.1 : Int)), (28, .int .i64 s7.2.2), (174, .slice (some (⟨r1101.2.heap.size, 0, none⟩)) 2 2), (175, .int .i64 2)] : List (Nat × Value))

noncomputable def g3_K1199 (p2 : Option Addr) (q1102 : Option Addr × Nat × Nat) (u0 : Option Addr × Nat × Nat) (s7 : Bool × (Option Addr × Nat × Nat) × Int) (r1101 : Value × World) : Exit → Env → World → Option (Exit × (Bool × Int) × World) :=
  fun e ρ w => ((List.map (·.1) (g3_l1108_cs p2 q1102 u0 s7 r1101)).mapM ρ).bind fun _ => loopK [(2, .b), (176, .i .i64)] e ρ w

noncomputable def g3_K1200 (p2 : Option Addr) (q1102 : Option Addr × Nat × Nat) (u0 : Option Addr × Nat × Nat) (s7 : Bool × (Option Addr × Nat × Nat) × Int) (r1101 : Value × World) : Exit → Env → World → Option (Exit × (Bool × Int) × World) :=
  seqK (ev Try.prog 202 3 g3_ann (cAt [1, 1, 1, 1, 0, 1, 0, 0, 1, 1, 0, 0, 1, 1, 1, 1, 1, 1, 1, 0, 0, 1, 1, 1] (bodyOf Try.f3)) [1, 1, 1, 0, 0, 1, 1, 1, 1, 1, 1, 1, 0, 0, 1, 1, 0, 0, 1, 0, 1, 1, 1, 1] (g3_K1199 p2 q1102 u0 s7 r1101)) (g3_K1199 p2 q1102 u0 s7 r1101)

noncomputable def g3_K1201 (p2 : Option Addr) (q1102 : Option Addr × Nat × Nat) (u0 : Option Addr × Nat × Nat) (s7 : Bool × (Option Addr × Nat × Nat) × Int) (r1101 : Value × World) : Exit → Env → World → Option (Exit × (Bool × Int) × World) :=
  blkK 6 (g3_K1200 p2 q1102 u0 s7 r1101)

noncomputable def g3_K1202 (p2 : Option Addr) (q1102 : Option Addr × Nat × Nat) (u0 : Option Addr × Nat × Nat) (s7 : Bool × (Option Addr × Nat × Nat) × Int) (r1101 : Value × World) : Exit → Env → World → Option (Exit × (Bool × Int) × World) :=
  blkK 7 (g3_K1201 p2 q1102 u0 s7 r1101)

def g3_l1192_cs (s1109 : Bool × Int) (p2 : Option Addr) (q1102 : Option Addr × Nat × Nat) (r1114 : Value × World) (u0 : Option Addr × Nat × Nat) (s7 : Bool × (Option Addr × Nat × Nat) × Int) (r1101 : Value × World) (q1190 : Option Addr × Nat × Nat) : List (Nat × Value) := ([(2, .bool s1109.1), (3, .pointer p2), (4, .slice q1102.1 q1102.2.1 q1102.2.2), (17, .pointer (some (⟨r1114.2.heap.size, 0, none⟩))), (26, .slice u0.1 u0.2.1 u0.2.2), (27, .int .i64 (u0.2.1 : Int)), (28, .int .i64 s7.2.2), (174, .slice (some (⟨r1101.2.heap.size, 0, none⟩)) 2 2), (175, .int .i64 2), (176, .int .i64 s1109.2), (191, .int .i64 (q1190.2.1 : Int))] : List (Nat × Value))

/-- the loop, from a state on -/
noncomputable def g3_l1192 (s1109 : Bool × Int) (p2 : Option Addr) (q1102 : Option Addr × Nat × Nat) (r1114 : Value × World) (u0 : Option Addr × Nat × Nat) (s7 : Bool × (Option Addr × Nat × Nat) × Int) (r1101 : Value × World) (q1190 : Option Addr × Nat × Nat) (s : Int) (w : World) : Option (Exit × (Bool × Int) × World) :=
  loopM Try.prog 202 3 g3_ann (cAt [1, 1, 1, 1, 0, 1, 0, 0, 1, 1, 0, 0, 1, 1, 1, 1, 1, 1, 1, 0, 0, 1, 1, 0, 0, 1, 1, 1, 1, 0, 0] (bodyOf Try.f3)) [0, 1, 1, 1, 1, 0, 0, 1, 1, 0, 0, 1, 1, 1, 1, 1, 1, 1, 0, 0, 1, 1, 0, 0, 1, 0, 1, 1, 1, 1] (g3_K1202 p2 q1102 u0 s7 r1101) ((g3_l1192_cs s1109 p2 q1102 r1114 u0 s7 r1101 q1190) ++ sputs [(192, .i .i64)] s) w

noncomputable def g3_j1158 (s1109 : Bool × Int) (p2 : Option Addr) (q1102 : Option Addr × Nat × Nat) (n1113 : Int) (r1114 : Value × World) (u0 : Option Addr × Nat × Nat) (s7 : Bool × (Option Addr × Nat × Nat) × Int) (r1101 : Value × World) (a1111 : Addr) (n1116 : Int) (n1117 : Int) (n1118 : Int) (n1119 : Int) (q1120 : Option Addr × Nat × Nat) (n1121 : Int) (n1122 : Int) (b1123 : Bool) (w1124 : World) (x1168 : Int) (x1169 : Int) (x1170 : Int) (x1171 : Int) (x1172 : Option Addr × Nat × Nat) (x1173 : Int) (x1174 : Int) (x1175 : Bool) (x1176 : Int) (x1177 : Int) (x1178 : Int) (x1179 : Int) (x1180 : Option Addr × Nat × Nat) (x1181 : Int) (x1182 : Int) (x1183 : Bool) (w1184 : World) : Option (Exit × (Bool × Int) × World) :=
(callF Try.prog 22 #[.agg #[.int .i64 x1168, .int .i64 x1169, .int .u64 x1170, .int .i64 x1171, .slice x1172.1 x1172.2.1 x1172.2.2, .int .i64 x1173, .int .u64 x1174, .bool x1175], .agg #[.int .i64 x1176, .int .i64 x1177, .int .u64 x1178, .int .i64 x1179, .slice x1180.1 x1180.2.1 x1180.2.2, .int .i64 x1181, .int .u64 x1182, .bool x1183]] w1184).bind fun r1185 =>
(asB r1185.1).bind fun b1186 =>
if (!b1186) = true then
(some (.ret, (false, s1109.2), r1185.2))
else
((World.cell? r1185.2 (Addr.add (⟨r1114.2.heap.size, 0, none⟩) 4)).bind fun v1189 =>
(asSl v1189).bind fun q1190 =>
g3_l1192 s1109 p2 q1102 r1114 u0 s7 r1101 q1190 0 r1185.2)

/-- the round of a loop (penstock/penstocklaw15.TxnPlays) -/
noncomputable def g3_l1192_b (q1190 : Option Addr × Nat × Nat) (r1114 : Value × World) (s1109 : Bool × Int) (p2 : Option Addr) (q1102 : Option Addr × Nat × Nat) (u0 : Option Addr × Nat × Nat) (s7 : Bool × (Option Addr × Nat × Nat) × Int) (r1101 : Value × World) (s1193 : Int) (w1194 : World) : Option (Exit × (Int) × World) :=
if (decide ((s1193 : Int) < (q1190.2.1 : Int))) = true then
((World.cell? w1194 (Addr.add (⟨r1114.2.heap.size, 0, none⟩) 4)).bind fun v1195 =>
(asSl v1195).bind fun q1196 =>
(idxA q1196.1 q1196.2.1 1 s1193).bind fun a1197 =>
(st1 w1194 a1197 (.int .i64 9)).bind fun w1198 =>
some (.normal, (IntKind.i64.wrap (s1193 + 1)), w1198))
else
(some ((.exit 7), s1193, w1194))

/-- behind the loop, left by x7 -/
noncomputable def g3_l1192_x7 (s1109 : Bool × Int) (t1203 : Int) (w1204 : World) : Option (Exit × (Bool × Int) × World) :=
some (.normal, (s1109.1, (IntKind.i64.wrap (s1109.2 + 1))), w1204)

/-- the round of a loop (penstock/penstocklaw15.TxnPlays) -/
noncomputable def g3_l1108_b (r1101 : Value × World) (p2 : Option Addr) (q1102 : Option Addr × Nat × Nat) (u0 : Option Addr × Nat × Nat) (s7 : Bool × (Option Addr × Nat × Nat) × Int) (s1109 : Bool × Int) (w1110 : World) : Option (Exit × (Bool × Int) × World) :=
if (decide ((s1109.2 : Int) < 2)) = true then
((idxA (some (⟨r1101.2.heap.size, 0, none⟩)) 2 1 s1109.2).bind fun a1111 =>
(World.cell? w1110 a1111).bind fun v1112 =>
(asI .i64 v1112).bind fun n1113 =>
(callF Try.prog 21 #[.pointer p2, .int .i64 n1113] w1110).bind fun r1114 =>
(Ev.asAgg 8 r1114.1).bind fun l1115 =>
(asI .i64 (l1115.getD 0 undef)).bind fun n1116 =>
(asI .i64 (l1115.getD 1 undef)).bind fun n1117 =>
(asI .u64 (l1115.getD 2 undef)).bind fun n1118 =>
(asI .i64 (l1115.getD 3 undef)).bind fun n1119 =>
(asSl (l1115.getD 4 undef)).bind fun q1120 =>
(asI .i64 (l1115.getD 5 undef)).bind fun n1121 =>
(asI .u64 (l1115.getD 6 undef)).bind fun n1122 =>
(asB (l1115.getD 7 undef)).bind fun b1123 =>
(stL (World.alloc r1114.2 (.cells #[.int .i64 0, .int .i64 0, .int .u64 0, .int .i64 0, .slice none 0 0, .int .i64 0, .int .u64 0, .bool false] 46)) (⟨r1114.2.heap.size, 0, none⟩) [.int .i64 n1116, .int .i64 n1117, .int .u64 n1118, .int .i64 n1119, .slice q1120.1 q1120.2.1 q1120.2.2, .int .i64 n1121, .int .u64 n1122, .bool b1123] 0).bind fun w1124 =>
if (ahd (Region.schedule true (opsOf (cAt [1, 1, 1, 1, 0, 1, 0, 0, 1, 1, 0, 0, 1, 1, 1, 1, 1, 1, 1, 0, 0, 1, 1, 0, 0, 1, 1, 0, 0] (bodyOf Try.f3))) (World.tape w1124 (World.drawn w1124) (.order 3 37))) 0 3 && true) = true then
((ldN (World.drew w1124) (⟨r1114.2.heap.size, 0, none⟩) 0 8).bind fun l1127 =>
(asI .i64 (l1127.getD 0 undef)).bind fun n1128 =>
(asI .i64 (l1127.getD 1 undef)).bind fun n1129 =>
(asI .u64 (l1127.getD 2 undef)).bind fun n1130 =>
(asI .i64 (l1127.getD 3 undef)).bind fun n1131 =>
(asSl (l1127.getD 4 undef)).bind fun q1132 =>
(asI .i64 (l1127.getD 5 undef)).bind fun n1133 =>
(asI .u64 (l1127.getD 6 undef)).bind fun n1134 =>
(asB (l1127.getD 7 undef)).bind fun b1135 =>
(callF Try.prog 23 #[.slice q1102.1 q1102.2.1 q1102.2.2, .int .i64 n1113] (World.drew w1124)).bind fun r1148 =>
(Ev.asAgg 8 r1148.1).bind fun l1149 =>
(asI .i64 (l1149.getD 0 undef)).bind fun n1150 =>
(asI .i64 (l1149.getD 1 undef)).bind fun n1151 =>
(asI .u64 (l1149.getD 2 undef)).bind fun n1152 =>
(asI .i64 (l1149.getD 3 undef)).bind fun n1153 =>
(asSl (l1149.getD 4 undef)).bind fun q1154 =>
(asI .i64 (l1149.getD 5 undef)).bind fun n1155 =>
(asI .u64 (l1149.getD 6 undef)).bind fun n1156 =>
(asB (l1149.getD 7 undef)).bind fun b1157 =>
g3_j1158 s1109 p2 q1102 n1113 r1114 u0 s7 r1101 a1111 n1116 n1117 n1118 n1119 q1120 n1121 n1122 b1123 w1124 n1128 n1129 n1130 n1131 (q1132.1, q1132.2.1, q1132.2.2) n1133 n1134 b1135 n1150 n1151 n1152 n1153 (q1154.1, q1154.2.1, q1154.2.2) n1155 n1156 b1157 r1148.2)
else
((callF Try.prog 23 #[.slice q1102.1 q1102.2.1 q1102.2.2, .int .i64 n1113] (World.drew w1124)).bind fun r1137 =>
(Ev.asAgg 8 r1137.1).bind fun l1138 =>
(asI .i64 (l1138.getD 0 undef)).bind fun n1139 =>
(asI .i64 (l1138.getD 1 undef)).bind fun n1140 =>
(asI .u64 (l1138.getD 2 undef)).bind fun n1141 =>
(asI .i64 (l1138.getD 3 undef)).bind fun n1142 =>
(asSl (l1138.getD 4 undef)).bind fun q1143 =>
(asI .i64 (l1138.getD 5 undef)).bind fun n1144 =>
(asI .u64 (l1138.getD 6 undef)).bind fun n1145 =>
(asB (l1138.getD 7 undef)).bind fun b1146 =>
(ldN r1137.2 (⟨r1114.2.heap.size, 0, none⟩) 0 8).bind fun l1159 =>
(asI .i64 (l1159.getD 0 undef)).bind fun n1160 =>
(asI .i64 (l1159.getD 1 undef)).bind fun n1161 =>
(asI .u64 (l1159.getD 2 undef)).bind fun n1162 =>
(asI .i64 (l1159.getD 3 undef)).bind fun n1163 =>
(asSl (l1159.getD 4 undef)).bind fun q1164 =>
(asI .i64 (l1159.getD 5 undef)).bind fun n1165 =>
(asI .u64 (l1159.getD 6 undef)).bind fun n1166 =>
(asB (l1159.getD 7 undef)).bind fun b1167 =>
g3_j1158 s1109 p2 q1102 n1113 r1114 u0 s7 r1101 a1111 n1116 n1117 n1118 n1119 q1120 n1121 n1122 b1123 w1124 n1160 n1161 n1162 n1163 (q1164.1, q1164.2.1, q1164.2.2) n1165 n1166 b1167 n1139 n1140 n1141 n1142 (q1143.1, q1143.2.1, q1143.2.2) n1144 n1145 b1146 r1137.2))
else
(some ((.exit 5), (s1109.1, s1109.2), w1110))

noncomputable def g3_K1205 (p2 : Option Addr) (u0 : Option Addr × Nat × Nat) : Exit → Env → World → Option (Exit × (Bool × (Option Addr × Nat × Nat) × Int) × World) :=
  blkK 5 (g3_K68 p2 u0)

/-- the loop, from a state on -/
noncomputable def g3_l1108 (p2 : Option Addr) (q1102 : Option Addr × Nat × Nat) (u0 : Option Addr × Nat × Nat) (s7 : Bool × (Option Addr × Nat × Nat) × Int) (r1101 : Value × World) (s : Bool × Int) (w : World) : Option (Exit × (Bool × (Option Addr × Nat × Nat) × Int) × World) :=
  loopM Try.prog 202 3 g3_ann (cAt [1, 1, 1, 1, 0, 1, 0, 0, 1, 1, 0, 0, 1, 1, 1, 1, 1, 1, 1, 0, 0] (bodyOf Try.f3)) [0, 1, 1, 1, 1, 1, 1, 1, 0, 0, 1, 1, 0, 0, 1, 0, 1, 1, 1, 1] (g3_K1205 p2 u0) ((g3_l1108_cs p2 q1102 u0 s7 r1101) ++ sputs [(2, .b), (176, .i .i64)] s) w

/-- behind the loop, left by x5 -/
noncomputable def g3_l1108_x5 (q1102 : Option Addr × Nat × Nat) (s7 : Bool × (Option Addr × Nat × Nat) × Int) (t1206 : Bool × Int) (w1207 : World) : Option (Exit × (Bool × (Option Addr × Nat × Nat) × Int) × World) :=
some (.normal, (t1206.1, (q1102.1, q1102.2.1, q1102.2.2), (IntKind.i64.wrap (s7.2.2 + 1))), w1207)

def g3_l1215_cs (p2 : Option Addr) (s7 : Bool × (Option Addr × Nat × Nat) × Int) (u0 : Option Addr × Nat × Nat) (r1079 : Value × World) : List (Nat × Value) := ([(3, .pointer p2), (4, .slice s7.2.1.1 s7.2.1.2.1 s7.2.1.2.2), (26, .slice u0.1 u0.2.1 u0.2.2), (27, .int .i64 (u0.2.1 : Int)), (28, .int .i64 s7.2.2), (174, .slice (some (⟨r1079.2.heap.size, 0, none⟩)) 2 2), (175, .int .i64 2)] : List (Nat × Value))

noncomputable def g3_K1306 (p2 : Option Addr) (s7 : Bool × (Option Addr × Nat × Nat) × Int) (u0 : Option Addr × Nat × Nat) (r1079 : Value × World) : Exit → Env → World → Option (Exit × (Bool × Int) × World) :=
  fun e ρ w => ((List.map (·.1) (g3_l1215_cs p2 s7 u0 r1079)).mapM ρ).bind fun _ => loopK [(2, .b), (176, .i .i64)] e ρ w

noncomputable def g3_K1307 (p2 : Option Addr) (s7 : Bool × (Option Addr × Nat × Nat) × Int) (u0 : Option Addr × Nat × Nat) (r1079 : Value × World) : Exit → Env → World → Option (Exit × (Bool × Int) × World) :=
  seqK (ev Try.prog 202 3 g3_ann (cAt [1, 1, 1, 1, 0, 1, 0, 0, 1, 1, 0, 0, 1, 1, 1, 1, 1, 1, 1, 0, 0, 1, 1, 1] (bodyOf Try.f3)) [1, 1, 1, 0, 0, 1, 1, 1, 1, 1, 1, 1, 0, 0, 1, 1, 0, 0, 1, 0, 1, 1, 1, 1] (g3_K1306 p2 s7 u0 r1079)) (g3_K1306 p2 s7 u0 r1079)

noncomputable def g3_K1308 (p2 : Option Addr) (s7 : Bool × (Option Addr × Nat × Nat) × Int) (u0 : Option Addr × Nat × Nat) (r1079 : Value × World) : Exit → Env → World → Option (Exit × (Bool × Int) × World) :=
  blkK 6 (g3_K1307 p2 s7 u0 r1079)

noncomputable def g3_K1309 (p2 : Option Addr) (s7 : Bool × (Option Addr × Nat × Nat) × Int) (u0 : Option Addr × Nat × Nat) (r1079 : Value × World) : Exit → Env → World → Option (Exit × (Bool × Int) × World) :=
  blkK 7 (g3_K1308 p2 s7 u0 r1079)

def g3_l1299_cs (s1216 : Bool × Int) (p2 : Option Addr) (s7 : Bool × (Option Addr × Nat × Nat) × Int) (r1221 : Value × World) (u0 : Option Addr × Nat × Nat) (r1079 : Value × World) (q1297 : Option Addr × Nat × Nat) : List (Nat × Value) := ([(2, .bool s1216.1), (3, .pointer p2), (4, .slice s7.2.1.1 s7.2.1.2.1 s7.2.1.2.2), (17, .pointer (some (⟨r1221.2.heap.size, 0, none⟩))), (26, .slice u0.1 u0.2.1 u0.2.2), (27, .int .i64 (u0.2.1 : Int)), (28, .int .i64 s7.2.2), (174, .slice (some (⟨r1079.2.heap.size, 0, none⟩)) 2 2), (175, .int .i64 2), (176, .int .i64 s1216.2), (191, .int .i64 (q1297.2.1 : Int))] : List (Nat × Value))

/-- the loop, from a state on -/
noncomputable def g3_l1299 (s1216 : Bool × Int) (p2 : Option Addr) (s7 : Bool × (Option Addr × Nat × Nat) × Int) (r1221 : Value × World) (u0 : Option Addr × Nat × Nat) (r1079 : Value × World) (q1297 : Option Addr × Nat × Nat) (s : Int) (w : World) : Option (Exit × (Bool × Int) × World) :=
  loopM Try.prog 202 3 g3_ann (cAt [1, 1, 1, 1, 0, 1, 0, 0, 1, 1, 0, 0, 1, 1, 1, 1, 1, 1, 1, 0, 0, 1, 1, 0, 0, 1, 1, 1, 1, 0, 0] (bodyOf Try.f3)) [0, 1, 1, 1, 1, 0, 0, 1, 1, 0, 0, 1, 1, 1, 1, 1, 1, 1, 0, 0, 1, 1, 0, 0, 1, 0, 1, 1, 1, 1] (g3_K1309 p2 s7 u0 r1079) ((g3_l1299_cs s1216 p2 s7 r1221 u0 r1079 q1297) ++ sputs [(192, .i .i64)] s) w

noncomputable def g3_j1265 (s1216 : Bool × Int) (p2 : Option Addr) (s7 : Bool × (Option Addr × Nat × Nat) × Int) (n1220 : Int) (r1221 : Value × World) (u0 : Option Addr × Nat × Nat) (r1079 : Value × World) (a1218 : Addr) (n1223 : Int) (n1224 : Int) (n1225 : Int) (n1226 : Int) (q1227 : Option Addr × Nat × Nat) (n1228 : Int) (n1229 : Int) (b1230 : Bool) (w1231 : World) (x1275 : Int) (x1276 : Int) (x1277 : Int) (x1278 : Int) (x1279 : Option Addr × Nat × Nat) (x1280 : Int) (x1281 : Int) (x1282 : Bool) (x1283 : Int) (x1284 : Int) (x1285 : Int) (x1286 : Int) (x1287 : Option Addr × Nat × Nat) (x1288 : Int) (x1289 : Int) (x1290 : Bool) (w1291 : World) : Option (Exit × (Bool × Int) × World) :=
(callF Try.prog 22 #[.agg #[.int .i64 x1275, .int .i64 x1276, .int .u64 x1277, .int .i64 x1278, .slice x1279.1 x1279.2.1 x1279.2.2, .int .i64 x1280, .int .u64 x1281, .bool x1282], .agg #[.int .i64 x1283, .int .i64 x1284, .int .u64 x1285, .int .i64 x1286, .slice x1287.1 x1287.2.1 x1287.2.2, .int .i64 x1288, .int .u64 x1289, .bool x1290]] w1291).bind fun r1292 =>
(asB r1292.1).bind fun b1293 =>
if (!b1293) = true then
(some (.ret, (false, s1216.2), r1292.2))
else
((World.cell? r1292.2 (Addr.add (⟨r1221.2.heap.size, 0, none⟩) 4)).bind fun v1296 =>
(asSl v1296).bind fun q1297 =>
g3_l1299 s1216 p2 s7 r1221 u0 r1079 q1297 0 r1292.2)

/-- the round of a loop (penstock/penstocklaw15.TxnPlays) -/
noncomputable def g3_l1299_b (q1297 : Option Addr × Nat × Nat) (r1221 : Value × World) (s1216 : Bool × Int) (p2 : Option Addr) (s7 : Bool × (Option Addr × Nat × Nat) × Int) (u0 : Option Addr × Nat × Nat) (r1079 : Value × World) (s1300 : Int) (w1301 : World) : Option (Exit × (Int) × World) :=
if (decide ((s1300 : Int) < (q1297.2.1 : Int))) = true then
((World.cell? w1301 (Addr.add (⟨r1221.2.heap.size, 0, none⟩) 4)).bind fun v1302 =>
(asSl v1302).bind fun q1303 =>
(idxA q1303.1 q1303.2.1 1 s1300).bind fun a1304 =>
(st1 w1301 a1304 (.int .i64 9)).bind fun w1305 =>
some (.normal, (IntKind.i64.wrap (s1300 + 1)), w1305))
else
(some ((.exit 7), s1300, w1301))

/-- behind the loop, left by x7 -/
noncomputable def g3_l1299_x7 (s1216 : Bool × Int) (t1310 : Int) (w1311 : World) : Option (Exit × (Bool × Int) × World) :=
some (.normal, (s1216.1, (IntKind.i64.wrap (s1216.2 + 1))), w1311)

/-- the round of a loop (penstock/penstocklaw15.TxnPlays) -/
noncomputable def g3_l1215_b (r1079 : Value × World) (p2 : Option Addr) (s7 : Bool × (Option Addr × Nat × Nat) × Int) (u0 : Option Addr × Nat × Nat) (s1216 : Bool × Int) (w1217 : World) : Option (Exit × (Bool × Int) × World) :=
if (decide ((s1216.2 : Int) < 2)) = true then
((idxA (some (⟨r1079.2.heap.size, 0, none⟩)) 2 1 s1216.2).bind fun a1218 =>
(World.cell? w1217 a1218).bind fun v1219 =>
(asI .i64 v1219).bind fun n1220 =>
(callF Try.prog 21 #[.pointer p2, .int .i64 n1220] w1217).bind fun r1221 =>
(Ev.asAgg 8 r1221.1).bind fun l1222 =>
(asI .i64 (l1222.getD 0 undef)).bind fun n1223 =>
(asI .i64 (l1222.getD 1 undef)).bind fun n1224 =>
(asI .u64 (l1222.getD 2 undef)).bind fun n1225 =>
(asI .i64 (l1222.getD 3 undef)).bind fun n1226 =>
(asSl (l1222.getD 4 undef)).bind fun q1227 =>
(asI .i64 (l1222.getD 5 undef)).bind fun n1228 =>
(asI .u64 (l1222.getD 6 undef)).bind fun n1229 =>
(asB (l1222.getD 7 undef)).bind fun b1230 =>
(stL (World.alloc r1221.2 (.cells #[.int .i64 0, .int .i64 0, .int .u64 0, .int .i64 0, .slice none 0 0, .int .i64 0, .int .u64 0, .bool false] 46)) (⟨r1221.2.heap.size, 0, none⟩) [.int .i64 n1223, .int .i64 n1224, .int .u64 n1225, .int .i64 n1226, .slice q1227.1 q1227.2.1 q1227.2.2, .int .i64 n1228, .int .u64 n1229, .bool b1230] 0).bind fun w1231 =>
if (ahd (Region.schedule true (opsOf (cAt [1, 1, 1, 1, 0, 1, 0, 0, 1, 1, 0, 0, 1, 1, 1, 1, 1, 1, 1, 0, 0, 1, 1, 0, 0, 1, 1, 0, 0] (bodyOf Try.f3))) (World.tape w1231 (World.drawn w1231) (.order 3 37))) 0 3 && true) = true then
((ldN (World.drew w1231) (⟨r1221.2.heap.size, 0, none⟩) 0 8).bind fun l1234 =>
(asI .i64 (l1234.getD 0 undef)).bind fun n1235 =>
(asI .i64 (l1234.getD 1 undef)).bind fun n1236 =>
(asI .u64 (l1234.getD 2 undef)).bind fun n1237 =>
(asI .i64 (l1234.getD 3 undef)).bind fun n1238 =>
(asSl (l1234.getD 4 undef)).bind fun q1239 =>
(asI .i64 (l1234.getD 5 undef)).bind fun n1240 =>
(asI .u64 (l1234.getD 6 undef)).bind fun n1241 =>
(asB (l1234.getD 7 undef)).bind fun b1242 =>
(callF Try.prog 23 #[.slice s7.2.1.1 s7.2.1.2.1 s7.2.1.2.2, .int .i64 n1220] (World.drew w1231)).bind fun r1255 =>
(Ev.asAgg 8 r1255.1).bind fun l1256 =>
(asI .i64 (l1256.getD 0 undef)).bind fun n1257 =>
(asI .i64 (l1256.getD 1 undef)).bind fun n1258 =>
(asI .u64 (l1256.getD 2 undef)).bind fun n1259 =>
(asI .i64 (l1256.getD 3 undef)).bind fun n1260 =>
(asSl (l1256.getD 4 undef)).bind fun q1261 =>
(asI .i64 (l1256.getD 5 undef)).bind fun n1262 =>
(asI .u64 (l1256.getD 6 undef)).bind fun n1263 =>
(asB (l1256.getD 7 undef)).bind fun b1264 =>
g3_j1265 s1216 p2 s7 n1220 r1221 u0 r1079 a1218 n1223 n1224 n1225 n1226 q1227 n1228 n1229 b1230 w1231 n1235 n1236 n1237 n1238 (q1239.1, q1239.2.1, q1239.2.2) n1240 n1241 b1242 n1257 n1258 n1259 n1260 (q1261.1, q1261.2.1, q1261.2.2) n1262 n1263 b1264 r1255.2)
else
((callF Try.prog 23 #[.slice s7.2.1.1 s7.2.1.2.1 s7.2.1.2.2, .int .i64 n1220] (World.drew w1231)).bind fun r1244 =>
(Ev.asAgg 8 r1244.1).bind fun l1245 =>
(asI .i64 (l1245.getD 0 undef)).bind fun n1246 =>
(asI .i64 (l1245.getD 1 undef)).bind fun n1247 =>
(asI .u64 (l1245.getD 2 undef)).bind fun n1248 =>
(asI .i64 (l1245.getD 3 undef)).bind fun n1249 =>
(asSl (l1245.getD 4 undef)).bind fun q1250 =>
(asI .i64 (l1245.getD 5 undef)).bind fun n1251 =>
(asI .u64 (l1245.getD 6 undef)).bind fun n1252 =>
(asB (l1245.getD 7 undef)).bind fun b1253 =>
(ldN r1244.2 (⟨r1221.2.heap.size, 0, none⟩) 0 8).bind fun l1266 =>
(asI .i64 (l1266.getD 0 undef)).bind fun n1267 =>
(asI .i64 (l1266.getD 1 undef)).bind fun n1268 =>
(asI .u64 (l1266.getD 2 undef)).bind fun n1269 =>
(asI .i64 (l1266.getD 3 undef)).bind fun n1270 =>
(asSl (l1266.getD 4 undef)).bind fun q1271 =>
(asI .i64 (l1266.getD 5 undef)).bind fun n1272 =>
(asI .u64 (l1266.getD 6 undef)).bind fun n1273 =>
(asB (l1266.getD 7 undef)).bind fun b1274 =>
g3_j1265 s1216 p2 s7 n1220 r1221 u0 r1079 a1218 n1223 n1224 n1225 n1226 q1227 n1228 n1229 b1230 w1231 n1267 n1268 n1269 n1270 (q1271.1, q1271.2.1, q1271.2.2) n1272 n1273 b1274 n1246 n1247 n1248 n1249 (q1250.1, q1250.2.1, q1250.2.2) n1251 n1252 b1253 r1244.2))
else
(some ((.exit 5), (s1216.1, s1216.2), w1217))

noncomputable def g3_K1312 (p2 : Option Addr) (u0 : Option Addr × Nat × Nat) : Exit → Env → World → Option (Exit × (Bool × (Option Addr × Nat × Nat) × Int) × World) :=
  blkK 5 (g3_K68 p2 u0)

/-- the loop, from a state on -/
noncomputable def g3_l1215 (p2 : Option Addr) (s7 : Bool × (Option Addr × Nat × Nat) × Int) (u0 : Option Addr × Nat × Nat) (r1079 : Value × World) (s : Bool × Int) (w : World) : Option (Exit × (Bool × (Option Addr × Nat × Nat) × Int) × World) :=
  loopM Try.prog 202 3 g3_ann (cAt [1, 1, 1, 1, 0, 1, 0, 0, 1, 1, 0, 0, 1, 1, 1, 1, 1, 1, 1, 0, 0] (bodyOf Try.f3)) [0, 1, 1, 1, 1, 1, 1, 1, 0, 0, 1, 1, 0, 0, 1, 0, 1, 1, 1, 1] (g3_K1312 p2 u0) ((g3_l1215_cs p2 s7 u0 r1079) ++ sputs [(2, .b), (176, .i .i64)] s) w

/-- behind the loop, left by x5 -/
noncomputable def g3_l1215_x5 (s7 : Bool × (Option Addr × Nat × Nat) × Int) (t1313 : Bool × Int) (w1314 : World) : Option (Exit × (Bool × (Option Addr × Nat × Nat) × Int) × World) :=
some (.normal, (t1313.1, (s7.2.1.1, s7.2.1.2.1, s7.2.1.2.2), (IntKind.i64.wrap (s7.2.2 + 1))), w1314)

def g3_l1322_cs (p2 : Option Addr) (s7 : Bool × (Option Addr × Nat × Nat) × Int) (u0 : Option Addr × Nat × Nat) (r1079 : Value × World) : List (Nat × Value) := ([(3, .pointer p2), (4, .slice s7.2.1.1 s7.2.1.2.1 s7.2.1.2.2), (26, .slice u0.1 u0.2.1 u0.2.2), (27, .int .i64 (u0.2.1 : Int)), (28, .int .i64 s7.2.2), (174, .slice (some (⟨r1079.2.heap.size, 0, none⟩)) 2 2), (175, .int .i64 2)] : List (Nat × Value))

noncomputable def g3_K1413 (p2 : Option Addr) (s7 : Bool × (Option Addr × Nat × Nat) × Int) (u0 : Option Addr × Nat × Nat) (r1079 : Value × World) : Exit → Env → World → Option (Exit × (Bool × Int) × World) :=
  fun e ρ w => ((List.map (·.1) (g3_l1322_cs p2 s7 u0 r1079)).mapM ρ).bind fun _ => loopK [(2, .b), (176, .i .i64)] e ρ w

noncomputable def g3_K1414 (p2 : Option Addr) (s7 : Bool × (Option Addr × Nat × Nat) × Int) (u0 : Option Addr × Nat × Nat) (r1079 : Value × World) : Exit → Env → World → Option (Exit × (Bool × Int) × World) :=
  seqK (ev Try.prog 202 3 g3_ann (cAt [1, 1, 1, 1, 0, 1, 0, 0, 1, 1, 0, 0, 1, 1, 1, 1, 1, 1, 1, 0, 0, 1, 1, 1] (bodyOf Try.f3)) [1, 1, 1, 0, 0, 1, 1, 1, 1, 1, 1, 1, 0, 0, 1, 1, 0, 0, 1, 0, 1, 1, 1, 1] (g3_K1413 p2 s7 u0 r1079)) (g3_K1413 p2 s7 u0 r1079)

noncomputable def g3_K1415 (p2 : Option Addr) (s7 : Bool × (Option Addr × Nat × Nat) × Int) (u0 : Option Addr × Nat × Nat) (r1079 : Value × World) : Exit → Env → World → Option (Exit × (Bool × Int) × World) :=
  blkK 6 (g3_K1414 p2 s7 u0 r1079)

noncomputable def g3_K1416 (p2 : Option Addr) (s7 : Bool × (Option Addr × Nat × Nat) × Int) (u0 : Option Addr × Nat × Nat) (r1079 : Value × World) : Exit → Env → World → Option (Exit × (Bool × Int) × World) :=
  blkK 7 (g3_K1415 p2 s7 u0 r1079)

def g3_l1406_cs (s1323 : Bool × Int) (p2 : Option Addr) (s7 : Bool × (Option Addr × Nat × Nat) × Int) (r1328 : Value × World) (u0 : Option Addr × Nat × Nat) (r1079 : Value × World) (q1404 : Option Addr × Nat × Nat) : List (Nat × Value) := ([(2, .bool s1323.1), (3, .pointer p2), (4, .slice s7.2.1.1 s7.2.1.2.1 s7.2.1.2.2), (17, .pointer (some (⟨r1328.2.heap.size, 0, none⟩))), (26, .slice u0.1 u0.2.1 u0.2.2), (27, .int .i64 (u0.2.1 : Int)), (28, .int .i64 s7.2.2), (174, .slice (some (⟨r1079.2.heap.size, 0, none⟩)) 2 2), (175, .int .i64 2), (176, .int .i64 s1323.2), (191, .int .i64 (q1404.2.1 : Int))] : List (Nat × Value))

/-- the loop, from a state on -/
noncomputable def g3_l1406 (s1323 : Bool × Int) (p2 : Option Addr) (s7 : Bool × (Option Addr × Nat × Nat) × Int) (r1328 : Value × World) (u0 : Option Addr × Nat × Nat) (r1079 : Value × World) (q1404 : Option Addr × Nat × Nat) (s : Int) (w : World) : Option (Exit × (Bool × Int) × World) :=
  loopM Try.prog 202 3 g3_ann (cAt [1, 1, 1, 1, 0, 1, 0, 0, 1, 1, 0, 0, 1, 1, 1, 1, 1, 1, 1, 0, 0, 1, 1, 0, 0, 1, 1, 1, 1, 0, 0] (bodyOf Try.f3)) [0, 1, 1, 1, 1, 0, 0, 1, 1, 0, 0, 1, 1, 1, 1, 1, 1, 1, 0, 0, 1, 1, 0, 0, 1, 0, 1, 1, 1, 1] (g3_K1416 p2 s7 u0 r1079) ((g3_l1406_cs s1323 p2 s7 r1328 u0 r1079 q1404) ++ sputs [(192, .i .i64)] s) w

noncomputable def g3_j1372 (s1323 : Bool × Int) (p2 : Option Addr) (s7 : Bool × (Option Addr × Nat × Nat) × Int) (n1327 : Int) (r1328 : Value × World) (u0 : Option Addr × Nat × Nat) (r1079 : Value × World) (a1325 : Addr) (n1330 : Int) (n1331 : Int) (n1332 : Int) (n1333 : Int) (q1334 : Option Addr × Nat × Nat) (n1335 : Int) (n1336 : Int) (b1337 : Bool) (w1338 : World) (x1382 : Int) (x1383 : Int) (x1384 : Int) (x1385 : Int) (x1386 : Option Addr × Nat × Nat) (x1387 : Int) (x1388 : Int) (x1389 : Bool) (x1390 : Int) (x1391 : Int) (x1392 : Int) (x1393 : Int) (x1394 : Option Addr × Nat × Nat) (x1395 : Int) (x1396 : Int) (x1397 : Bool) (w1398 : World) : Option (Exit × (Bool × Int) × World) :=
(callF Try.prog 22 #[.agg #[.int .i64 x1382, .int .i64 x1383, .int .u64 x1384, .int .i64 x1385, .slice x1386.1 x1386.2.1 x1386.2.2, .int .i64 x1387, .int .u64 x1388, .bool x1389], .agg #[.int .i64 x1390, .int .i64 x1391, .int .u64 x1392, .int .i64 x1393, .slice x1394.1 x1394.2.1 x1394.2.2, .int .i64 x1395, .int .u64 x1396, .bool x1397]] w1398).bind fun r1399 =>
(asB r1399.1).bind fun b1400 =>
if (!b1400) = true then
(some (.ret, (false, s1323.2), r1399.2))
else
((World.cell? r1399.2 (Addr.add (⟨r1328.2.heap.size, 0, none⟩) 4)).bind fun v1403 =>
(asSl v1403).bind fun q1404 =>
g3_l1406 s1323 p2 s7 r1328 u0 r1079 q1404 0 r1399.2)

/-- the round of a loop (penstock/penstocklaw15.TxnPlays) -/
noncomputable def g3_l1406_b (q1404 : Option Addr × Nat × Nat) (r1328 : Value × World) (s1323 : Bool × Int) (p2 : Option Addr) (s7 : Bool × (Option Addr × Nat × Nat) × Int) (u0 : Option Addr × Nat × Nat) (r1079 : Value × World) (s1407 : Int) (w1408 : World) : Option (Exit × (Int) × World) :=
if (decide ((s1407 : Int) < (q1404.2.1 : Int))) = true then
((World.cell? w1408 (Addr.add (⟨r1328.2.heap.size, 0, none⟩) 4)).bind fun v1409 =>
(asSl v1409).bind fun q1410 =>
(idxA q1410.1 q1410.2.1 1 s1407).bind fun a1411 =>
(st1 w1408 a1411 (.int .i64 9)).bind fun w1412 =>
some (.normal, (IntKind.i64.wrap (s1407 + 1)), w1412))
else
(some ((.exit 7), s1407, w1408))

/-- behind the loop, left by x7 -/
noncomputable def g3_l1406_x7 (s1323 : Bool × Int) (t1417 : Int) (w1418 : World) : Option (Exit × (Bool × Int) × World) :=
some (.normal, (s1323.1, (IntKind.i64.wrap (s1323.2 + 1))), w1418)

/-- the round of a loop (penstock/penstocklaw15.TxnPlays) -/
noncomputable def g3_l1322_b (r1079 : Value × World) (p2 : Option Addr) (s7 : Bool × (Option Addr × Nat × Nat) × Int) (u0 : Option Addr × Nat × Nat) (s1323 : Bool × Int) (w1324 : World) : Option (Exit × (Bool × Int) × World) :=
if (decide ((s1323.2 : Int) < 2)) = true then
((idxA (some (⟨r1079.2.heap.size, 0, none⟩)) 2 1 s1323.2).bind fun a1325 =>
(World.cell? w1324 a1325).bind fun v1326 =>
(asI .i64 v1326).bind fun n1327 =>
(callF Try.prog 21 #[.pointer p2, .int .i64 n1327] w1324).bind fun r1328 =>
(Ev.asAgg 8 r1328.1).bind fun l1329 =>
(asI .i64 (l1329.getD 0 undef)).bind fun n1330 =>
(asI .i64 (l1329.getD 1 undef)).bind fun n1331 =>
(asI .u64 (l1329.getD 2 undef)).bind fun n1332 =>
(asI .i64 (l1329.getD 3 undef)).bind fun n1333 =>
(asSl (l1329.getD 4 undef)).bind fun q1334 =>
(asI .i64 (l1329.getD 5 undef)).bind fun n1335 =>
(asI .u64 (l1329.getD 6 undef)).bind fun n1336 =>
(asB (l1329.getD 7 undef)).bind fun b1337 =>
(stL (World.alloc r1328.2 (.cells #[.int .i64 0, .int .i64 0, .int .u64 0, .int .i64 0, .slice none 0 0, .int .i64 0, .int .u64 0, .bool false] 46)) (⟨r1328.2.heap.size, 0, none⟩) [.int .i64 n1330, .int .i64 n1331, .int .u64 n1332, .int .i64 n1333, .slice q1334.1 q1334.2.1 q1334.2.2, .int .i64 n1335, .int .u64 n1336, .bool b1337] 0).bind fun w1338 =>
if (ahd (Region.schedule true (opsOf (cAt [1, 1, 1, 1, 0, 1, 0, 0, 1, 1, 0, 0, 1, 1, 1, 1, 1, 1, 1, 0, 0, 1, 1, 0, 0, 1, 1, 0, 0] (bodyOf Try.f3))) (World.tape w1338 (World.drawn w1338) (.order 3 37))) 0 3 && true) = true then
((ldN (World.drew w1338) (⟨r1328.2.heap.size, 0, none⟩) 0 8).bind fun l1341 =>
(asI .i64 (l1341.getD 0 undef)).bind fun n1342 =>
(asI .i64 (l1341.getD 1 undef)).bind fun n1343 =>
(asI .u64 (l1341.getD 2 undef)).bind fun n1344 =>
(asI .i64 (l1341.getD 3 undef)).bind fun n1345 =>
(asSl (l1341.getD 4 undef)).bind fun q1346 =>
(asI .i64 (l1341.getD 5 undef)).bind fun n1347 =>
(asI .u64 (l1341.getD 6 undef)).bind fun n1348 =>
(asB (l1341.getD 7 undef)).bind fun b1349 =>
(callF Try.prog 23 #[.slice s7.2.1.1 s7.2.1.2.1 s7.2.1.2.2, .int .i64 n1327] (World.drew w1338)).bind fun r1362 =>
(Ev.asAgg 8 r1362.1).bind fun l1363 =>
(asI .i64 (l1363.getD 0 undef)).bind fun n1364 =>
(asI .i64 (l1363.getD 1 undef)).bind fun n1365 =>
(asI .u64 (l1363.getD 2 undef)).bind fun n1366 =>
(asI .i64 (l1363.getD 3 undef)).bind fun n1367 =>
(asSl (l1363.getD 4 undef)).bind fun q1368 =>
(asI .i64 (l1363.getD 5 undef)).bind fun n1369 =>
(asI .u64 (l1363.getD 6 undef)).bind fun n1370 =>
(asB (l1363.getD 7 undef)).bind fun b1371 =>
g3_j1372 s1323 p2 s7 n1327 r1328 u0 r1079 a1325 n1330 n1331 n1332 n1333 q1334 n1335 n1336 b1337 w1338 n1342 n1343 n1344 n1345 (q1346.1, q1346.2.1, q1346.2.2) n1347 n1348 b1349 n1364 n1365 n1366 n1367 (q1368.1, q1368.2.1, q1368.2.2) n1369 n1370 b1371 r1362.2)
else
((callF Try.prog 23 #[.slice s7.2.1.1 s7.2.1.2.1 s7.2.1.2.2, .int .i64 n1327] (World.drew w1338)).bind fun r1351 =>
(Ev.asAgg 8 r1351.1).bind fun l1352 =>
(asI .i64 (l1352.getD 0 undef)).bind fun n1353 =>
(asI .i64 (l1352.getD 1 undef)).bind fun n1354 =>
(asI .u64 (l1352.getD 2 undef)).bind fun n1355 =>
(asI .i64 (l1352.getD 3 undef)).bind fun n1356 =>
(asSl (l1352.getD 4 undef)).bind fun q1357 =>
(asI .i64 (l1352.getD 5 undef)).bind fun n1358 =>
(asI .u64 (l1352.getD 6 undef)).bind fun n1359 =>
(asB (l1352.getD 7 undef)).bind fun b1360 =>
(ldN r1351.2 (⟨r1328.2.heap.size, 0, none⟩) 0 8).bind fun l1373 =>
(asI .i64 (l1373.getD 0 undef)).bind fun n1374 =>
(asI .i64 (l1373.getD 1 undef)).bind fun n1375 =>
(asI .u64 (l1373.getD 2 undef)).bind fun n1376 =>
(asI .i64 (l1373.getD 3 undef)).bind fun n1377 =>
(asSl (l1373.getD 4 undef)).bind fun q1378 =>
(asI .i64 (l1373.getD 5 undef)).bind fun n1379 =>
(asI .u64 (l1373.getD 6 undef)).bind fun n1380 =>
(asB (l1373.getD 7 undef)).bind fun b1381 =>
g3_j1372 s1323 p2 s7 n1327 r1328 u0 r1079 a1325 n1330 n1331 n1332 n1333 q1334 n1335 n1336 b1337 w1338 n1374 n1375 n1376 n1377 (q1378.1, q1378.2.1, q1378.2.2) n1379 n1380 b1381 n1353 n1354 n1355 n1356 (q1357.1, q1357.2.1, q1357.2.2) n1358 n1359 b1360 r1351.2))
else
(some ((.exit 5), (s1323.1, s1323.2), w1324))

noncomputable def g3_K1419 (p2 : Option Addr) (u0 : Option Addr × Nat × Nat) : Exit → Env → World → Option (Exit × (Bool × (Option Addr × Nat × Nat) × Int) × World) :=
  blkK 5 (g3_K68 p2 u0)

/-- the loop, from a state on -/
noncomputable def g3_l1322 (p2 : Option Addr) (s7 : Bool × (Option Addr × Nat × Nat) × Int) (u0 : Option Addr × Nat × Nat) (r1079 : Value × World) (s : Bool × Int) (w : World) : Option (Exit × (Bool × (Option Addr × Nat × Nat) × Int) × World) :=
  loopM Try.prog 202 3 g3_ann (cAt [1, 1, 1, 1, 0, 1, 0, 0, 1, 1, 0, 0, 1, 1, 1, 1, 1, 1, 1, 0, 0] (bodyOf Try.f3)) [0, 1, 1, 1, 1, 1, 1, 1, 0, 0, 1, 1, 0, 0, 1, 0, 1, 1, 1, 1] (g3_K1419 p2 u0) ((g3_l1322_cs p2 s7 u0 r1079) ++ sputs [(2, .b), (176, .i .i64)] s) w

/-- behind the loop, left by x5 -/
noncomputable def g3_l1322_x5 (s7 : Bool × (Option Addr × Nat × Nat) × Int) (t1420 : Bool × Int) (w1421 : World) : Option (Exit × (Bool × (Option Addr × Nat × Nat) × Int) × World) :=
some (.normal, (t1420.1, (s7.2.1.1, s7.2.1.2.1, s7.2.1.2.2), (IntKind.i64.wrap (s7.2.2 + 1))), w1421)

/-- the round of a loop (penstock/penstocklaw15.TxnPlays) -/
noncomputable def g3_l6_b (u0 : Option Addr × Nat × Nat) (p2 : Option Addr) (s7 : Bool × (Option Addr × Nat × Nat) × Int) (w8 : World) : Option (Exit × (Bool × (Option Addr × Nat × Nat) × Int) × World) :=
if (decide ((s7.2.2 : Int) < (u0.2.1 : Int))) = true then
((idxA u0.1 u0.2.1 15 s7.2.2).bind fun a9 =>
(ldN w8 a9 0 15).bind fun l10 =>
(asI .i64 (l10.getD 0 undef)).bind fun n11 =>
(asI .i64 (l10.getD 1 undef)).bind fun n12 =>
(asI .i64 (l10.getD 2 undef)).bind fun n13 =>
(asI .i64 (l10.getD 3 undef)).bind fun n14 =>
(asI .i64 (l10.getD 4 undef)).bind fun n15 =>
(asI .u64 (l10.getD 5 undef)).bind fun n16 =>
(asB (l10.getD 6 undef)).bind fun b17 =>
(asB (l10.getD 7 undef)).bind fun b18 =>
(asI .i64 (l10.getD 8 undef)).bind fun n19 =>
(asI .i64 (l10.getD 9 undef)).bind fun n20 =>
(asI .i64 (l10.getD 10 undef)).bind fun n21 =>
(asI .u64 (l10.getD 11 undef)).bind fun n22 =>
(asI .i64 (l10.getD 12 undef)).bind fun n23 =>
(asSl (l10.getD 13 undef)).bind fun q24 =>
(asB (l10.getD 14 undef)).bind fun b25 =>
(stL (World.alloc w8 (.cells #[.int .i64 0, .int .i64 0, .int .i64 0, .int .i64 0, .int .i64 0, .int .u64 0, .bool false, .bool false, .int .i64 0, .int .i64 0, .int .i64 0, .int .u64 0, .int .i64 0, .slice none 0 0, .bool false] 32)) (⟨w8.heap.size, 0, none⟩) [.int .i64 n11, .int .i64 n12, .int .i64 n13, .int .i64 n14, .int .i64 n15, .int .u64 n16, .bool b17, .bool b18, .int .i64 n19, .int .i64 n20, .int .i64 n21, .int .u64 n22, .int .i64 n23, .slice q24.1 q24.2.1 q24.2.2, .bool b25] 0).bind fun w26 =>
(World.cell? (World.alloc (World.alloc w26 (.cells #[.int .i64 0, .int .i64 0, .int .i64 0, .int .u64 0, .int .i64 0, .slice none 0 0, .bool false] 30)) (.cells #[.int .i64 0, .int .i64 0, .int .i64 0, .int .u64 0, .int .i64 0, .slice none 0 0, .bool false] 30)) (⟨w8.heap.size, 0, none⟩)).bind fun v27 =>
(asI .i64 v27).bind fun n28 =>
if ((n28 : Int) == 0) = true then
((ldN (World.alloc (World.alloc w26 (.cells #[.int .i64 0, .int .i64 0, .int .i64 0, .int .u64 0, .int .i64 0, .slice none 0 0, .bool false] 30)) (.cells #[.int .i64 0, .int .i64 0, .int .i64 0, .int .u64 0, .int .i64 0, .slice none 0 0, .bool false] 30)) (Addr.add (⟨w8.heap.size, 0, none⟩) 8) 0 7).bind fun l29 =>
(asI .i64 (l29.getD 0 undef)).bind fun n30 =>
(asI .i64 (l29.getD 1 undef)).bind fun n31 =>
(asI .i64 (l29.getD 2 undef)).bind fun n32 =>
(asI .u64 (l29.getD 3 undef)).bind fun n33 =>
(asI .i64 (l29.getD 4 undef)).bind fun n34 =>
(asSl (l29.getD 5 undef)).bind fun q35 =>
(asB (l29.getD 6 undef)).bind fun b36 =>
(callF Try.prog 12 #[.agg #[.int .i64 n30, .int .i64 n31, .int .i64 n32, .int .u64 n33, .int .i64 n34, .slice q35.1 q35.2.1 q35.2.2, .bool b36]] (World.alloc (World.alloc w26 (.cells #[.int .i64 0, .int .i64 0, .int .i64 0, .int .u64 0, .int .i64 0, .slice none 0 0, .bool false] 30)) (.cells #[.int .i64 0, .int .i64 0, .int .i64 0, .int .u64 0, .int .i64 0, .slice none 0 0, .bool false] 30))).bind fun r37 =>
(Ev.asAgg 7 r37.1).bind fun l38 =>
(asI .i64 (l38.getD 0 undef)).bind fun n39 =>
(asI .i64 (l38.getD 1 undef)).bind fun n40 =>
(asI .i64 (l38.getD 2 undef)).bind fun n41 =>
(asI .u64 (l38.getD 3 undef)).bind fun n42 =>
(asI .i64 (l38.getD 4 undef)).bind fun n43 =>
(asSl (l38.getD 5 undef)).bind fun q44 =>
(asB (l38.getD 6 undef)).bind fun b45 =>
(stL (World.alloc r37.2 (.cells #[.int .i64 0, .int .i64 0, .int .i64 0, .int .u64 0, .int .i64 0, .slice none 0 0, .bool false] 30)) (⟨r37.2.heap.size, 0, none⟩) [.int .i64 n39, .int .i64 n40, .int .i64 n41, .int .u64 n42, .int .i64 n43, .slice q44.1 q44.2.1 q44.2.2, .bool b45] 0).bind fun w46 =>
(ldN w46 (⟨r37.2.heap.size, 0, none⟩) 0 7).bind fun l47 =>
(asI .i64 (l47.getD 0 undef)).bind fun n48 =>
(asI .i64 (l47.getD 1 undef)).bind fun n49 =>
(asI .i64 (l47.getD 2 undef)).bind fun n50 =>
(asI .u64 (l47.getD 3 undef)).bind fun n51 =>
(asI .i64 (l47.getD 4 undef)).bind fun n52 =>
(asSl (l47.getD 5 undef)).bind fun q53 =>
(asB (l47.getD 6 undef)).bind fun b54 =>
(callF Try.prog 13 #[.pointer p2, .agg #[.int .i64 n48, .int .i64 n49, .int .i64 n50, .int .u64 n51, .int .i64 n52, .slice q53.1 q53.2.1 q53.2.2, .bool b54]] w46).bind fun r55 =>
(asTup 0 r55.1).bind fun _ =>
(World.cell? r55.2 (Addr.add (⟨r37.2.heap.size, 0, none⟩) 5)).bind fun v56 =>
(asSl v56).bind fun q57 =>
g3_l59 s7 p2 w8 w26 r37 u0 q57 0 r55.2)
else
(if ((n28 : Int) == 1) = true then
((World.cell? (World.alloc (World.alloc w26 (.cells #[.int .i64 0, .int .i64 0, .int .i64 0, .int .u64 0, .int .i64 0, .slice none 0 0, .bool false] 30)) (.cells #[.int .i64 0, .int .i64 0, .int .i64 0, .int .u64 0, .int .i64 0, .slice none 0 0, .bool false] 30)) (Addr.add (⟨w8.heap.size, 0, none⟩) 1)).bind fun v219 =>
(asI .i64 v219).bind fun n220 =>
(World.cell? (World.alloc (World.alloc w26 (.cells #[.int .i64 0, .int .i64 0, .int .i64 0, .int .u64 0, .int .i64 0, .slice none 0 0, .bool false] 30)) (.cells #[.int .i64 0, .int .i64 0, .int .i64 0, .int .u64 0, .int .i64 0, .slice none 0 0, .bool false] 30)) (Addr.add (⟨w8.heap.size, 0, none⟩) 2)).bind fun v221 =>
(asI .i64 v221).bind fun n222 =>
(World.cell? (World.alloc (World.alloc w26 (.cells #[.int .i64 0, .int .i64 0, .int .i64 0, .int .u64 0, .int .i64 0, .slice none 0 0, .bool false] 30)) (.cells #[.int .i64 0, .int .i64 0, .int .i64 0, .int .u64 0, .int .i64 0, .slice none 0 0, .bool false] 30)) (Addr.add (⟨w8.heap.size, 0, none⟩) 5)).bind fun v223 =>
(asI .u64 v223).bind fun n224 =>
(callF Try.prog 14 #[.pointer p2, .int .i64 n220, .int .i64 n222, .int .u64 n224] (World.alloc (World.alloc w26 (.cells #[.int .i64 0, .int .i64 0, .int .i64 0, .int .u64 0, .int .i64 0, .slice none 0 0, .bool false] 30)) (.cells #[.int .i64 0, .int .i64 0, .int .i64 0, .int .u64 0, .int .i64 0, .slice none 0 0, .bool false] 30))).bind fun r225 =>
(asTup 3 r225.1).bind fun l226 =>
(Ev.asAgg 7 (l226.getD 0 undef)).bind fun l227 =>
(asI .i64 (l227.getD 0 undef)).bind fun n228 =>
(asI .i64 (l227.getD 1 undef)).bind fun n229 =>
(asI .i64 (l227.getD 2 undef)).bind fun n230 =>
(asI .u64 (l227.getD 3 undef)).bind fun n231 =>
(asI .i64 (l227.getD 4 undef)).bind fun n232 =>
(asSl (l227.getD 5 undef)).bind fun q233 =>
(asB (l227.getD 6 undef)).bind fun b234 =>
(asB (l226.getD 1 undef)).bind fun b235 =>
(asI .i64 (l226.getD 2 undef)).bind fun n236 =>
(stL r225.2 (⟨w26.heap.size, 0, none⟩) [.int .i64 n228, .int .i64 n229, .int .i64 n230, .int .u64 n231, .int .i64 n232, .slice q233.1 q233.2.1 q233.2.2, .bool b234] 0).bind fun w237 =>
(World.cell? w237 (Addr.add (⟨w8.heap.size, 0, none⟩) 1)).bind fun v238 =>
(asI .i64 v238).bind fun n239 =>
(World.cell? w237 (Addr.add (⟨w8.heap.size, 0, none⟩) 2)).bind fun v240 =>
(asI .i64 v240).bind fun n241 =>
(World.cell? w237 (Addr.add (⟨w8.heap.size, 0, none⟩) 5)).bind fun v242 =>
(asI .u64 v242).bind fun n243 =>
(callF Try.prog 15 #[.slice s7.2.1.1 s7.2.1.2.1 s7.2.1.2.2, .int .i64 n239, .int .i64 n241, .int .u64 n243] w237).bind fun r244 =>
(asTup 3 r244.1).bind fun l245 =>
(Ev.asAgg 7 (l245.getD 0 undef)).bind fun l246 =>
(asI .i64 (l246.getD 0 undef)).bind fun n247 =>
(asI .i64 (l246.getD 1 undef)).bind fun n248 =>
(asI .i64 (l246.getD 2 undef)).bind fun n249 =>
(asI .u64 (l246.getD 3 undef)).bind fun n250 =>
(asI .i64 (l246.getD 4 undef)).bind fun n251 =>
(asSl (l246.getD 5 undef)).bind fun q252 =>
(asB (l246.getD 6 undef)).bind fun b253 =>
(asB (l245.getD 1 undef)).bind fun b254 =>
(asI .i64 (l245.getD 2 undef)).bind fun n255 =>
(stL r244.2 (⟨(World.alloc w26 (.cells #[.int .i64 0, .int .i64 0, .int .i64 0, .int .u64 0, .int .i64 0, .slice none 0 0, .bool false] 30)).heap.size, 0, none⟩) [.int .i64 n247, .int .i64 n248, .int .i64 n249, .int .u64 n250, .int .i64 n251, .slice q252.1 q252.2.1 q252.2.2, .bool b253] 0).bind fun w256 =>
if (!(b235 == b254)) = true then
(some (.ret, (false, (s7.2.1.1, s7.2.1.2.1, s7.2.1.2.2), s7.2.2), w256))
else
(if ((n236 : Int) != n255) = true then
(some (.ret, (false, (s7.2.1.1, s7.2.1.2.1, s7.2.1.2.2), s7.2.2), w256))
else
((ldN w256 (⟨w26.heap.size, 0, none⟩) 0 7).bind fun l257 =>
(asI .i64 (l257.getD 0 undef)).bind fun n258 =>
(asI .i64 (l257.getD 1 undef)).bind fun n259 =>
(asI .i64 (l257.getD 2 undef)).bind fun n260 =>
(asI .u64 (l257.getD 3 undef)).bind fun n261 =>
(asI .i64 (l257.getD 4 undef)).bind fun n262 =>
(asSl (l257.getD 5 undef)).bind fun q263 =>
(asB (l257.getD 6 undef)).bind fun b264 =>
(ldN w256 (⟨(World.alloc w26 (.cells #[.int .i64 0, .int .i64 0, .int .i64 0, .int .u64 0, .int .i64 0, .slice none 0 0, .bool false] 30)).heap.size, 0, none⟩) 0 7).bind fun l265 =>
(asI .i64 (l265.getD 0 undef)).bind fun n266 =>
(asI .i64 (l265.getD 1 undef)).bind fun n267 =>
(asI .i64 (l265.getD 2 undef)).bind fun n268 =>
(asI .u64 (l265.getD 3 undef)).bind fun n269 =>
(asI .i64 (l265.getD 4 undef)).bind fun n270 =>
(asSl (l265.getD 5 undef)).bind fun q271 =>
(asB (l265.getD 6 undef)).bind fun b272 =>
(callF Try.prog 20 #[.agg #[.int .i64 n258, .int .i64 n259, .int .i64 n260, .int .u64 n261, .int .i64 n262, .slice q263.1 q263.2.1 q263.2.2, .bool b264], .agg #[.int .i64 n266, .int .i64 n267, .int .i64 n268, .int .u64 n269, .int .i64 n270, .slice q271.1 q271.2.1 q271.2.2, .bool b272]] w256).bind fun r273 =>
(asB r273.1).bind fun b274 =>
if (!b274) = true then
(some (.ret, (false, (s7.2.1.1, s7.2.1.2.1, s7.2.1.2.2), s7.2.2), r273.2))
else
(if b235 = true then
((World.cell? r273.2 (Addr.add (⟨w8.heap.size, 0, none⟩) 7)).bind fun v276 =>
(asB v276).bind fun b277 =>
if b277 = true then
((ldN r273.2 (⟨w26.heap.size, 0, none⟩) 0 7).bind fun l278 =>
(asI .i64 (l278.getD 0 undef)).bind fun n279 =>
(asI .i64 (l278.getD 1 undef)).bind fun n280 =>
(asI .i64 (l278.getD 2 undef)).bind fun n281 =>
(asI .u64 (l278.getD 3 undef)).bind fun n282 =>
(asI .i64 (l278.getD 4 undef)).bind fun n283 =>
(asSl (l278.getD 5 undef)).bind fun q284 =>
(asB (l278.getD 6 undef)).bind fun b285 =>
(callF Try.prog 13 #[.pointer p2, .agg #[.int .i64 n279, .int .i64 n280, .int .i64 n281, .int .u64 n282, .int .i64 n283, .slice q284.1 q284.2.1 q284.2.2, .bool b285]] r273.2).bind fun r286 =>
(asTup 0 r286.1).bind fun _ =>
(ldN r286.2 (⟨(World.alloc w26 (.cells #[.int .i64 0, .int .i64 0, .int .i64 0, .int .u64 0, .int .i64 0, .slice none 0 0, .bool false] 30)).heap.size, 0, none⟩) 0 7).bind fun l287 =>
(asI .i64 (l287.getD 0 undef)).bind fun n288 =>
(asI .i64 (l287.getD 1 undef)).bind fun n289 =>
(asI .i64 (l287.getD 2 undef)).bind fun n290 =>
(asI .u64 (l287.getD 3 undef)).bind fun n291 =>
(asI .i64 (l287.getD 4 undef)).bind fun n292 =>
(asSl (l287.getD 5 undef)).bind fun q293 =>
(asB (l287.getD 6 undef)).bind fun b294 =>
(callB Try.prog .append #[26, 26] 26 #[false, false] #[.slice s7.2.1.1 s7.2.1.2.1 s7.2.1.2.2, .slice (some (⟨r286.2.heap.size, 0, none⟩)) 1 1] (World.alloc r286.2 (.cells #[.int .i64 n288, .int .i64 n289, .int .i64 n290, .int .u64 n291, .int .i64 n292, .slice q293.1 q293.2.1 q293.2.2, .bool b294] 30))).bind fun r295 =>
(asSl r295.1).bind fun q296 =>
(World.cell? r295.2 (Addr.add (⟨w8.heap.size, 0, none⟩) 1)).bind fun v297 =>
(asI .i64 v297).bind fun n298 =>
(World.cell? r295.2 (Addr.add (Addr.add (⟨w8.heap.size, 0, none⟩) 8) 1)).bind fun v299 =>
(asI .i64 v299).bind fun n300 =>
g3_l302 p2 q296 u0 s7 r295 (s7.1, 0) (World.alloc r295.2 (.cells #[.int .i64 n298, .int .i64 n300] 3)))
else
((World.cell? r273.2 (Addr.add (⟨w8.heap.size, 0, none⟩) 1)).bind fun v404 =>
(asI .i64 v404).bind fun n405 =>
(World.cell? r273.2 (Addr.add (Addr.add (⟨w8.heap.size, 0, none⟩) 8) 1)).bind fun v406 =>
(asI .i64 v406).bind fun n407 =>
g3_l409 p2 s7 u0 r273 (s7.1, 0) (World.alloc r273.2 (.cells #[.int .i64 n405, .int .i64 n407] 3))))
else
((World.cell? r273.2 (Addr.add (⟨w8.heap.size, 0, none⟩) 1)).bind fun v511 =>
(asI .i64 v511).bind fun n512 =>
(World.cell? r273.2 (Addr.add (Addr.add (⟨w8.heap.size, 0, none⟩) 8) 1)).bind fun v513 =>
(asI .i64 v513).bind fun n514 =>
g3_l516 p2 s7 u0 r273 (s7.1, 0) (World.alloc r273.2 (.cells #[.int .i64 n512, .int .i64 n514] 3)))))))
else
(if ((n28 : Int) == 2) = true then
((World.cell? (World.alloc (World.alloc w26 (.cells #[.int .i64 0, .int .i64 0, .int .i64 0, .int .u64 0, .int .i64 0, .slice none 0 0, .bool false] 30)) (.cells #[.int .i64 0, .int .i64 0, .int .i64 0, .int .u64 0, .int .i64 0, .slice none 0 0, .bool false] 30)) (Addr.add (⟨w8.heap.size, 0, none⟩) 1)).bind fun v618 =>
(asI .i64 v618).bind fun n619 =>
(World.cell? (World.alloc (World.alloc w26 (.cells #[.int .i64 0, .int .i64 0, .int .i64 0, .int .u64 0, .int .i64 0, .slice none 0 0, .bool false] 30)) (.cells #[.int .i64 0, .int .i64 0, .int .i64 0, .int .u64 0, .int .i64 0, .slice none 0 0, .bool false] 30)) (Addr.add (⟨w8.heap.size, 0, none⟩) 5)).bind fun v620 =>
(asI .u64 v620).bind fun n621 =>
(World.cell? (World.alloc (World.alloc w26 (.cells #[.int .i64 0, .int .i64 0, .int .i64 0, .int .u64 0, .int .i64 0, .slice none 0 0, .bool false] 30)) (.cells #[.int .i64 0, .int .i64 0, .int .i64 0, .int .u64 0, .int .i64 0, .slice none 0 0, .bool false] 30)) (Addr.add (⟨w8.heap.size, 0, none⟩) 3)).bind fun v622 =>
(asI .i64 v622).bind fun n623 =>
(World.cell? (World.alloc (World.alloc w26 (.cells #[.int .i64 0, .int .i64 0, .int .i64 0, .int .u64 0, .int .i64 0, .slice none 0 0, .bool false] 30)) (.cells #[.int .i64 0, .int .i64 0, .int .i64 0, .int .u64 0, .int .i64 0, .slice none 0 0, .bool false] 30)) (Addr.add (⟨w8.heap.size, 0, none⟩) 4)).bind fun v624 =>
(asI .i64 v624).bind fun n625 =>
(callF Try.prog 16 #[.pointer p2, .int .i64 n619, .int .u64 n621, .int .i64 n623, .int .i64 n625] (World.alloc (World.alloc w26 (.cells #[.int .i64 0, .int .i64 0, .int .i64 0, .int .u64 0, .int .i64 0, .slice none 0 0, .bool false] 30)) (.cells #[.int .i64 0, .int .i64 0, .int .i64 0, .int .u64 0, .int .i64 0, .slice none 0 0, .bool false] 30))).bind fun r626 =>
(asTup 3 r626.1).bind fun l627 =>
(Ev.asAgg 7 (l627.getD 0 undef)).bind fun l628 =>
(asI .i64 (l628.getD 0 undef)).bind fun n629 =>
(asI .i64 (l628.getD 1 undef)).bind fun n630 =>
(asI .i64 (l628.getD 2 undef)).bind fun n631 =>
(asI .u64 (l628.getD 3 undef)).bind fun n632 =>
(asI .i64 (l628.getD 4 undef)).bind fun n633 =>
(asSl (l628.getD 5 undef)).bind fun q634 =>
(asB (l628.getD 6 undef)).bind fun b635 =>
(asB (l627.getD 1 undef)).bind fun b636 =>
(asI .i64 (l627.getD 2 undef)).bind fun n637 =>
(stL r626.2 (⟨w26.heap.size, 0, none⟩) [.int .i64 n629, .int .i64 n630, .int .i64 n631, .int .u64 n632, .int .i64 n633, .slice q634.1 q634.2.1 q634.2.2, .bool b635] 0).bind fun w638 =>
(World.cell? w638 (Addr.add (⟨w8.heap.size, 0, none⟩) 1)).bind fun v639 =>
(asI .i64 v639).bind fun n640 =>
(World.cell? w638 (Addr.add (⟨w8.heap.size, 0, none⟩) 5)).bind fun v641 =>
(asI .u64 v641).bind fun n642 =>
(World.cell? w638 (Addr.add (⟨w8.heap.size, 0, none⟩) 3)).bind fun v643 =>
(asI .i64 v643).bind fun n644 =>
(World.cell? w638 (Addr.add (⟨w8.heap.size, 0, none⟩) 4)).bind fun v645 =>
(asI .i64 v645).bind fun n646 =>
(callF Try.prog 17 #[.slice s7.2.1.1 s7.2.1.2.1 s7.2.1.2.2, .int .i64 n640, .int .u64 n642, .int .i64 n644, .int .i64 n646] w638).bind fun r647 =>
(asTup 3 r647.1).bind fun l648 =>
(Ev.asAgg 7 (l648.getD 0 undef)).bind fun l649 =>
(asI .i64 (l649.getD 0 undef)).bind fun n650 =>
(asI .i64 (l649.getD 1 undef)).bind fun n651 =>
(asI .i64 (l649.getD 2 undef)).bind fun n652 =>
(asI .u64 (l649.getD 3 undef)).bind fun n653 =>
(asI .i64 (l649.getD 4 undef)).bind fun n654 =>
(asSl (l649.getD 5 undef)).bind fun q655 =>
(asB (l649.getD 6 undef)).bind fun b656 =>
(asB (l648.getD 1 undef)).bind fun b657 =>
(asI .i64 (l648.getD 2 undef)).bind fun n658 =>
(stL r647.2 (⟨(World.alloc w26 (.cells #[.int .i64 0, .int .i64 0, .int .i64 0, .int .u64 0, .int .i64 0, .slice none 0 0, .bool false] 30)).heap.size, 0, none⟩) [.int .i64 n650, .int .i64 n651, .int .i64 n652, .int .u64 n653, .int .i64 n654, .slice q655.1 q655.2.1 q655.2.2, .bool b656] 0).bind fun w659 =>
if (!(b636 == b657)) = true then
(some (.ret, (false, (s7.2.1.1, s7.2.1.2.1, s7.2.1.2.2), s7.2.2), w659))
else
(if ((n637 : Int) != n658) = true then
(some (.ret, (false, (s7.2.1.1, s7.2.1.2.1, s7.2.1.2.2), s7.2.2), w659))
else
((ldN w659 (⟨w26.heap.size, 0, none⟩) 0 7).bind fun l660 =>
(asI .i64 (l660.getD 0 undef)).bind fun n661 =>
(asI .i64 (l660.getD 1 undef)).bind fun n662 =>
(asI .i64 (l660.getD 2 undef)).bind fun n663 =>
(asI .u64 (l660.getD 3 undef)).bind fun n664 =>
(asI .i64 (l660.getD 4 undef)).bind fun n665 =>
(asSl (l660.getD 5 undef)).bind fun q666 =>
(asB (l660.getD 6 undef)).bind fun b667 =>
(ldN w659 (⟨(World.alloc w26 (.cells #[.int .i64 0, .int .i64 0, .int .i64 0, .int .u64 0, .int .i64 0, .slice none 0 0, .bool false] 30)).heap.size, 0, none⟩) 0 7).bind fun l668 =>
(asI .i64 (l668.getD 0 undef)).bind fun n669 =>
(asI .i64 (l668.getD 1 undef)).bind fun n670 =>
(asI .i64 (l668.getD 2 undef)).bind fun n671 =>
(asI .u64 (l668.getD 3 undef)).bind fun n672 =>
(asI .i64 (l668.getD 4 undef)).bind fun n673 =>
(asSl (l668.getD 5 undef)).bind fun q674 =>
(asB (l668.getD 6 undef)).bind fun b675 =>
(callF Try.prog 20 #[.agg #[.int .i64 n661, .int .i64 n662, .int .i64 n663, .int .u64 n664, .int .i64 n665, .slice q666.1 q666.2.1 q666.2.2, .bool b667], .agg #[.int .i64 n669, .int .i64 n670, .int .i64 n671, .int .u64 n672, .int .i64 n673, .slice q674.1 q674.2.1 q674.2.2, .bool b675]] w659).bind fun r676 =>
(asB r676.1).bind fun b677 =>
if (!b677) = true then
(some (.ret, (false, (s7.2.1.1, s7.2.1.2.1, s7.2.1.2.2), s7.2.2), r676.2))
else
(if b636 = true then
((World.cell? r676.2 (Addr.add (⟨w8.heap.size, 0, none⟩) 7)).bind fun v679 =>
(asB v679).bind fun b680 =>
if b680 = true then
((ldN r676.2 (⟨w26.heap.size, 0, none⟩) 0 7).bind fun l681 =>
(asI .i64 (l681.getD 0 undef)).bind fun n682 =>
(asI .i64 (l681.getD 1 undef)).bind fun n683 =>
(asI .i64 (l681.getD 2 undef)).bind fun n684 =>
(asI .u64 (l681.getD 3 undef)).bind fun n685 =>
(asI .i64 (l681.getD 4 undef)).bind fun n686 =>
(asSl (l681.getD 5 undef)).bind fun q687 =>
(asB (l681.getD 6 undef)).bind fun b688 =>
(callF Try.prog 13 #[.pointer p2, .agg #[.int .i64 n682, .int .i64 n683, .int .i64 n684, .int .u64 n685, .int .i64 n686, .slice q687.1 q687.2.1 q687.2.2, .bool b688]] r676.2).bind fun r689 =>
(asTup 0 r689.1).bind fun _ =>
(ldN r689.2 (⟨(World.alloc w26 (.cells #[.int .i64 0, .int .i64 0, .int .i64 0, .int .u64 0, .int .i64 0, .slice none 0 0, .bool false] 30)).heap.size, 0, none⟩) 0 7).bind fun l690 =>
(asI .i64 (l690.getD 0 undef)).bind fun n691 =>
(asI .i64 (l690.getD 1 undef)).bind fun n692 =>
(asI .i64 (l690.getD 2 undef)).bind fun n693 =>
(asI .u64 (l690.getD 3 undef)).bind fun n694 =>
(asI .i64 (l690.getD 4 undef)).bind fun n695 =>
(asSl (l690.getD 5 undef)).bind fun q696 =>
(asB (l690.getD 6 undef)).bind fun b697 =>
(callB Try.prog .append #[26, 26] 26 #[false, false] #[.slice s7.2.1.1 s7.2.1.2.1 s7.2.1.2.2, .slice (some (⟨r689.2.heap.size, 0, none⟩)) 1 1] (World.alloc r689.2 (.cells #[.int .i64 n691, .int .i64 n692, .int .i64 n693, .int .u64 n694, .int .i64 n695, .slice q696.1 q696.2.1 q696.2.2, .bool b697] 30))).bind fun r698 =>
(asSl r698.1).bind fun q699 =>
(World.cell? r698.2 (Addr.add (⟨w8.heap.size, 0, none⟩) 1)).bind fun v700 =>
(asI .i64 v700).bind fun n701 =>
(World.cell? r698.2 (Addr.add (Addr.add (⟨w8.heap.size, 0, none⟩) 8) 1)).bind fun v702 =>
(asI .i64 v702).bind fun n703 =>
g3_l705 p2 q699 u0 s7 r698 (s7.1, 0) (World.alloc r698.2 (.cells #[.int .i64 n701, .int .i64 n703] 3)))
else
((World.cell? r676.2 (Addr.add (⟨w8.heap.size, 0, none⟩) 1)).bind fun v807 =>
(asI .i64 v807).bind fun n808 =>
(World.cell? r676.2 (Addr.add (Addr.add (⟨w8.heap.size, 0, none⟩) 8) 1)).bind fun v809 =>
(asI .i64 v809).bind fun n810 =>
g3_l812 p2 s7 u0 r676 (s7.1, 0) (World.alloc r676.2 (.cells #[.int .i64 n808, .int .i64 n810] 3))))
else
((World.cell? r676.2 (Addr.add (⟨w8.heap.size, 0, none⟩) 1)).bind fun v914 =>
(asI .i64 v914).bind fun n915 =>
(World.cell? r676.2 (Addr.add (Addr.add (⟨w8.heap.size, 0, none⟩) 8) 1)).bind fun v916 =>
(asI .i64 v916).bind fun n917 =>
g3_l919 p2 s7 u0 r676 (s7.1, 0) (World.alloc r676.2 (.cells #[.int .i64 n915, .int .i64 n917] 3)))))))
else
((World.cell? (World.alloc (World.alloc w26 (.cells #[.int .i64 0, .int .i64 0, .int .i64 0, .int .u64 0, .int .i64 0, .slice none 0 0, .bool false] 30)) (.cells #[.int .i64 0, .int .i64 0, .int .i64 0, .int .u64 0, .int .i64 0, .slice none 0 0, .bool false] 30)) (Addr.add (⟨w8.heap.size, 0, none⟩) 1)).bind fun v1021 =>
(asI .i64 v1021).bind fun n1022 =>
(World.cell? (World.alloc (World.alloc w26 (.cells #[.int .i64 0, .int .i64 0, .int .i64 0, .int .u64 0, .int .i64 0, .slice none 0 0, .bool false] 30)) (.cells #[.int .i64 0, .int .i64 0, .int .i64 0, .int .u64 0, .int .i64 0, .slice none 0 0, .bool false] 30)) (Addr.add (⟨w8.heap.size, 0, none⟩) 5)).bind fun v1023 =>
(asI .u64 v1023).bind fun n1024 =>
(World.cell? (World.alloc (World.alloc w26 (.cells #[.int .i64 0, .int .i64 0, .int .i64 0, .int .u64 0, .int .i64 0, .slice none 0 0, .bool false] 30)) (.cells #[.int .i64 0, .int .i64 0, .int .i64 0, .int .u64 0, .int .i64 0, .slice none 0 0, .bool false] 30)) (Addr.add (⟨w8.heap.size, 0, none⟩) 3)).bind fun v1025 =>
(asI .i64 v1025).bind fun n1026 =>
(World.cell? (World.alloc (World.alloc w26 (.cells #[.int .i64 0, .int .i64 0, .int .i64 0, .int .u64 0, .int .i64 0, .slice none 0 0, .bool false] 30)) (.cells #[.int .i64 0, .int .i64 0, .int .i64 0, .int .u64 0, .int .i64 0, .slice none 0 0, .bool false] 30)) (Addr.add (⟨w8.heap.size, 0, none⟩) 6)).bind fun v1027 =>
(asB v1027).bind fun b1028 =>
(callF Try.prog 18 #[.pointer p2, .int .i64 n1022, .int .u64 n1024, .int .i64 n1026, .bool b1028] (World.alloc (World.alloc w26 (.cells #[.int .i64 0, .int .i64 0, .int .i64 0, .int .u64 0, .int .i64 0, .slice none 0 0, .bool false] 30)) (.cells #[.int .i64 0, .int .i64 0, .int .i64 0, .int .u64 0, .int .i64 0, .slice none 0 0, .bool false] 30))).bind fun r1029 =>
(asTup 3 r1029.1).bind fun l1030 =>
(Ev.asAgg 7 (l1030.getD 0 undef)).bind fun l1031 =>
(asI .i64 (l1031.getD 0 undef)).bind fun n1032 =>
(asI .i64 (l1031.getD 1 undef)).bind fun n1033 =>
(asI .i64 (l1031.getD 2 undef)).bind fun n1034 =>
(asI .u64 (l1031.getD 3 undef)).bind fun n1035 =>
(asI .i64 (l1031.getD 4 undef)).bind fun n1036 =>
(asSl (l1031.getD 5 undef)).bind fun q1037 =>
(asB (l1031.getD 6 undef)).bind fun b1038 =>
(asB (l1030.getD 1 undef)).bind fun b1039 =>
(asI .i64 (l1030.getD 2 undef)).bind fun n1040 =>
(stL r1029.2 (⟨w26.heap.size, 0, none⟩) [.int .i64 n1032, .int .i64 n1033, .int .i64 n1034, .int .u64 n1035, .int .i64 n1036, .slice q1037.1 q1037.2.1 q1037.2.2, .bool b1038] 0).bind fun w1041 =>
(World.cell? w1041 (Addr.add (⟨w8.heap.size, 0, none⟩) 1)).bind fun v1042 =>
(asI .i64 v1042).bind fun n1043 =>
(World.cell? w1041 (Addr.add (⟨w8.heap.size, 0, none⟩) 5)).bind fun v1044 =>
(asI .u64 v1044).bind fun n1045 =>
(World.cell? w1041 (Addr.add (⟨w8.heap.size, 0, none⟩) 3)).bind fun v1046 =>
(asI .i64 v1046).bind fun n1047 =>
(World.cell? w1041 (Addr.add (⟨w8.heap.size, 0, none⟩) 6)).bind fun v1048 =>
(asB v1048).bind fun b1049 =>
(callF Try.prog 19 #[.slice s7.2.1.1 s7.2.1.2.1 s7.2.1.2.2, .int .i64 n1043, .int .u64 n1045, .int .i64 n1047, .bool b1049] w1041).bind fun r1050 =>
(asTup 3 r1050.1).bind fun l1051 =>
(Ev.asAgg 7 (l1051.getD 0 undef)).bind fun l1052 =>
(asI .i64 (l1052.getD 0 undef)).bind fun n1053 =>
(asI .i64 (l1052.getD 1 undef)).bind fun n1054 =>
(asI .i64 (l1052.getD 2 undef)).bind fun n1055 =>
(asI .u64 (l1052.getD 3 undef)).bind fun n1056 =>
(asI .i64 (l1052.getD 4 undef)).bind fun n1057 =>
(asSl (l1052.getD 5 undef)).bind fun q1058 =>
(asB (l1052.getD 6 undef)).bind fun b1059 =>
(asB (l1051.getD 1 undef)).bind fun b1060 =>
(asI .i64 (l1051.getD 2 undef)).bind fun n1061 =>
(stL r1050.2 (⟨(World.alloc w26 (.cells #[.int .i64 0, .int .i64 0, .int .i64 0, .int .u64 0, .int .i64 0, .slice none 0 0, .bool false] 30)).heap.size, 0, none⟩) [.int .i64 n1053, .int .i64 n1054, .int .i64 n1055, .int .u64 n1056, .int .i64 n1057, .slice q1058.1 q1058.2.1 q1058.2.2, .bool b1059] 0).bind fun w1062 =>
if (!(b1039 == b1060)) = true then
(some (.ret, (false, (s7.2.1.1, s7.2.1.2.1, s7.2.1.2.2), s7.2.2), w1062))
else
(if ((n1040 : Int) != n1061) = true then
(some (.ret, (false, (s7.2.1.1, s7.2.1.2.1, s7.2.1.2.2), s7.2.2), w1062))
else
((ldN w1062 (⟨w26.heap.size, 0, none⟩) 0 7).bind fun l1063 =>
(asI .i64 (l1063.getD 0 undef)).bind fun n1064 =>
(asI .i64 (l1063.getD 1 undef)).bind fun n1065 =>
(asI .i64 (l1063.getD 2 undef)).bind fun n1066 =>
(asI .u64 (l1063.getD 3 undef)).bind fun n1067 =>
(asI .i64 (l1063.getD 4 undef)).bind fun n1068 =>
(asSl (l1063.getD 5 undef)).bind fun q1069 =>
(asB (l1063.getD 6 undef)).bind fun b1070 =>
(ldN w1062 (⟨(World.alloc w26 (.cells #[.int .i64 0, .int .i64 0, .int .i64 0, .int .u64 0, .int .i64 0, .slice none 0 0, .bool false] 30)).heap.size, 0, none⟩) 0 7).bind fun l1071 =>
(asI .i64 (l1071.getD 0 undef)).bind fun n1072 =>
(asI .i64 (l1071.getD 1 undef)).bind fun n1073 =>
(asI .i64 (l1071.getD 2 undef)).bind fun n1074 =>
(asI .u64 (l1071.getD 3 undef)).bind fun n1075 =>
(asI .i64 (l1071.getD 4 undef)).bind fun n1076 =>
(asSl (l1071.getD 5 undef)).bind fun q1077 =>
(asB (l1071.getD 6 undef)).bind fun b1078 =>
(callF Try.prog 20 #[.agg #[.int .i64 n1064, .int .i64 n1065, .int .i64 n1066, .int .u64 n1067, .int .i64 n1068, .slice q1069.1 q1069.2.1 q1069.2.2, .bool b1070], .agg #[.int .i64 n1072, .int .i64 n1073, .int .i64 n1074, .int .u64 n1075, .int .i64 n1076, .slice q1077.1 q1077.2.1 q1077.2.2, .bool b1078]] w1062).bind fun r1079 =>
(asB r1079.1).bind fun b1080 =>
if (!b1080) = true then
(some (.ret, (false, (s7.2.1.1, s7.2.1.2.1, s7.2.1.2.2), s7.2.2), r1079.2))
else
(if b1039 = true then
((World.cell? r1079.2 (Addr.add (⟨w8.heap.size, 0, none⟩) 7)).bind fun v1082 =>
(asB v1082).bind fun b1083 =>
if b1083 = true then
((ldN r1079.2 (⟨w26.heap.size, 0, none⟩) 0 7).bind fun l1084 =>
(asI .i64 (l1084.getD 0 undef)).bind fun n1085 =>
(asI .i64 (l1084.getD 1 undef)).bind fun n1086 =>
(asI .i64 (l1084.getD 2 undef)).bind fun n1087 =>
(asI .u64 (l1084.getD 3 undef)).bind fun n1088 =>
(asI .i64 (l1084.getD 4 undef)).bind fun n1089 =>
(asSl (l1084.getD 5 undef)).bind fun q1090 =>
(asB (l1084.getD 6 undef)).bind fun b1091 =>
(callF Try.prog 13 #[.pointer p2, .agg #[.int .i64 n1085, .int .i64 n1086, .int .i64 n1087, .int .u64 n1088, .int .i64 n1089, .slice q1090.1 q1090.2.1 q1090.2.2, .bool b1091]] r1079.2).bind fun r1092 =>
(asTup 0 r1092.1).bind fun _ =>
(ldN r1092.2 (⟨(World.alloc w26 (.cells #[.int .i64 0, .int .i64 0, .int .i64 0, .int .u64 0, .int .i64 0, .slice none 0 0, .bool false] 30)).heap.size, 0, none⟩) 0 7).bind fun l1093 =>
(asI .i64 (l1093.getD 0 undef)).bind fun n1094 =>
(asI .i64 (l1093.getD 1 undef)).bind fun n1095 =>
(asI .i64 (l1093.getD 2 undef)).bind fun n1096 =>
(asI .u64 (l1093.getD 3 undef)).bind fun n1097 =>
(asI .i64 (l1093.getD 4 undef)).bind fun n1098 =>
(asSl (l1093.getD 5 undef)).bind fun q1099 =>
(asB (l1093.getD 6 undef)).bind fun b1100 =>
(callB Try.prog .append #[26, 26] 26 #[false, false] #[.slice s7.2.1.1 s7.2.1.2.1 s7.2.1.2.2, .slice (some (⟨r1092.2.heap.size, 0, none⟩)) 1 1] (World.alloc r1092.2 (.cells #[.int .i64 n1094, .int .i64 n1095, .int .i64 n1096, .int .u64 n1097, .int .i64 n1098, .slice q1099.1 q1099.2.1 q1099.2.2, .bool b1100] 30))).bind fun r1101 =>
(asSl r1101.1).bind fun q1102 =>
(World.cell? r1101.2 (Addr.add (⟨w8.heap.size, 0, none⟩) 1)).bind fun v1103 =>
(asI .i64 v1103).bind fun n1104 =>
(World.cell? r1101.2 (Addr.add (Addr.add (⟨w8.heap.size, 0, none⟩) 8) 1)).bind fun v1105 =>
(asI .i64 v1105).bind fun n1106 =>
g3_l1108 p2 q1102 u0 s7 r1101 (s7.1, 0) (World.alloc r1101.2 (.cells #[.int .i64 n1104, .int .i64 n1106] 3)))
else
((World.cell? r1079.2 (Addr.add (⟨w8.heap.size, 0, none⟩) 1)).bind fun v1210 =>
(asI .i64 v1210).bind fun n1211 =>
(World.cell? r1079.2 (Addr.add (Addr.add (⟨w8.heap.size, 0, none⟩) 8) 1)).bind fun v1212 =>
(asI .i64 v1212).bind fun n1213 =>
g3_l1215 p2 s7 u0 r1079 (s7.1, 0) (World.alloc r1079.2 (.cells #[.int .i64 n1211, .int .i64 n1213] 3))))
else
((World.cell? r1079.2 (Addr.add (⟨w8.heap.size, 0, none⟩) 1)).bind fun v1317 =>
(asI .i64 v1317).bind fun n1318 =>
(World.cell? r1079.2 (Addr.add (Addr.add (⟨w8.heap.size, 0, none⟩) 8) 1)).bind fun v1319 =>
(asI .i64 v1319).bind fun n1320 =>
g3_l1322 p2 s7 u0 r1079 (s7.1, 0) (World.alloc r1079.2 (.cells #[.int .i64 n1318, .int .i64 n1320] 3))))))))))
else
(some ((.exit 0), (s7.1, (s7.2.1.1, s7.2.1.2.1, s7.2.1.2.2), s7.2.2), w8))

noncomputable def g3_K1424  : Exit → Env → World → Option (Value × World) :=
  retK Try.prog Try.f3.results.toList

noncomputable def g3_K1425  : Exit → Env → World → Option (Value × World) :=
  seqK (ev Try.prog 202 3 g3_ann (cAt [1, 1, 1, 1, 1] (bodyOf Try.f3)) [1, 1, 1, 1, 1] g3_K1424) g3_K1424

noncomputable def g3_K1426  : Exit → Env → World → Option (Value × World) :=
  blkK 0 g3_K1425

/-- the loop, from a state on -/
noncomputable def g3_l6 (p2 : Option Addr) (u0 : Option Addr × Nat × Nat) (s : Bool × (Option Addr × Nat × Nat) × Int) (w : World) : Option (Value × World) :=
  loopM Try.prog 202 3 g3_ann (cAt [1, 1, 1, 1, 0, 1, 0, 0] (bodyOf Try.f3)) [0, 1, 0, 1, 1, 1, 1] g3_K1426 ((g3_l6_cs p2 u0) ++ sputs [(2, .b), (4, .sl), (28, .i .i64)] s) w

/-- behind the loop, left by x0 -/
noncomputable def g3_l6_x0  (t1427 : Bool × (Option Addr × Nat × Nat) × Int) (w1428 : World) : Option (Value × World) :=
some (.bool true, w1428)

noncomputable def g3 (u0 : Option Addr × Nat × Nat) (w0 : World) : Option (Value × World) :=
(callF Try.prog 10 #[] w0).bind fun r1 =>
(asP r1.1).bind fun p2 =>
(callF Try.prog 11 #[] r1.2).bind fun r3 =>
(asB r3.1).bind fun b4 =>
if (!b4) = true then
(some (.bool false, r3.2))
else
(if (p2.isNone) = true then
(some (.bool false, r3.2))
else
(g3_l6 p2 u0 (false, (none, 0, 0), 0) r3.2))

theorem g3_eq (u0 : Option Addr × Nat × Nat) (w0 : World) : evFn Try.prog 3 g3_ann #[.slice u0.1 u0.2.1 u0.2.2] w0 = g3 u0 w0 := by kernel_rfl

theorem g3_call {u0 : Option Addr × Nat × Nat} {w0 : World} {r : Value × World} (h : g3 u0 w0 = some r) : callF Try.prog 3 #[.slice u0.1 u0.2.1 u0.2.2] w0 = some r :=
  callF_of_evFn (ann := g3_ann) Try.call3 (by kernel_rfl) ((g3_eq u0 w0).trans h)

theorem g3_l201_x7_of {s118 : Bool × Int} {p2 : Option Addr} {q93 : Option Addr × Nat × Nat} {r123 : Value × World} {u0 : Option Addr × Nat × Nat} {s7 : Bool × (Option Addr × Nat × Nat) × Int} {r110 : Value × World} {q199 : Option Addr × Nat × Nat} {s t : Int} {w w' : World} (h : loopS (g3_l201_b q199 r123 s118 p2 q93 u0 s7 r110) s w = some (.exit 7, t, w')) : g3_l201 s118 p2 q93 r123 u0 s7 r110 q199 s w = g3_l201_x7 s118 t w' := by
  have h1 : g3_l201 s118 p2 q93 r123 u0 s7 r110 q199 s w = loopM Try.prog 202 3 g3_ann (cAt [1, 1, 1, 1, 0, 1, 0, 0, 1, 1, 0, 0, 1, 1, 1, 1, 1, 1, 1, 0, 0, 1, 1, 0, 0, 1, 1, 1, 1, 0, 0] (bodyOf Try.f3)) [0, 1, 1, 1, 1, 0, 0, 1, 1, 0, 0, 1, 1, 1, 1, 1, 1, 1, 0, 0, 1, 1, 0, 0, 1, 0, 1, 1, 1, 1] (g3_K211 p2 q93 u0 s7 r110) ((g3_l201_cs s118 p2 q93 r123 u0 s7 r110 q199) ++ sputs [(192, .i .i64)] s) w := by kernel_rfl
  have h2 : loopM Try.prog 202 3 g3_ann (cAt [1, 1, 1, 1, 0, 1, 0, 0, 1, 1, 0, 0, 1, 1, 1, 1, 1, 1, 1, 0, 0, 1, 1, 0, 0, 1, 1, 1, 1, 0, 0] (bodyOf Try.f3)) [0, 1, 1, 1, 1, 0, 0, 1, 1, 0, 0, 1, 1, 1, 1, 1, 1, 1, 0, 0, 1, 1, 0, 0, 1, 0, 1, 1, 1, 1] (g3_K211 p2 q93 u0 s7 r110) ((g3_l201_cs s118 p2 q93 r123 u0 s7 r110 q199) ++ sputs [(192, .i .i64)] s) w = (g3_K211 p2 q93 u0 s7 r110) (.exit 7) (puts 202 ((g3_l201_cs s118 p2 q93 r123 u0 s7 r110 q199) ++ sputs [(192, .i .i64)] t)) w' :=
    loop_rule (P := Try.prog) (N := 202) (f := 3) (ann := g3_ann) (body := (cAt [1, 1, 1, 1, 0, 1, 0, 0, 1, 1, 0, 0, 1, 1, 1, 1, 1, 1, 1, 0, 0, 1, 1, 0, 0, 1, 1, 1, 1, 0, 0] (bodyOf Try.f3))) (pt := [0, 1, 1, 1, 1, 0, 0, 1, 1, 0, 0, 1, 1, 1, 1, 1, 1, 1, 0, 0, 1, 1, 0, 0, 1, 0, 1, 1, 1, 1]) (K := (g3_K211 p2 q93 u0 s7 r110)) (g3_l201_cs s118 p2 q93 r123 u0 s7 r110 q199) [(192, .i .i64)] (b := g3_l201_b q199 r123 s118 p2 q93 u0 s7 r110) (fun s w => by kernel_rfl) (by kernel_rfl) (by kernel_rfl) (by kernel_rfl) h
  have h3 : (g3_K211 p2 q93 u0 s7 r110) (.exit 7) (puts 202 ((g3_l201_cs s118 p2 q93 r123 u0 s7 r110 q199) ++ sputs [(192, .i .i64)] t)) w' = g3_l201_x7 s118 t w' := by kernel_rfl
  exact h1.trans (h2.trans h3)

theorem g3_l117_x5_of {p2 : Option Addr} {q93 : Option Addr × Nat × Nat} {u0 : Option Addr × Nat × Nat} {s7 : Bool × (Option Addr × Nat × Nat) × Int} {r110 : Value × World} {s t : Bool × Int} {w w' : World} (h : loopS (g3_l117_b r110 p2 q93 u0 s7) s w = some (.exit 5, t, w')) : g3_l117 p2 q93 u0 s7 r110 s w = g3_l117_x5 q93 s7 t w' := by
  have h1 : g3_l117 p2 q93 u0 s7 r110 s w = loopM Try.prog 202 3 g3_ann (cAt [1, 1, 1, 1, 0, 1, 0, 0, 1, 1, 0, 0, 1, 1, 1, 1, 1, 1, 1, 0, 0] (bodyOf Try.f3)) [0, 1, 1, 1, 1, 1, 1, 1, 0, 0, 1, 1, 0, 0, 1, 0, 1, 1, 1, 1] (g3_K214 p2 u0) ((g3_l117_cs p2 q93 u0 s7 r110) ++ sputs [(2, .b), (176, .i .i64)] s) w := by kernel_rfl
  have h2 : loopM Try.prog 202 3 g3_ann (cAt [1, 1, 1, 1, 0, 1, 0, 0, 1, 1, 0, 0, 1, 1, 1, 1, 1, 1, 1, 0, 0] (bodyOf Try.f3)) [0, 1, 1, 1, 1, 1, 1, 1, 0, 0, 1, 1, 0, 0, 1, 0, 1, 1, 1, 1] (g3_K214 p2 u0) ((g3_l117_cs p2 q93 u0 s7 r110) ++ sputs [(2, .b), (176, .i .i64)] s) w = (g3_K214 p2 u0) (.exit 5) (puts 202 ((g3_l117_cs p2 q93 u0 s7 r110) ++ sputs [(2, .b), (176, .i .i64)] t)) w' :=
    loop_rule (P := Try.prog) (N := 202) (f := 3) (ann := g3_ann) (body := (cAt [1, 1, 1, 1, 0, 1, 0, 0, 1, 1, 0, 0, 1, 1, 1, 1, 1, 1, 1, 0, 0] (bodyOf Try.f3))) (pt := [0, 1, 1, 1, 1, 1, 1, 1, 0, 0, 1, 1, 0, 0, 1, 0, 1, 1, 1, 1]) (K := (g3_K214 p2 u0)) (g3_l117_cs p2 q93 u0 s7 r110) [(2, .b), (176, .i .i64)] (b := g3_l117_b r110 p2 q93 u0 s7) (fun s w => by kernel_rfl) (by kernel_rfl) (by kernel_rfl) (by kernel_rfl) h
  have h3 : (g3_K214 p2 u0) (.exit 5) (puts 202 ((g3_l117_cs p2 q93 u0 s7 r110) ++ sputs [(2, .b), (176, .i .i64)] t)) w' = g3_l117_x5 q93 s7 t w' := by kernel_rfl
  exact h1.trans (h2.trans h3)

theorem g3_l59_x3_of {s7 : Bool × (Option Addr × Nat × Nat) × Int} {p2 : Option Addr} {w8 : World} {w26 : World} {r37 : Value × World} {u0 : Option Addr × Nat × Nat} {q57 : Option Addr × Nat × Nat} {s t : Int} {w w' : World} (h : loopS (g3_l59_b q57 r37 s7 p2 w8 w26 u0) s w = some (.exit 3, t, w')) : g3_l59 s7 p2 w8 w26 r37 u0 q57 s w = g3_l59_x3 w8 s7 w26 p2 u0 t w' := by
  have h1 : g3_l59 s7 p2 w8 w26 r37 u0 q57 s w = loopM Try.prog 202 3 g3_ann (cAt [1, 1, 1, 1, 0, 1, 0, 0, 1, 1, 0, 0, 1, 1, 1, 0, 1, 0, 1, 0, 1, 1, 0, 1, 0, 0] (bodyOf Try.f3)) [0, 1, 0, 1, 1, 0, 1, 0, 1, 0, 1, 1, 1, 0, 0, 1, 1, 0, 0, 1, 0, 1, 1, 1, 1] (g3_K72 p2 u0) ((g3_l59_cs s7 p2 w8 w26 r37 u0 q57) ++ sputs [(73, .i .i64)] s) w := by kernel_rfl
  have h2 : loopM Try.prog 202 3 g3_ann (cAt [1, 1, 1, 1, 0, 1, 0, 0, 1, 1, 0, 0, 1, 1, 1, 0, 1, 0, 1, 0, 1, 1, 0, 1, 0, 0] (bodyOf Try.f3)) [0, 1, 0, 1, 1, 0, 1, 0, 1, 0, 1, 1, 1, 0, 0, 1, 1, 0, 0, 1, 0, 1, 1, 1, 1] (g3_K72 p2 u0) ((g3_l59_cs s7 p2 w8 w26 r37 u0 q57) ++ sputs [(73, .i .i64)] s) w = (g3_K72 p2 u0) (.exit 3) (puts 202 ((g3_l59_cs s7 p2 w8 w26 r37 u0 q57) ++ sputs [(73, .i .i64)] t)) w' :=
    loop_rule (P := Try.prog) (N := 202) (f := 3) (ann := g3_ann) (body := (cAt [1, 1, 1, 1, 0, 1, 0, 0, 1, 1, 0, 0, 1, 1, 1, 0, 1, 0, 1, 0, 1, 1, 0, 1, 0, 0] (bodyOf Try.f3))) (pt := [0, 1, 0, 1, 1, 0, 1, 0, 1, 0, 1, 1, 1, 0, 0, 1, 1, 0, 0, 1, 0, 1, 1, 1, 1]) (K := (g3_K72 p2 u0)) (g3_l59_cs s7 p2 w8 w26 r37 u0 q57) [(73, .i .i64)] (b := g3_l59_b q57 r37 s7 p2 w8 w26 u0) (fun s w => by kernel_rfl) (by kernel_rfl) (by kernel_rfl) (by kernel_rfl) h
  have h3 : (g3_K72 p2 u0) (.exit 3) (puts 202 ((g3_l59_cs s7 p2 w8 w26 r37 u0 q57) ++ sputs [(73, .i .i64)] t)) w' = g3_l59_x3 w8 s7 w26 p2 u0 t w' := by kernel_rfl
  exact h1.trans (h2.trans h3)

theorem g3_l386_x7_of {s303 : Bool × Int} {p2 : Option Addr} {q296 : Option Addr × Nat × Nat} {r308 : Value × World} {u0 : Option Addr × Nat × Nat} {s7 : Bool × (Option Addr × Nat × Nat) × Int} {r295 : Value × World} {q384 : Option Addr × Nat × Nat} {s t : Int} {w w' : World} (h : loopS (g3_l386_b q384 r308 s303 p2 q296 u0 s7 r295) s w = some (.exit 7, t, w')) : g3_l386 s303 p2 q296 r308 u0 s7 r295 q384 s w = g3_l386_x7 s303 t w' := by
  have h1 : g3_l386 s303 p2 q296 r308 u0 s7 r295 q384 s w = loopM Try.prog 202 3 g3_ann (cAt [1, 1, 1, 1, 0, 1, 0, 0, 1, 1, 0, 0, 1, 1, 1, 1, 1, 1, 1, 0, 0, 1, 1, 0, 0, 1, 1, 1, 1, 0, 0] (bodyOf Try.f3)) [0, 1, 1, 1, 1, 0, 0, 1, 1, 0, 0, 1, 1, 1, 1, 1, 1, 1, 0, 0, 1, 1, 0, 0, 1, 0, 1, 1, 1, 1] (g3_K396 p2 q296 u0 s7 r295) ((g3_l386_cs s303 p2 q296 r308 u0 s7 r295 q384) ++ sputs [(192, .i .i64)] s) w := by kernel_rfl
  have h2 : loopM Try.prog 202 3 g3_ann (cAt [1, 1, 1, 1, 0, 1, 0, 0, 1, 1, 0, 0, 1, 1, 1, 1, 1, 1, 1, 0, 0, 1, 1, 0, 0, 1, 1, 1, 1, 0, 0] (bodyOf Try.f3)) [0, 1, 1, 1, 1, 0, 0, 1, 1, 0, 0, 1, 1, 1, 1, 1, 1, 1, 0, 0, 1, 1, 0, 0, 1, 0, 1, 1, 1, 1] (g3_K396 p2 q296 u0 s7 r295) ((g3_l386_cs s303 p2 q296 r308 u0 s7 r295 q384) ++ sputs [(192, .i .i64)] s) w = (g3_K396 p2 q296 u0 s7 r295) (.exit 7) (puts 202 ((g3_l386_cs s303 p2 q296 r308 u0 s7 r295 q384) ++ sputs [(192, .i .i64)] t)) w' :=
    loop_rule (P := Try.prog) (N := 202) (f := 3) (ann := g3_ann) (body := (cAt [1, 1, 1, 1, 0, 1, 0, 0, 1, 1, 0, 0, 1, 1, 1, 1, 1, 1, 1, 0, 0, 1, 1, 0, 0, 1, 1, 1, 1, 0, 0] (bodyOf Try.f3))) (pt := [0, 1, 1, 1, 1, 0, 0, 1, 1, 0, 0, 1, 1, 1, 1, 1, 1, 1, 0, 0, 1, 1, 0, 0, 1, 0, 1, 1, 1, 1]) (K := (g3_K396 p2 q296 u0 s7 r295)) (g3_l386_cs s303 p2 q296 r308 u0 s7 r295 q384) [(192, .i .i64)] (b := g3_l386_b q384 r308 s303 p2 q296 u0 s7 r295) (fun s w => by kernel_rfl) (by kernel_rfl) (by kernel_rfl) (by kernel_rfl) h
  have h3 : (g3_K396 p2 q296 u0 s7 r295) (.exit 7) (puts 202 ((g3_l386_cs s303 p2 q296 r308 u0 s7 r295 q384) ++ sputs [(192, .i .i64)] t)) w' = g3_l386_x7 s303 t w' := by kernel_rfl
  exact h1.trans (h2.trans h3)

theorem g3_l302_x5_of {p2 : Option Addr} {q296 : Option Addr × Nat × Nat} {u0 : Option Addr × Nat × Nat} {s7 : Bool × (Option Addr × Nat × Nat) × Int} {r295 : Value × World} {s t : Bool × Int} {w w' : World} (h : loopS (g3_l302_b r295 p2 q296 u0 s7) s w = some (.exit 5, t, w')) : g3_l302 p2 q296 u0 s7 r295 s w = g3_l302_x5 q296 s7 t w' := by
  have h1 : g3_l302 p2 q296 u0 s7 r295 s w = loopM Try.prog 202 3 g3_ann (cAt [1, 1, 1, 1, 0, 1, 0, 0, 1, 1, 0, 0, 1, 1, 1, 1, 1, 1, 1, 0, 0] (bodyOf Try.f3)) [0, 1, 1, 1, 1, 1, 1, 1, 0, 0, 1, 1, 0, 0, 1, 0, 1, 1, 1, 1] (g3_K399 p2 u0) ((g3_l302_cs p2 q296 u0 s7 r295) ++ sputs [(2, .b), (176, .i .i64)] s) w := by kernel_rfl
  have h2 : loopM Try.prog 202 3 g3_ann (cAt [1, 1, 1, 1, 0, 1, 0, 0, 1, 1, 0, 0, 1, 1, 1, 1, 1, 1, 1, 0, 0] (bodyOf Try.f3)) [0, 1, 1, 1, 1, 1, 1, 1, 0, 0, 1, 1, 0, 0, 1, 0, 1, 1, 1, 1] (g3_K399 p2 u0) ((g3_l302_cs p2 q296 u0 s7 r295) ++ sputs [(2, .b), (176, .i .i64)] s) w = (g3_K399 p2 u0) (.exit 5) (puts 202 ((g3_l302_cs p2 q296 u0 s7 r295) ++ sputs [(2, .b), (176, .i .i64)] t)) w' :=
    loop_rule (P := Try.prog) (N := 202) (f := 3) (ann := g3_ann) (body := (cAt [1, 1, 1, 1, 0, 1, 0, 0, 1, 1, 0, 0, 1, 1, 1, 1, 1, 1, 1, 0, 0] (bodyOf Try.f3))) (pt := [0, 1, 1, 1, 1, 1, 1, 1, 0, 0, 1, 1, 0, 0, 1, 0, 1, 1, 1, 1]) (K := (g3_K399 p2 u0)) (g3_l302_cs p2 q296 u0 s7 r295) [(2, .b), (176, .i .i64)] (b := g3_l302_b r295 p2 q296 u0 s7) (fun s w => by kernel_rfl) (by kernel_rfl) (by kernel_rfl) (by kernel_rfl) h
  have h3 : (g3_K399 p2 u0) (.exit 5) (puts 202 ((g3_l302_cs p2 q296 u0 s7 r295) ++ sputs [(2, .b), (176, .i .i64)] t)) w' = g3_l302_x5 q296 s7 t w' := by kernel_rfl
  exact h1.trans (h2.trans h3)

theorem g3_l493_x7_of {s410 : Bool × Int} {p2 : Option Addr} {s7 : Bool × (Option Addr × Nat × Nat) × Int} {r415 : Value × World} {u0 : Option Addr × Nat × Nat} {r273 : Value × World} {q491 : Option Addr × Nat × Nat} {s t : Int} {w w' : World} (h : loopS (g3_l493_b q491 r415 s410 p2 s7 u0 r273) s w = some (.exit 7, t, w')) : g3_l493 s410 p2 s7 r415 u0 r273 q491 s w = g3_l493_x7 s410 t w' := by
  have h1 : g3_l493 s410 p2 s7 r415 u0 r273 q491 s w = loopM Try.prog 202 3 g3_ann (cAt [1, 1, 1, 1, 0, 1, 0, 0, 1, 1, 0, 0, 1, 1, 1, 1, 1, 1, 1, 0, 0, 1, 1, 0, 0, 1, 1, 1, 1, 0, 0] (bodyOf Try.f3)) [0, 1, 1, 1, 1, 0, 0, 1, 1, 0, 0, 1, 1, 1, 1, 1, 1, 1, 0, 0, 1, 1, 0, 0, 1, 0, 1, 1, 1, 1] (g3_K503 p2 s7 u0 r273) ((g3_l493_cs s410 p2 s7 r415 u0 r273 q491) ++ sputs [(192, .i .i64)] s) w := by kernel_rfl
  have h2 : loopM Try.prog 202 3 g3_ann (cAt [1, 1, 1, 1, 0, 1, 0, 0, 1, 1, 0, 0, 1, 1, 1, 1, 1, 1, 1, 0, 0, 1, 1, 0, 0, 1, 1, 1, 1, 0, 0] (bodyOf Try.f3)) [0, 1, 1, 1, 1, 0, 0, 1, 1, 0, 0, 1, 1, 1, 1, 1, 1, 1, 0, 0, 1, 1, 0, 0, 1, 0, 1, 1, 1, 1] (g3_K503 p2 s7 u0 r273) ((g3_l493_cs s410 p2 s7 r415 u0 r273 q491) ++ sputs [(192, .i .i64)] s) w = (g3_K503 p2 s7 u0 r273) (.exit 7) (puts 202 ((g3_l493_cs s410 p2 s7 r415 u0 r273 q491) ++ sputs [(192, .i .i64)] t)) w' :=
    loop_rule (P := Try.prog) (N := 202) (f := 3) (ann := g3_ann) (body := (cAt [1, 1, 1, 1, 0, 1, 0, 0, 1, 1, 0, 0, 1, 1, 1, 1, 1, 1, 1, 0, 0, 1, 1, 0, 0, 1, 1, 1, 1, 0, 0] (bodyOf Try.f3))) (pt := [0, 1, 1, 1, 1, 0, 0, 1, 1, 0, 0, 1, 1, 1, 1, 1, 1, 1, 0, 0, 1, 1, 0, 0, 1, 0, 1, 1, 1, 1]) (K := (g3_K503 p2 s7 u0 r273)) (g3_l493_cs s410 p2 s7 r415 u0 r273 q491) [(192, .i .i64)] (b := g3_l493_b q491 r415 s410 p2 s7 u0 r273) (fun s w => by kernel_rfl) (by kernel_rfl) (by kernel_rfl) (by kernel_rfl) h
  have h3 : (g3_K503 p2 s7 u0 r273) (.exit 7) (puts 202 ((g3_l493_cs s410 p2 s7 r415 u0 r273 q491) ++ sputs [(192, .i .i64)] t)) w' = g3_l493_x7 s410 t w' := by kernel_rfl
  exact h1.trans (h2.trans h3)

theorem g3_l409_x5_of {p2 : Option Addr} {s7 : Bool × (Option Addr × Nat × Nat) × Int} {u0 : Option Addr × Nat × Nat} {r273 : Value × World} {s t : Bool × Int} {w w' : World} (h : loopS (g3_l409_b r273 p2 s7 u0) s w = some (.exit 5, t, w')) : g3_l409 p2 s7 u0 r273 s w = g3_l409_x5 s7 t w' := by
  have h1 : g3_l409 p2 s7 u0 r273 s w = loopM Try.prog 202 3 g3_ann (cAt [1, 1, 1, 1, 0, 1, 0, 0, 1, 1, 0, 0, 1, 1, 1, 1, 1, 1, 1, 0, 0] (bodyOf Try.f3)) [0, 1, 1, 1, 1, 1, 1, 1, 0, 0, 1, 1, 0, 0, 1, 0, 1, 1, 1, 1] (g3_K506 p2 u0) ((g3_l409_cs p2 s7 u0 r273) ++ sputs [(2, .b), (176, .i .i64)] s) w := by kernel_rfl
  have h2 : loopM Try.prog 202 3 g3_ann (cAt [1, 1, 1, 1, 0, 1, 0, 0, 1, 1, 0, 0, 1, 1, 1, 1, 1, 1, 1, 0, 0] (bodyOf Try.f3)) [0, 1, 1, 1, 1, 1, 1, 1, 0, 0, 1, 1, 0, 0, 1, 0, 1, 1, 1, 1] (g3_K506 p2 u0) ((g3_l409_cs p2 s7 u0 r273) ++ sputs [(2, .b), (176, .i .i64)] s) w = (g3_K506 p2 u0) (.exit 5) (puts 202 ((g3_l409_cs p2 s7 u0 r273) ++ sputs [(2, .b), (176, .i .i64)] t)) w' :=
    loop_rule (P := Try.prog) (N := 202) (f := 3) (ann := g3_ann) (body := (cAt [1, 1, 1, 1, 0, 1, 0, 0, 1, 1, 0, 0, 1, 1, 1, 1, 1, 1, 1, 0, 0] (bodyOf Try.f3))) (pt := [0, 1, 1, 1, 1, 1, 1, 1, 0, 0, 1, 1, 0, 0, 1, 0, 1, 1, 1, 1]) (K := (g3_K506 p2 u0)) (g3_l409_cs p2 s7 u0 r273) [(2, .b), (176, .i .i64)] (b := g3_l409_b r273 p2 s7 u0) (fun s w => by kernel_rfl) (by kernel_rfl) (by kernel_rfl) (by kernel_rfl) h
  have h3 : (g3_K506 p2 u0) (.exit 5) (puts 202 ((g3_l409_cs p2 s7 u0 r273) ++ sputs [(2, .b), (176, .i .i64)] t)) w' = g3_l409_x5 s7 t w' := by kernel_rfl
  exact h1.trans (h2.trans h3)

theorem g3_l600_x7_of {s517 : Bool × Int} {p2 : Option Addr} {s7 : Bool × (Option Addr × Nat × Nat) × Int} {r522 : Value × World} {u0 : Option Addr × Nat × Nat} {r273 : Value × World} {q598 : Option Addr × Nat × Nat} {s t : Int} {w w' : World} (h : loopS (g3_l600_b q598 r522 s517 p2 s7 u0 r273) s w = some (.exit 7, t, w')) : g3_l600 s517 p2 s7 r522 u0 r273 q598 s w = g3_l600_x7 s517 t w' := by
  have h1 : g3_l600 s517 p2 s7 r522 u0 r273 q598 s w = loopM Try.prog 202 3 g3_ann (cAt [1, 1, 1, 1, 0, 1, 0, 0, 1, 1, 0, 0, 1, 1, 1, 1, 1, 1, 1, 0, 0, 1, 1, 0, 0, 1, 1, 1, 1, 0, 0] (bodyOf Try.f3)) [0, 1, 1, 1, 1, 0, 0, 1, 1, 0, 0, 1, 1, 1, 1, 1, 1, 1, 0, 0, 1, 1, 0, 0, 1, 0, 1, 1, 1, 1] (g3_K610 p2 s7 u0 r273) ((g3_l600_cs s517 p2 s7 r522 u0 r273 q598) ++ sputs [(192, .i .i64)] s) w := by kernel_rfl
  have h2 : loopM Try.prog 202 3 g3_ann (cAt [1, 1, 1, 1, 0, 1, 0, 0, 1, 1, 0, 0, 1, 1, 1, 1, 1, 1, 1, 0, 0, 1, 1, 0, 0, 1, 1, 1, 1, 0, 0] (bodyOf Try.f3)) [0, 1, 1, 1, 1, 0, 0, 1, 1, 0, 0, 1, 1, 1, 1, 1, 1, 1, 0, 0, 1, 1, 0, 0, 1, 0, 1, 1, 1, 1] (g3_K610 p2 s7 u0 r273) ((g3_l600_cs s517 p2 s7 r522 u0 r273 q598) ++ sputs [(192, .i .i64)] s) w = (g3_K610 p2 s7 u0 r273) (.exit 7) (puts 202 ((g3_l600_cs s517 p2 s7 r522 u0 r273 q598) ++ sputs [(192, .i .i64)] t)) w' :=
    loop_rule (P := Try.prog) (N := 202) (f := 3) (ann := g3_ann) (body := (cAt [1, 1, 1, 1, 0, 1, 0, 0, 1, 1, 0, 0, 1, 1, 1, 1, 1, 1, 1, 0, 0, 1, 1, 0, 0, 1, 1, 1, 1, 0, 0] (bodyOf Try.f3))) (pt := [0, 1, 1, 1, 1, 0, 0, 1, 1, 0, 0, 1, 1, 1, 1, 1, 1, 1, 0, 0, 1, 1, 0, 0, 1, 0, 1, 1, 1, 1]) (K := (g3_K610 p2 s7 u0 r273)) (g3_l600_cs s517 p2 s7 r522 u0 r273 q598) [(192, .i .i64)] (b := g3_l600_b q598 r522 s517 p2 s7 u0 r273) (fun s w => by kernel_rfl) (by kernel_rfl) (by kernel_rfl) (by kernel_rfl) h
  have h3 : (g3_K610 p2 s7 u0 r273) (.exit 7) (puts 202 ((g3_l600_cs s517 p2 s7 r522 u0 r273 q598) ++ sputs [(192, .i .i64)] t)) w' = g3_l600_x7 s517 t w' := by kernel_rfl
  exact h1.trans (h2.trans h3)

theorem g3_l516_x5_of {p2 : Option Addr} {s7 : Bool × (Option Addr × Nat × Nat) × Int} {u0 : Option Addr × Nat × Nat} {r273 : Value × World} {s t : Bool × Int} {w w' : World} (h : loopS (g3_l516_b r273 p2 s7 u0) s w = some (.exit 5, t, w')) : g3_l516 p2 s7 u0 r273 s w = g3_l516_x5 s7 t w' := by
  have h1 : g3_l516 p2 s7 u0 r273 s w = loopM Try.prog 202 3 g3_ann (cAt [1, 1, 1, 1, 0, 1, 0, 0, 1, 1, 0, 0, 1, 1, 1, 1, 1, 1, 1, 0, 0] (bodyOf Try.f3)) [0, 1, 1, 1, 1, 1, 1, 1, 0, 0, 1, 1, 0, 0, 1, 0, 1, 1, 1, 1] (g3_K613 p2 u0) ((g3_l516_cs p2 s7 u0 r273) ++ sputs [(2, .b), (176, .i .i64)] s) w := by kernel_rfl
  have h2 : loopM Try.prog 202 3 g3_ann (cAt [1, 1, 1, 1, 0, 1, 0, 0, 1, 1, 0, 0, 1, 1, 1, 1, 1, 1, 1, 0, 0] (bodyOf Try.f3)) [0, 1, 1, 1, 1, 1, 1, 1, 0, 0, 1, 1, 0, 0, 1, 0, 1, 1, 1, 1] (g3_K613 p2 u0) ((g3_l516_cs p2 s7 u0 r273) ++ sputs [(2, .b), (176, .i .i64)] s) w = (g3_K613 p2 u0) (.exit 5) (puts 202 ((g3_l516_cs p2 s7 u0 r273) ++ sputs [(2, .b), (176, .i .i64)] t)) w' :=
    loop_rule (P := Try.prog) (N := 202) (f := 3) (ann := g3_ann) (body := (cAt [1, 1, 1, 1, 0, 1, 0, 0, 1, 1, 0, 0, 1, 1, 1, 1, 1, 1, 1, 0, 0] (bodyOf Try.f3))) (pt := [0, 1, 1, 1, 1, 1, 1, 1, 0, 0, 1, 1, 0, 0, 1, 0, 1, 1, 1, 1]) (K := (g3_K613 p2 u0)) (g3_l516_cs p2 s7 u0 r273) [(2, .b), (176, .i .i64)] (b := g3_l516_b r273 p2 s7 u0) (fun s w => by kernel_rfl) (by kernel_rfl) (by kernel_rfl) (by kernel_rfl) h
  have h3 : (g3_K613 p2 u0) (.exit 5) (puts 202 ((g3_l516_cs p2 s7 u0 r273) ++ sputs [(2, .b), (176, .i .i64)] t)) w' = g3_l516_x5 s7 t w' := by kernel_rfl
  exact h1.trans (h2.trans h3)

theorem g3_l789_x7_of {s706 : Bool × Int} {p2 : Option Addr} {q699 : Option Addr × Nat × Nat} {r711 : Value × World} {u0 : Option Addr × Nat × Nat} {s7 : Bool × (Option Addr × Nat × Nat) × Int} {r698 : Value × World} {q787 : Option Addr × Nat × Nat} {s t : Int} {w w' : World} (h : loopS (g3_l789_b q787 r711 s706 p2 q699 u0 s7 r698) s w = some (.exit 7, t, w')) : g3_l789 s706 p2 q699 r711 u0 s7 r698 q787 s w = g3_l789_x7 s706 t w' := by
  have h1 : g3_l789 s706 p2 q699 r711 u0 s7 r698 q787 s w = loopM Try.prog 202 3 g3_ann (cAt [1, 1, 1, 1, 0, 1, 0, 0, 1, 1, 0, 0, 1, 1, 1, 1, 1, 1, 1, 0, 0, 1, 1, 0, 0, 1, 1, 1, 1, 0, 0] (bodyOf Try.f3)) [0, 1, 1, 1, 1, 0, 0, 1, 1, 0, 0, 1, 1, 1, 1, 1, 1, 1, 0, 0, 1, 1, 0, 0, 1, 0, 1, 1, 1, 1] (g3_K799 p2 q699 u0 s7 r698) ((g3_l789_cs s706 p2 q699 r711 u0 s7 r698 q787) ++ sputs [(192, .i .i64)] s) w := by kernel_rfl
  have h2 : loopM Try.prog 202 3 g3_ann (cAt [1, 1, 1, 1, 0, 1, 0, 0, 1, 1, 0, 0, 1, 1, 1, 1, 1, 1, 1, 0, 0, 1, 1, 0, 0, 1, 1, 1, 1, 0, 0] (bodyOf Try.f3)) [0, 1, 1, 1, 1, 0, 0, 1, 1, 0, 0, 1, 1, 1, 1, 1, 1, 1, 0, 0, 1, 1, 0, 0, 1, 0, 1, 1, 1, 1] (g3_K799 p2 q699 u0 s7 r698) ((g3_l789_cs s706 p2 q699 r711 u0 s7 r698 q787) ++ sputs [(192, .i .i64)] s) w = (g3_K799 p2 q699 u0 s7 r698) (.exit 7) (puts 202 ((g3_l789_cs s706 p2 q699 r711 u0 s7 r698 q787) ++ sputs [(192, .i .i64)] t)) w' :=
    loop_rule (P := Try.prog) (N := 202) (f := 3) (ann := g3_ann) (body := (cAt [1, 1, 1, 1, 0, 1, 0, 0, 1, 1, 0, 0, 1, 1, 1, 1, 1, 1, 1, 0, 0, 1, 1, 0, 0, 1, 1, 1, 1, 0, 0] (bodyOf Try.f3))) (pt := [0, 1, 1, 1, 1, 0, 0, 1, 1, 0, 0, 1, 1, 1, 1, 1, 1, 1, 0, 0, 1, 1, 0, 0, 1, 0, 1, 1, 1, 1]) (K := (g3_K799 p2 q699 u0 s7 r698)) (g3_l789_cs s706 p2 q699 r711 u0 s7 r698 q787) [(192, .i .i64)] (b := g3_l789_b q787 r711 s706 p2 q699 u0 s7 r698) (fun s w => by kernel_rfl) (by kernel_rfl) (by kernel_rfl) (by kernel_rfl) h
  have h3 : (g3_K799 p2 q699 u0 s7 r698) (.exit 7) (puts 202 ((g3_l789_cs s706 p2 q699 r711 u0 s7 r698 q787) ++ sputs [(192, .i .i64)] t)) w' = g3_l789_x7 s706 t w' := by kernel_rfl
  exact h1.trans (h2.trans h3)

theorem g3_l705_x5_of {p2 : Option Addr} {q699 : Option Addr × Nat × Nat} {u0 : Option Addr × Nat × Nat} {s7 : Bool × (Option Addr × Nat × Nat) × Int} {r698 : Value × World} {s t : Bool × Int} {w w' : World} (h : loopS (g3_l705_b r698 p2 q699 u0 s7) s w = some (.exit 5, t, w')) : g3_l705 p2 q699 u0 s7 r698 s w = g3_l705_x5 q699 s7 t w' := by
  have h1 : g3_l705 p2 q699 u0 s7 r698 s w = loopM Try.prog 202 3 g3_ann (cAt [1, 1, 1, 1, 0, 1, 0, 0, 1, 1, 0, 0, 1, 1, 1, 1, 1, 1, 1, 0, 0] (bodyOf Try.f3)) [0, 1, 1, 1, 1, 1, 1, 1, 0, 0, 1, 1, 0, 0, 1, 0, 1, 1, 1, 1] (g3_K802 p2 u0) ((g3_l705_cs p2 q699 u0 s7 r698) ++ sputs [(2, .b), (176, .i .i64)] s) w := by kernel_rfl
  have h2 : loopM Try.prog 202 3 g3_ann (cAt [1, 1, 1, 1, 0, 1, 0, 0, 1, 1, 0, 0, 1, 1, 1, 1, 1, 1, 1, 0, 0] (bodyOf Try.f3)) [0, 1, 1, 1, 1, 1, 1, 1, 0, 0, 1, 1, 0, 0, 1, 0, 1, 1, 1, 1] (g3_K802 p2 u0) ((g3_l705_cs p2 q699 u0 s7 r698) ++ sputs [(2, .b), (176, .i .i64)] s) w = (g3_K802 p2 u0) (.exit 5) (puts 202 ((g3_l705_cs p2 q699 u0 s7 r698) ++ sputs [(2, .b), (176, .i .i64)] t)) w' :=
    loop_rule (P := Try.prog) (N := 202) (f := 3) (ann := g3_ann) (body := (cAt [1, 1, 1, 1, 0, 1, 0, 0, 1, 1, 0, 0, 1, 1, 1, 1, 1, 1, 1, 0, 0] (bodyOf Try.f3))) (pt := [0, 1, 1, 1, 1, 1, 1, 1, 0, 0, 1, 1, 0, 0, 1, 0, 1, 1, 1, 1]) (K := (g3_K802 p2 u0)) (g3_l705_cs p2 q699 u0 s7 r698) [(2, .b), (176, .i .i64)] (b := g3_l705_b r698 p2 q699 u0 s7) (fun s w => by kernel_rfl) (by kernel_rfl) (by kernel_rfl) (by kernel_rfl) h
  have h3 : (g3_K802 p2 u0) (.exit 5) (puts 202 ((g3_l705_cs p2 q699 u0 s7 r698) ++ sputs [(2, .b), (176, .i .i64)] t)) w' = g3_l705_x5 q699 s7 t w' := by kernel_rfl
  exact h1.trans (h2.trans h3)

theorem g3_l896_x7_of {s813 : Bool × Int} {p2 : Option Addr} {s7 : Bool × (Option Addr × Nat × Nat) × Int} {r818 : Value × World} {u0 : Option Addr × Nat × Nat} {r676 : Value × World} {q894 : Option Addr × Nat × Nat} {s t : Int} {w w' : World} (h : loopS (g3_l896_b q894 r818 s813 p2 s7 u0 r676) s w = some (.exit 7, t, w')) : g3_l896 s813 p2 s7 r818 u0 r676 q894 s w = g3_l896_x7 s813 t w' := by
  have h1 : g3_l896 s813 p2 s7 r818 u0 r676 q894 s w = loopM Try.prog 202 3 g3_ann (cAt [1, 1, 1, 1, 0, 1, 0, 0, 1, 1, 0, 0, 1, 1, 1, 1, 1, 1, 1, 0, 0, 1, 1, 0, 0, 1, 1, 1, 1, 0, 0] (bodyOf Try.f3)) [0, 1, 1, 1, 1, 0, 0, 1, 1, 0, 0, 1, 1, 1, 1, 1, 1, 1, 0, 0, 1, 1, 0, 0, 1, 0, 1, 1, 1, 1] (g3_K906 p2 s7 u0 r676) ((g3_l896_cs s813 p2 s7 r818 u0 r676 q894) ++ sputs [(192, .i .i64)] s) w := by kernel_rfl
  have h2 : loopM Try.prog 202 3 g3_ann (cAt [1, 1, 1, 1, 0, 1, 0, 0, 1, 1, 0, 0, 1, 1, 1, 1, 1, 1, 1, 0, 0, 1, 1, 0, 0, 1, 1, 1, 1, 0, 0] (bodyOf Try.f3)) [0, 1, 1, 1, 1, 0, 0, 1, 1, 0, 0, 1, 1, 1, 1, 1, 1, 1, 0, 0, 1, 1, 0, 0, 1, 0, 1, 1, 1, 1] (g3_K906 p2 s7 u0 r676) ((g3_l896_cs s813 p2 s7 r818 u0 r676 q894) ++ sputs [(192, .i .i64)] s) w = (g3_K906 p2 s7 u0 r676) (.exit 7) (puts 202 ((g3_l896_cs s813 p2 s7 r818 u0 r676 q894) ++ sputs [(192, .i .i64)] t)) w' :=
    loop_rule (P := Try.prog) (N := 202) (f := 3) (ann := g3_ann) (body := (cAt [1, 1, 1, 1, 0, 1, 0, 0, 1, 1, 0, 0, 1, 1, 1, 1, 1, 1, 1, 0, 0, 1, 1, 0, 0, 1, 1, 1, 1, 0, 0] (bodyOf Try.f3))) (pt := [0, 1, 1, 1, 1, 0, 0, 1, 1, 0, 0, 1, 1, 1, 1, 1, 1, 1, 0, 0, 1, 1, 0, 0, 1, 0, 1, 1, 1, 1]) (K := (g3_K906 p2 s7 u0 r676)) (g3_l896_cs s813 p2 s7 r818 u0 r676 q894) [(192, .i .i64)] (b := g3_l896_b q894 r818 s813 p2 s7 u0 r676) (fun s w => by kernel_rfl) (by kernel_rfl) (by kernel_rfl) (by kernel_rfl) h
  have h3 : (g3_K906 p2 s7 u0 r676) (.exit 7) (puts 202 ((g3_l896_cs s813 p2 s7 r818 u0 r676 q894) ++ sputs [(192, .i .i64)] t)) w' = g3_l896_x7 s813 t w' := by kernel_rfl
  exact h1.trans (h2.trans h3)

theorem g3_l812_x5_of {p2 : Option Addr} {s7 : Bool × (Option Addr × Nat × Nat) × Int} {u0 : Option Addr × Nat × Nat} {r676 : Value × World} {s t : Bool × Int} {w w' : World} (h : loopS (g3_l812_b r676 p2 s7 u0) s w = some (.exit 5, t, w')) : g3_l812 p2 s7 u0 r676 s w = g3_l812_x5 s7 t w' := by
  have h1 : g3_l812 p2 s7 u0 r676 s w = loopM Try.prog 202 3 g3_ann (cAt [1, 1, 1, 1, 0, 1, 0, 0, 1, 1, 0, 0, 1, 1, 1, 1, 1, 1, 1, 0, 0] (bodyOf Try.f3)) [0, 1, 1, 1, 1, 1, 1, 1, 0, 0, 1, 1, 0, 0, 1, 0, 1, 1, 1, 1] (g3_K909 p2 u0) ((g3_l812_cs p2 s7 u0 r676) ++ sputs [(2, .b), (176, .i .i64)] s) w := by kernel_rfl
  have h2 : loopM Try.prog 202 3 g3_ann (cAt [1, 1, 1, 1, 0, 1, 0, 0, 1, 1, 0, 0, 1, 1, 1, 1, 1, 1, 1, 0, 0] (bodyOf Try.f3)) [0, 1, 1, 1, 1, 1, 1, 1, 0, 0, 1, 1, 0, 0, 1, 0, 1, 1, 1, 1] (g3_K909 p2 u0) ((g3_l812_cs p2 s7 u0 r676) ++ sputs [(2, .b), (176, .i .i64)] s) w = (g3_K909 p2 u0) (.exit 5) (puts 202 ((g3_l812_cs p2 s7 u0 r676) ++ sputs [(2, .b), (176, .i .i64)] t)) w' :=
    loop_rule (P := Try.prog) (N := 202) (f := 3) (ann := g3_ann) (body := (cAt [1, 1, 1, 1, 0, 1, 0, 0, 1, 1, 0, 0, 1, 1, 1, 1, 1, 1, 1, 0, 0] (bodyOf Try.f3))) (pt := [0, 1, 1, 1, 1, 1, 1, 1, 0, 0, 1, 1, 0, 0, 1, 0, 1, 1, 1, 1]) (K := (g3_K909 p2 u0)) (g3_l812_cs p2 s7 u0 r676) [(2, .b), (176, .i .i64)] (b := g3_l812_b r676 p2 s7 u0) (fun s w => by kernel_rfl) (by kernel_rfl) (by kernel_rfl) (by kernel_rfl) h
  have h3 : (g3_K909 p2 u0) (.exit 5) (puts 202 ((g3_l812_cs p2 s7 u0 r676) ++ sputs [(2, .b), (176, .i .i64)] t)) w' = g3_l812_x5 s7 t w' := by kernel_rfl
  exact h1.trans (h2.trans h3)

theorem g3_l1003_x7_of {s920 : Bool × Int} {p2 : Option Addr} {s7 : Bool × (Option Addr × Nat × Nat) × Int} {r925 : Value × World} {u0 : Option Addr × Nat × Nat} {r676 : Value × World} {q1001 : Option Addr × Nat × Nat} {s t : Int} {w w' : World} (h : loopS (g3_l1003_b q1001 r925 s920 p2 s7 u0 r676) s w = some (.exit 7, t, w')) : g3_l1003 s920 p2 s7 r925 u0 r676 q1001 s w = g3_l1003_x7 s920 t w' := by
  have h1 : g3_l1003 s920 p2 s7 r925 u0 r676 q1001 s w = loopM Try.prog 202 3 g3_ann (cAt [1, 1, 1, 1, 0, 1, 0, 0, 1, 1, 0, 0, 1, 1, 1, 1, 1, 1, 1, 0, 0, 1, 1, 0, 0, 1, 1, 1, 1, 0, 0] (bodyOf Try.f3)) [0, 1, 1, 1, 1, 0, 0, 1, 1, 0, 0, 1, 1, 1, 1, 1, 1, 1, 0, 0, 1, 1, 0, 0, 1, 0, 1, 1, 1, 1] (g3_K1013 p2 s7 u0 r676) ((g3_l1003_cs s920 p2 s7 r925 u0 r676 q1001) ++ sputs [(192, .i .i64)] s) w := by kernel_rfl
  have h2 : loopM Try.prog 202 3 g3_ann (cAt [1, 1, 1, 1, 0, 1, 0, 0, 1, 1, 0, 0, 1, 1, 1, 1, 1, 1, 1, 0, 0, 1, 1, 0, 0, 1, 1, 1, 1, 0, 0] (bodyOf Try.f3)) [0, 1, 1, 1, 1, 0, 0, 1, 1, 0, 0, 1, 1, 1, 1, 1, 1, 1, 0, 0, 1, 1, 0, 0, 1, 0, 1, 1, 1, 1] (g3_K1013 p2 s7 u0 r676) ((g3_l1003_cs s920 p2 s7 r925 u0 r676 q1001) ++ sputs [(192, .i .i64)] s) w = (g3_K1013 p2 s7 u0 r676) (.exit 7) (puts 202 ((g3_l1003_cs s920 p2 s7 r925 u0 r676 q1001) ++ sputs [(192, .i .i64)] t)) w' :=
    loop_rule (P := Try.prog) (N := 202) (f := 3) (ann := g3_ann) (body := (cAt [1, 1, 1, 1, 0, 1, 0, 0, 1, 1, 0, 0, 1, 1, 1, 1, 1, 1, 1, 0, 0, 1, 1, 0, 0, 1, 1, 1, 1, 0, 0] (bodyOf Try.f3))) (pt := [0, 1, 1, 1, 1, 0, 0, 1, 1, 0, 0, 1, 1, 1, 1, 1, 1, 1, 0, 0, 1, 1, 0, 0, 1, 0, 1, 1, 1, 1]) (K := (g3_K1013 p2 s7 u0 r676)) (g3_l1003_cs s920 p2 s7 r925 u0 r676 q1001) [(192, .i .i64)] (b := g3_l1003_b q1001 r925 s920 p2 s7 u0 r676) (fun s w => by kernel_rfl) (by kernel_rfl) (by kernel_rfl) (by kernel_rfl) h
  have h3 : (g3_K1013 p2 s7 u0 r676) (.exit 7) (puts 202 ((g3_l1003_cs s920 p2 s7 r925 u0 r676 q1001) ++ sputs [(192, .i .i64)] t)) w' = g3_l1003_x7 s920 t w' := by kernel_rfl
  exact h1.trans (h2.trans h3)

theorem g3_l919_x5_of {p2 : Option Addr} {s7 : Bool × (Option Addr × Nat × Nat) × Int} {u0 : Option Addr × Nat × Nat} {r676 : Value × World} {s t : Bool × Int} {w w' : World} (h : loopS (g3_l919_b r676 p2 s7 u0) s w = some (.exit 5, t, w')) : g3_l919 p2 s7 u0 r676 s w = g3_l919_x5 s7 t w' := by
  have h1 : g3_l919 p2 s7 u0 r676 s w = loopM Try.prog 202 3 g3_ann (cAt [1, 1, 1, 1, 0, 1, 0, 0, 1, 1, 0, 0, 1, 1, 1, 1, 1, 1, 1, 0, 0] (bodyOf Try.f3)) [0, 1, 1, 1, 1, 1, 1, 1, 0, 0, 1, 1, 0, 0, 1, 0, 1, 1, 1, 1] (g3_K1016 p2 u0) ((g3_l919_cs p2 s7 u0 r676) ++ sputs [(2, .b), (176, .i .i64)] s) w := by kernel_rfl
  have h2 : loopM Try.prog 202 3 g3_ann (cAt [1, 1, 1, 1, 0, 1, 0, 0, 1, 1, 0, 0, 1, 1, 1, 1, 1, 1, 1, 0, 0] (bodyOf Try.f3)) [0, 1, 1, 1, 1, 1, 1, 1, 0, 0, 1, 1, 0, 0, 1, 0, 1, 1, 1, 1] (g3_K1016 p2 u0) ((g3_l919_cs p2 s7 u0 r676) ++ sputs [(2, .b), (176, .i .i64)] s) w = (g3_K1016 p2 u0) (.exit 5) (puts 202 ((g3_l919_cs p2 s7 u0 r676) ++ sputs [(2, .b), (176, .i .i64)] t)) w' :=
    loop_rule (P := Try.prog) (N := 202) (f := 3) (ann := g3_ann) (body := (cAt [1, 1, 1, 1, 0, 1, 0, 0, 1, 1, 0, 0, 1, 1, 1, 1, 1, 1, 1, 0, 0] (bodyOf Try.f3))) (pt := [0, 1, 1, 1, 1, 1, 1, 1, 0, 0, 1, 1, 0, 0, 1, 0, 1, 1, 1, 1]) (K := (g3_K1016 p2 u0)) (g3_l919_cs p2 s7 u0 r676) [(2, .b), (176, .i .i64)] (b := g3_l919_b r676 p2 s7 u0) (fun s w => by kernel_rfl) (by kernel_rfl) (by kernel_rfl) (by kernel_rfl) h
  have h3 : (g3_K1016 p2 u0) (.exit 5) (puts 202 ((g3_l919_cs p2 s7 u0 r676) ++ sputs [(2, .b), (176, .i .i64)] t)) w' = g3_l919_x5 s7 t w' := by kernel_rfl
  exact h1.trans (h2.trans h3)

theorem g3_l1192_x7_of {s1109 : Bool × Int} {p2 : Option Addr} {q1102 : Option Addr × Nat × Nat} {r1114 : Value × World} {u0 : Option Addr × Nat × Nat} {s7 : Bool × (Option Addr × Nat × Nat) × Int} {r1101 : Value × World} {q1190 : Option Addr × Nat × Nat} {s t : Int} {w w' : World} (h : loopS (g3_l1192_b q1190 r1114 s1109 p2 q1102 u0 s7 r1101) s w = some (.exit 7, t, w')) : g3_l1192 s1109 p2 q1102 r1114 u0 s7 r1101 q1190 s w = g3_l1192_x7 s1109 t w' := by
  have h1 : g3_l1192 s1109 p2 q1102 r1114 u0 s7 r1101 q1190 s w = loopM Try.prog 202 3 g3_ann (cAt [1, 1, 1, 1, 0, 1, 0, 0, 1, 1, 0, 0, 1, 1, 1, 1, 1, 1, 1, 0, 0, 1, 1, 0, 0, 1, 1, 1, 1, 0, 0] (bodyOf Try.f3)) [0, 1, 1, 1, 1, 0, 0, 1, 1, 0, 0, 1, 1, 1, 1, 1, 1, 1, 0, 0, 1, 1, 0, 0, 1, 0, 1, 1, 1, 1] (g3_K1202 p2 q1102 u0 s7 r1101) ((g3_l1192_cs s1109 p2 q1102 r1114 u0 s7 r1101 q1190) ++ sputs [(192, .i .i64)] s) w := by kernel_rfl
  have h2 : loopM Try.prog 202 3 g3_ann (cAt [1, 1, 1, 1, 0, 1, 0, 0, 1, 1, 0, 0, 1, 1, 1, 1, 1, 1, 1, 0, 0, 1, 1, 0, 0, 1, 1, 1, 1, 0, 0] (bodyOf Try.f3)) [0, 1, 1, 1, 1, 0, 0, 1, 1, 0, 0, 1, 1, 1, 1, 1, 1, 1, 0, 0, 1, 1, 0, 0, 1, 0, 1, 1, 1, 1] (g3_K1202 p2 q1102 u0 s7 r1101) ((g3_l1192_cs s1109 p2 q1102 r1114 u0 s7 r1101 q1190) ++ sputs [(192, .i .i64)] s) w = (g3_K1202 p2 q1102 u0 s7 r1101) (.exit 7) (puts 202 ((g3_l1192_cs s1109 p2 q1102 r1114 u0 s7 r1101 q1190) ++ sputs [(192, .i .i64)] t)) w' :=
    loop_rule (P := Try.prog) (N := 202) (f := 3) (ann := g3_ann) (body := (cAt [1, 1, 1, 1, 0, 1, 0, 0, 1, 1, 0, 0, 1, 1, 1, 1, 1, 1, 1, 0, 0, 1, 1, 0, 0, 1, 1, 1, 1, 0, 0] (bodyOf Try.f3))) (pt := [0, 1, 1, 1, 1, 0, 0, 1, 1, 0, 0, 1, 1, 1, 1, 1, 1, 1, 0, 0, 1, 1, 0, 0, 1, 0, 1, 1, 1, 1]) (K := (g3_K1202 p2 q1102 u0 s7 r1101)) (g3_l1192_cs s1109 p2 q1102 r1114 u0 s7 r1101 q1190) [(192, .i .i64)] (b := g3_l1192_b q1190 r1114 s1109 p2 q1102 u0 s7 r1101) (fun s w => by kernel_rfl) (by kernel_rfl) (by kernel_rfl) (by kernel_rfl) h
  have h3 : (g3_K1202 p2 q1102 u0 s7 r1101) (.exit 7) (puts 202 ((g3_l1192_cs s1109 p2 q1102 r1114 u0 s7 r1101 q1190) ++ sputs [(192, .i .i64)] t)) w' = g3_l1192_x7 s1109 t w' := by kernel_rfl
  exact h1.trans (h2.trans h3)

theorem g3_l1108_x5_of {p2 : Option Addr} {q1102 : Option Addr × Nat × Nat} {u0 : Option Addr × Nat × Nat} {s7 : Bool × (Option Addr × Nat × Nat) × Int} {r1101 : Value × World} {s t : Bool × Int} {w w' : World} (h : loopS (g3_l1108_b r1101 p2 q1102 u0 s7) s w = some (.exit 5, t, w')) : g3_l1108 p2 q1102 u0 s7 r1101 s w = g3_l1108_x5 q1102 s7 t w' := by
  have h1 : g3_l1108 p2 q1102 u0 s7 r1101 s w = loopM Try.prog 202 3 g3_ann (cAt [1, 1, 1, 1, 0, 1, 0, 0, 1, 1, 0, 0, 1, 1, 1, 1, 1, 1, 1, 0, 0] (bodyOf Try.f3)) [0, 1, 1, 1, 1, 1, 1, 1, 0, 0, 1, 1, 0, 0, 1, 0, 1, 1, 1, 1] (g3_K1205 p2 u0) ((g3_l1108_cs p2 q1102 u0 s7 r1101) ++ sputs [(2, .b), (176, .i .i64)] s) w := by kernel_rfl
  have h2 : loopM Try.prog 202 3 g3_ann (cAt [1, 1, 1, 1, 0, 1, 0, 0, 1, 1, 0, 0, 1, 1, 1, 1, 1, 1, 1, 0, 0] (bodyOf Try.f3)) [0, 1, 1, 1, 1, 1, 1, 1, 0, 0, 1, 1, 0, 0, 1, 0, 1, 1, 1, 1] (g3_K1205 p2 u0) ((g3_l1108_cs p2 q1102 u0 s7 r1101) ++ sputs [(2, .b), (176, .i .i64)] s) w = (g3_K1205 p2 u0) (.exit 5) (puts 202 ((g3_l1108_cs p2 q1102 u0 s7 r1101) ++ sputs [(2, .b), (176, .i .i64)] t)) w' :=
    loop_rule (P := Try.prog) (N := 202) (f := 3) (ann := g3_ann) (body := (cAt [1, 1, 1, 1, 0, 1, 0, 0, 1, 1, 0, 0, 1, 1, 1, 1, 1, 1, 1, 0, 0] (bodyOf Try.f3))) (pt := [0, 1, 1, 1, 1, 1, 1, 1, 0, 0, 1, 1, 0, 0, 1, 0, 1, 1, 1, 1]) (K := (g3_K1205 p2 u0)) (g3_l1108_cs p2 q1102 u0 s7 r1101) [(2, .b), (176, .i .i64)] (b := g3_l1108_b r1101 p2 q1102 u0 s7) (fun s w => by kernel_rfl) (by kernel_rfl) (by kernel_rfl) (by kernel_rfl) h
  have h3 : (g3_K1205 p2 u0) (.exit 5) (puts 202 ((g3_l1108_cs p2 q1102 u0 s7 r1101) ++ sputs [(2, .b), (176, .i .i64)] t)) w' = g3_l1108_x5 q1102 s7 t w' := by kernel_rfl
  exact h1.trans (h2.trans h3)

theorem g3_l1299_x7_of {s1216 : Bool × Int} {p2 : Option Addr} {s7 : Bool × (Option Addr × Nat × Nat) × Int} {r1221 : Value × World} {u0 : Option Addr × Nat × Nat} {r1079 : Value × World} {q1297 : Option Addr × Nat × Nat} {s t : Int} {w w' : World} (h : loopS (g3_l1299_b q1297 r1221 s1216 p2 s7 u0 r1079) s w = some (.exit 7, t, w')) : g3_l1299 s1216 p2 s7 r1221 u0 r1079 q1297 s w = g3_l1299_x7 s1216 t w' := by
  have h1 : g3_l1299 s1216 p2 s7 r1221 u0 r1079 q1297 s w = loopM Try.prog 202 3 g3_ann (cAt [1, 1, 1, 1, 0, 1, 0, 0, 1, 1, 0, 0, 1, 1, 1, 1, 1, 1, 1, 0, 0, 1, 1, 0, 0, 1, 1, 1, 1, 0, 0] (bodyOf Try.f3)) [0, 1, 1, 1, 1, 0, 0, 1, 1, 0, 0, 1, 1, 1, 1, 1, 1, 1, 0, 0, 1, 1, 0, 0, 1, 0, 1, 1, 1, 1] (g3_K1309 p2 s7 u0 r1079) ((g3_l1299_cs s1216 p2 s7 r1221 u0 r1079 q1297) ++ sputs [(192, .i .i64)] s) w := by kernel_rfl
  have h2 : loopM Try.prog 202 3 g3_ann (cAt [1, 1, 1, 1, 0, 1, 0, 0, 1, 1, 0, 0, 1, 1, 1, 1, 1, 1, 1, 0, 0, 1, 1, 0, 0, 1, 1, 1, 1, 0, 0] (bodyOf Try.f3)) [0, 1, 1, 1, 1, 0, 0, 1, 1, 0, 0, 1, 1, 1, 1, 1, 1, 1, 0, 0, 1, 1, 0, 0, 1, 0, 1, 1, 1, 1] (g3_K1309 p2 s7 u0 r1079) ((g3_l1299_cs s1216 p2 s7 r1221 u0 r1079 q1297) ++ sputs [(192, .i .i64)] s) w = (g3_K1309 p2 s7 u0 r1079) (.exit 7) (puts 202 ((g3_l1299_cs s1216 p2 s7 r1221 u0 r1079 q1297) ++ sputs [(192, .i .i64)] t)) w' :=
    loop_rule (P := Try.prog) (N := 202) (f := 3) (ann := g3_ann) (body := (cAt [1, 1, 1, 1, 0, 1, 0, 0, 1, 1, 0, 0, 1, 1, 1, 1, 1, 1, 1, 0, 0, 1, 1, 0, 0, 1, 1, 1, 1, 0, 0] (bodyOf Try.f3))) (pt := [0, 1, 1, 1, 1, 0, 0, 1, 1, 0, 0, 1, 1, 1, 1, 1, 1, 1, 0, 0, 1, 1, 0, 0, 1, 0, 1, 1, 1, 1]) (K := (g3_K1309 p2 s7 u0 r1079)) (g3_l1299_cs s1216 p2 s7 r1221 u0 r1079 q1297) [(192, .i .i64)] (b := g3_l1299_b q1297 r1221 s1216 p2 s7 u0 r1079) (fun s w => by kernel_rfl) (by kernel_rfl) (by kernel_rfl) (by kernel_rfl) h
  have h3 : (g3_K1309 p2 s7 u0 r1079) (.exit 7) (puts 202 ((g3_l1299_cs s1216 p2 s7 r1221 u0 r1079 q1297) ++ sputs [(192, .i .i64)] t)) w' = g3_l1299_x7 s1216 t w' := by kernel_rfl
  exact h1.trans (h2.trans h3)

theorem g3_l1215_x5_of {p2 : Option Addr} {s7 : Bool × (Option Addr × Nat × Nat) × Int} {u0 : Option Addr × Nat × Nat} {r1079 : Value × World} {s t : Bool × Int} {w w' : World} (h : loopS (g3_l1215_b r1079 p2 s7 u0) s w = some (.exit 5, t, w')) : g3_l1215 p2 s7 u0 r1079 s w = g3_l1215_x5 s7 t w' := by
  have h1 : g3_l1215 p2 s7 u0 r1079 s w = loopM Try.prog 202 3 g3_ann (cAt [1, 1, 1, 1, 0, 1, 0, 0, 1, 1, 0, 0, 1, 1, 1, 1, 1, 1, 1, 0, 0] (bodyOf Try.f3)) [0, 1, 1, 1, 1, 1, 1, 1, 0, 0, 1, 1, 0, 0, 1, 0, 1, 1, 1, 1] (g3_K1312 p2 u0) ((g3_l1215_cs p2 s7 u0 r1079) ++ sputs [(2, .b), (176, .i .i64)] s) w := by kernel_rfl
  have h2 : loopM Try.prog 202 3 g3_ann (cAt [1, 1, 1, 1, 0, 1, 0, 0, 1, 1, 0, 0, 1, 1, 1, 1, 1, 1, 1, 0, 0] (bodyOf Try.f3)) [0, 1, 1, 1, 1, 1, 1, 1, 0, 0, 1, 1, 0, 0, 1, 0, 1, 1, 1, 1] (g3_K1312 p2 u0) ((g3_l1215_cs p2 s7 u0 r1079) ++ sputs [(2, .b), (176, .i .i64)] s) w = (g3_K1312 p2 u0) (.exit 5) (puts 202 ((g3_l1215_cs p2 s7 u0 r1079) ++ sputs [(2, .b), (176, .i .i64)] t)) w' :=
    loop_rule (P := Try.prog) (N := 202) (f := 3) (ann := g3_ann) (body := (cAt [1, 1, 1, 1, 0, 1, 0, 0, 1, 1, 0, 0, 1, 1, 1, 1, 1, 1, 1, 0, 0] (bodyOf Try.f3))) (pt := [0, 1, 1, 1, 1, 1, 1, 1, 0, 0, 1, 1, 0, 0, 1, 0, 1, 1, 1, 1]) (K := (g3_K1312 p2 u0)) (g3_l1215_cs p2 s7 u0 r1079) [(2, .b), (176, .i .i64)] (b := g3_l1215_b r1079 p2 s7 u0) (fun s w => by kernel_rfl) (by kernel_rfl) (by kernel_rfl) (by kernel_rfl) h
  have h3 : (g3_K1312 p2 u0) (.exit 5) (puts 202 ((g3_l1215_cs p2 s7 u0 r1079) ++ sputs [(2, .b), (176, .i .i64)] t)) w' = g3_l1215_x5 s7 t w' := by kernel_rfl
  exact h1.trans (h2.trans h3)

theorem g3_l1406_x7_of {s1323 : Bool × Int} {p2 : Option Addr} {s7 : Bool × (Option Addr × Nat × Nat) × Int} {r1328 : Value × World} {u0 : Option Addr × Nat × Nat} {r1079 : Value × World} {q1404 : Option Addr × Nat × Nat} {s t : Int} {w w' : World} (h : loopS (g3_l1406_b q1404 r1328 s1323 p2 s7 u0 r1079) s w = some (.exit 7, t, w')) : g3_l1406 s1323 p2 s7 r1328 u0 r1079 q1404 s w = g3_l1406_x7 s1323 t w' := by
  have h1 : g3_l1406 s1323 p2 s7 r1328 u0 r1079 q1404 s w = loopM Try.prog 202 3 g3_ann (cAt [1, 1, 1, 1, 0, 1, 0, 0, 1, 1, 0, 0, 1, 1, 1, 1, 1, 1, 1, 0, 0, 1, 1, 0, 0, 1, 1, 1, 1, 0, 0] (bodyOf Try.f3)) [0, 1, 1, 1, 1, 0, 0, 1, 1, 0, 0, 1, 1, 1, 1, 1, 1, 1, 0, 0, 1, 1, 0, 0, 1, 0, 1, 1, 1, 1] (g3_K1416 p2 s7 u0 r1079) ((g3_l1406_cs s1323 p2 s7 r1328 u0 r1079 q1404) ++ sputs [(192, .i .i64)] s) w := by kernel_rfl
  have h2 : loopM Try.prog 202 3 g3_ann (cAt [1, 1, 1, 1, 0, 1, 0, 0, 1, 1, 0, 0, 1, 1, 1, 1, 1, 1, 1, 0, 0, 1, 1, 0, 0, 1, 1, 1, 1, 0, 0] (bodyOf Try.f3)) [0, 1, 1, 1, 1, 0, 0, 1, 1, 0, 0, 1, 1, 1, 1, 1, 1, 1, 0, 0, 1, 1, 0, 0, 1, 0, 1, 1, 1, 1] (g3_K1416 p2 s7 u0 r1079) ((g3_l1406_cs s1323 p2 s7 r1328 u0 r1079 q1404) ++ sputs [(192, .i .i64)] s) w = (g3_K1416 p2 s7 u0 r1079) (.exit 7) (puts 202 ((g3_l1406_cs s1323 p2 s7 r1328 u0 r1079 q1404) ++ sputs [(192, .i .i64)] t)) w' :=
    loop_rule (P := Try.prog) (N := 202) (f := 3) (ann := g3_ann) (body := (cAt [1, 1, 1, 1, 0, 1, 0, 0, 1, 1, 0, 0, 1, 1, 1, 1, 1, 1, 1, 0, 0, 1, 1, 0, 0, 1, 1, 1, 1, 0, 0] (bodyOf Try.f3))) (pt := [0, 1, 1, 1, 1, 0, 0, 1, 1, 0, 0, 1, 1, 1, 1, 1, 1, 1, 0, 0, 1, 1, 0, 0, 1, 0, 1, 1, 1, 1]) (K := (g3_K1416 p2 s7 u0 r1079)) (g3_l1406_cs s1323 p2 s7 r1328 u0 r1079 q1404) [(192, .i .i64)] (b := g3_l1406_b q1404 r1328 s1323 p2 s7 u0 r1079) (fun s w => by kernel_rfl) (by kernel_rfl) (by kernel_rfl) (by kernel_rfl) h
  have h3 : (g3_K1416 p2 s7 u0 r1079) (.exit 7) (puts 202 ((g3_l1406_cs s1323 p2 s7 r1328 u0 r1079 q1404) ++ sputs [(192, .i .i64)] t)) w' = g3_l1406_x7 s1323 t w' := by kernel_rfl
  exact h1.trans (h2.trans h3)

theorem g3_l1322_x5_of {p2 : Option Addr} {s7 : Bool × (Option Addr × Nat × Nat) × Int} {u0 : Option Addr × Nat × Nat} {r1079 : Value × World} {s t : Bool × Int} {w w' : World} (h : loopS (g3_l1322_b r1079 p2 s7 u0) s w = some (.exit 5, t, w')) : g3_l1322 p2 s7 u0 r1079 s w = g3_l1322_x5 s7 t w' := by
  have h1 : g3_l1322 p2 s7 u0 r1079 s w = loopM Try.prog 202 3 g3_ann (cAt [1, 1, 1, 1, 0, 1, 0, 0, 1, 1, 0, 0, 1, 1, 1, 1, 1, 1, 1, 0, 0] (bodyOf Try.f3)) [0, 1, 1, 1, 1, 1, 1, 1, 0, 0, 1, 1, 0, 0, 1, 0, 1, 1, 1, 1] (g3_K1419 p2 u0) ((g3_l1322_cs p2 s7 u0 r1079) ++ sputs [(2, .b), (176, .i .i64)] s) w := by kernel_rfl
  have h2 : loopM Try.prog 202 3 g3_ann (cAt [1, 1, 1, 1, 0, 1, 0, 0, 1, 1, 0, 0, 1, 1, 1, 1, 1, 1, 1, 0, 0] (bodyOf Try.f3)) [0, 1, 1, 1, 1, 1, 1, 1, 0, 0, 1, 1, 0, 0, 1, 0, 1, 1, 1, 1] (g3_K1419 p2 u0) ((g3_l1322_cs p2 s7 u0 r1079) ++ sputs [(2, .b), (176, .i .i64)] s) w = (g3_K1419 p2 u0) (.exit 5) (puts 202 ((g3_l1322_cs p2 s7 u0 r1079) ++ sputs [(2, .b), (176, .i .i64)] t)) w' :=
    loop_rule (P := Try.prog) (N := 202) (f := 3) (ann := g3_ann) (body := (cAt [1, 1, 1, 1, 0, 1, 0, 0, 1, 1, 0, 0, 1, 1, 1, 1, 1, 1, 1, 0, 0] (bodyOf Try.f3))) (pt := [0, 1, 1, 1, 1, 1, 1, 1, 0, 0, 1, 1, 0, 0, 1, 0, 1, 1, 1, 1]) (K := (g3_K1419 p2 u0)) (g3_l1322_cs p2 s7 u0 r1079) [(2, .b), (176, .i .i64)] (b := g3_l1322_b r1079 p2 s7 u0) (fun s w => by kernel_rfl) (by kernel_rfl) (by kernel_rfl) (by kernel_rfl) h
  have h3 : (g3_K1419 p2 u0) (.exit 5) (puts 202 ((g3_l1322_cs p2 s7 u0 r1079) ++ sputs [(2, .b), (176, .i .i64)] t)) w' = g3_l1322_x5 s7 t w' := by kernel_rfl
  exact h1.trans (h2.trans h3)

theorem g3_l6_x0_of {p2 : Option Addr} {u0 : Option Addr × Nat × Nat} {s t : Bool × (Option Addr × Nat × Nat) × Int} {w w' : World} (h : loopS (g3_l6_b u0 p2) s w = some (.exit 0, t, w')) : g3_l6 p2 u0 s w = g3_l6_x0 t w' := by
  have h1 : g3_l6 p2 u0 s w = loopM Try.prog 202 3 g3_ann (cAt [1, 1, 1, 1, 0, 1, 0, 0] (bodyOf Try.f3)) [0, 1, 0, 1, 1, 1, 1] g3_K1426 ((g3_l6_cs p2 u0) ++ sputs [(2, .b), (4, .sl), (28, .i .i64)] s) w := by kernel_rfl
  have h2 : loopM Try.prog 202 3 g3_ann (cAt [1, 1, 1, 1, 0, 1, 0, 0] (bodyOf Try.f3)) [0, 1, 0, 1, 1, 1, 1] g3_K1426 ((g3_l6_cs p2 u0) ++ sputs [(2, .b), (4, .sl), (28, .i .i64)] s) w = g3_K1426 (.exit 0) (puts 202 ((g3_l6_cs p2 u0) ++ sputs [(2, .b), (4, .sl), (28, .i .i64)] t)) w' :=
    loop_rule (P := Try.prog) (N := 202) (f := 3) (ann := g3_ann) (body := (cAt [1, 1, 1, 1, 0, 1, 0, 0] (bodyOf Try.f3))) (pt := [0, 1, 0, 1, 1, 1, 1]) (K := g3_K1426) (g3_l6_cs p2 u0) [(2, .b), (4, .sl), (28, .i .i64)] (b := g3_l6_b u0 p2) (fun s w => by kernel_rfl) (by kernel_rfl) (by kernel_rfl) (by kernel_rfl) h
  have h3 : g3_K1426 (.exit 0) (puts 202 ((g3_l6_cs p2 u0) ++ sputs [(2, .b), (4, .sl), (28, .i .i64)] t)) w' = g3_l6_x0 t w' := by kernel_rfl
  exact h1.trans (h2.trans h3)

end Go.Proofs.Ytlcojbodcbjkaaa
