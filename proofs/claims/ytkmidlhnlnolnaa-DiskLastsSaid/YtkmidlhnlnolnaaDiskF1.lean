/-
  DiskF1: lemmas on what Go functions of this seat come to (for whatever arguments, as each says). No condition but those that stand in each lemma.
-/
import Derived.Test.YtkmidlhnlnolnaaLb9
import Derived.Test.YtkmidlhnlnolnaaProg
namespace Go.Proofs.Ytkmidlhnlnolnaa
open Go Go.Ev
set_option maxRecDepth 100000
set_option linter.unusedVariables false
/-! 8: penstock/disk.New () -/
def g8_ann : List (List Nat × List Nat) := []

noncomputable def g8  (w0 : World) : Option (Value × World) :=
some (.pointer (some (⟨(World.alloc w0 (.map #[] 0)).heap.size, 0, none⟩)), (World.alloc (World.alloc w0 (.map #[] 0)) (.cells #[.map (some w0.heap.size), .int .i64 (-1), .bool false, .int .i64 0] 59)))

theorem g8_eq  (w0 : World) : evFn Try.prog 8 g8_ann #[] w0 = g8 w0 := by kernel_rfl

theorem g8_call  {w0 : World} {r : Value × World} (h : g8 w0 = some r) : callF Try.prog 8 #[] w0 = some r :=
  callF_of_evFn (ann := g8_ann) Try.call8 (by kernel_rfl) ((g8_eq  w0).trans h)

/-! 9: penstock/penstocklaw05.awake () -/
def g9_ann : List (List Nat × List Nat) := []

noncomputable def g9  (w0 : World) : Option (Value × World) :=
(callF Try.prog 8 #[] w0).bind fun r1 =>
(asP r1.1).bind fun p2 =>
if (p2.isNone) = true then
(some (.bool false, r1.2))
else
((semR Try.prog (convert 28 28 (.slice (some (⟨r1.2.heap.size, 0, none⟩)) 3 3)) (World.alloc r1.2 (.cells #[.int .u8 120, .int .u8 121, .int .u8 122] 5))).bind fun r3 =>
(asSl r3.1).bind fun q4 =>
(callF Try.prog 10 #[.pointer p2, .string (⟨#[97]⟩ : ByteArray), .slice q4.1 q4.2.1 q4.2.2] r3.2).bind fun r5 =>
(asI .i64 r5.1).bind fun n6 =>
if ((n6 : Int) != 0) = true then
(some (.bool false, r5.2))
else
((callF Try.prog 13 #[.pointer p2, .string (⟨#[97]⟩ : ByteArray)] r5.2).bind fun r7 =>
(asI .i64 r7.1).bind fun n8 =>
if ((n8 : Int) != 0) = true then
(some (.bool false, r7.2))
else
((semR Try.prog (convert 28 28 (.slice (some (⟨r7.2.heap.size, 0, none⟩)) 3 3)) (World.alloc r7.2 (.cells #[.int .u8 117, .int .u8 118, .int .u8 119] 5))).bind fun r9 =>
(asSl r9.1).bind fun q10 =>
(callF Try.prog 10 #[.pointer p2, .string (⟨#[97]⟩ : ByteArray), .slice q10.1 q10.2.1 q10.2.2] r9.2).bind fun r11 =>
(asI .i64 r11.1).bind fun n12 =>
if ((n12 : Int) != 0) = true then
(some (.bool false, r11.2))
else
((callF Try.prog 14 #[.pointer p2, .int .i64 2] r11.2).bind fun r13 =>
(asTup 0 r13.1).bind fun _ =>
(callF Try.prog 15 #[.pointer p2, .string (⟨#[97]⟩ : ByteArray)] r13.2).bind fun r14 =>
(asTup 2 r14.1).bind fun l15 =>
(asSl (l15.getD 0 undef)).bind fun q16 =>
(asI .i64 (l15.getD 1 undef)).bind fun n17 =>
if ((n17 : Int) == 0) = true then
((semR Try.prog (convert 28 9 (.slice q16.1 q16.2.1 q16.2.2)) r14.2).bind fun r18 =>
(asS r18.1).bind fun s19 =>
some (.bool (s19.toList == (⟨#[120, 121, 122, 117, 118]⟩ : ByteArray).toList), r18.2))
else
(some (.bool false, r14.2))))))

theorem g9_eq  (w0 : World) : evFn Try.prog 9 g9_ann #[] w0 = g9 w0 := by kernel_rfl

theorem g9_call  {w0 : World} {r : Value × World} (h : g9 w0 = some r) : callF Try.prog 9 #[] w0 = some r :=
  callF_of_evFn (ann := g9_ann) Try.call9 (by kernel_rfl) ((g9_eq  w0).trans h)

/-! 10: (*penstock/disk.Disk).Append (d: *disk.Disk, name: string, b: []uint8) -/
def g10_ann : List (List Nat × List Nat) := []

noncomputable def g10_j30 (x27 : Option Addr) (u2 : Option Addr × Nat × Nat) (u0 : Option Addr) (x43 : Int) (w44 : World) : Option (Value × World) :=
x27.bind fun a45 =>
(World.cell? (World.drew w44) a45).bind fun v46 =>
(asSl v46).bind fun q47 =>
(slc u2.1 u2.2.1 u2.2.2 1 none (some x43) none).bind fun q48 =>
(callB Try.prog .append #[28, 28] 28 #[false, false] #[.slice q47.1 q47.2.1 q47.2.2, .slice q48.1 q48.2.1 q48.2.2] (World.drew w44)).bind fun r49 =>
(asSl r49.1).bind fun q50 =>
x27.bind fun a51 =>
(st1 r49.2 a51 (.slice q50.1 q50.2.1 q50.2.2)).bind fun w52 =>
u0.bind fun a53 =>
(World.cell? w52 (Addr.add a53 3)).bind fun v54 =>
(asI .i64 v54).bind fun n55 =>
u0.bind fun a56 =>
(st1 w52 (Addr.add a56 3) (.int .i64 (IntKind.i64.wrap (n55 + x43)))).bind fun w57 =>
if (decide ((x43 : Int) < (u2.2.1 : Int))) = true then
(u0.bind fun a59 =>
(st1 w57 (Addr.add a59 2) (.bool true)).bind fun w60 =>
some (.int .i64 9, w60))
else
(some (.int .i64 0, w57))

noncomputable def g10_j8 (u0 : Option Addr) (u2 : Option Addr × Nat × Nat) (x27 : Option Addr) (w28 : World) : Option (Value × World) :=
u0.bind fun a31 =>
(World.cell? w28 (Addr.add a31 1)).bind fun v32 =>
(asI .i64 v32).bind fun n33 =>
if (decide ((n33 : Int) ≥ 0)) = true then
(u0.bind fun a34 =>
(World.cell? w28 (Addr.add a34 1)).bind fun v35 =>
(asI .i64 v35).bind fun n36 =>
u0.bind fun a38 =>
(World.cell? w28 (Addr.add a38 1)).bind fun v39 =>
(asI .i64 v39).bind fun n40 =>
u0.bind fun a41 =>
(st1 w28 (Addr.add a41 1) (.int .i64 (IntKind.i64.wrap (n40 - (if (n36 : Int) < (u2.2.1 : Int) then n36 else (u2.2.1 : Int)))))).bind fun w42 =>
g10_j30 x27 u2 u0 (if (n36 : Int) < (u2.2.1 : Int) then n36 else (u2.2.1 : Int)) w42)
else
(g10_j30 x27 u2 u0 (u2.2.1 : Int) w28)

noncomputable def g10 (u0 : Option Addr) (u1 : ByteArray) (u2 : Option Addr × Nat × Nat) (w0 : World) : Option (Value × World) :=
(callF Try.prog 25 #[.pointer u0] w0).bind fun r1 =>
(asI .i64 r1.1).bind fun n2 =>
if ((n2 : Int) != 0) = true then
(some (.int .i64 n2, r1.2))
else
(u0.bind fun a3 =>
(World.cell? r1.2 a3).bind fun v4 =>
(asM v4).bind fun m5 =>
(mLook .string r1.2 m5 (.string u1)).bind fun o6 =>
(asP (o6.getD (.pointer none))).bind fun p7 =>
if (u1.toList == (⟨#[]⟩ : ByteArray).toList) = true then
(some (.int .i64 1, r1.2))
else
(if (decide (((u1.size : Int) : Int) > 24)) = true then
(some (.int .i64 1, r1.2))
else
(u0.bind fun a11 =>
(World.cell? r1.2 (Addr.add a11 3)).bind fun v12 =>
(asI .i64 v12).bind fun n13 =>
if (decide (((u2.2.1 : Int) : Int) > (IntKind.i64.wrap (4194304 - n13)))) = true then
(some (.int .i64 3, r1.2))
else
(if (p7.isNone) = true then
(u0.bind fun a14 =>
(World.cell? r1.2 a14).bind fun v15 =>
(asM v15).bind fun m16 =>
(mLen r1.2 m16).bind fun n18 =>
if (((n18 : Int) : Int) == 4096) = true then
(some (.int .i64 3, r1.2))
else
(if (p7.isNone) = true then
(u0.bind fun a19 =>
(World.cell? (World.alloc r1.2 (.cells #[.slice none 0 0, .int .i64 0] 63)) a19).bind fun v20 =>
(asM v20).bind fun m21 =>
(mUpd .string (World.alloc r1.2 (.cells #[.slice none 0 0, .int .i64 0] 63)) m21 (.string u1) (.pointer (some (⟨r1.2.heap.size, 0, none⟩)))).bind fun w22 =>
g10_j8 u0 u2 (some (⟨r1.2.heap.size, 0, none⟩)) w22)
else
(g10_j8 u0 u2 p7 r1.2)))
else
(if (p7.isNone) = true then
(u0.bind fun a23 =>
(World.cell? (World.alloc r1.2 (.cells #[.slice none 0 0, .int .i64 0] 63)) a23).bind fun v24 =>
(asM v24).bind fun m25 =>
(mUpd .string (World.alloc r1.2 (.cells #[.slice none 0 0, .int .i64 0] 63)) m25 (.string u1) (.pointer (some (⟨r1.2.heap.size, 0, none⟩)))).bind fun w26 =>
g10_j8 u0 u2 (some (⟨r1.2.heap.size, 0, none⟩)) w26)
else
(g10_j8 u0 u2 p7 r1.2))))))

theorem g10_eq (u0 : Option Addr) (u1 : ByteArray) (u2 : Option Addr × Nat × Nat) (w0 : World) : evFn Try.prog 10 g10_ann #[.pointer u0, .string u1, .slice u2.1 u2.2.1 u2.2.2] w0 = g10 u0 u1 u2 w0 := by kernel_rfl

theorem g10_call {u0 : Option Addr} {u1 : ByteArray} {u2 : Option Addr × Nat × Nat} {w0 : World} {r : Value × World} (h : g10 u0 u1 u2 w0 = some r) : callF Try.prog 10 #[.pointer u0, .string u1, .slice u2.1 u2.2.1 u2.2.2] w0 = some r :=
  callF_of_evFn (ann := g10_ann) Try.call10 (by kernel_rfl) ((g10_eq u0 u1 u2 w0).trans h)

/-! 11: (*penstock/disk.Disk).Arm (d: *disk.Disk, n: int) -/
def g11_ann : List (List Nat × List Nat) := []

noncomputable def g11 (u0 : Option Addr) (u1 : Int) (w0 : World) : Option (Value × World) :=
if (!(u0.isNone)) = true then
(u0.bind fun a1 =>
(World.cell? w0 (Addr.add a1 2)).bind fun v2 =>
(asB v2).bind fun b3 =>
if (!b3) = true then
(u0.bind fun a5 =>
(st1 w0 (Addr.add a5 1) (.int .i64 (if ((-1) : Int) > u1 then (-1) else u1))).bind fun w6 =>
some (.tuple #[], w6))
else
(some (.tuple #[], w0)))
else
(some (.tuple #[], w0))

theorem g11_eq (u0 : Option Addr) (u1 : Int) (w0 : World) : evFn Try.prog 11 g11_ann #[.pointer u0, .int .i64 u1] w0 = g11 u0 u1 w0 := by kernel_rfl

theorem g11_call {u0 : Option Addr} {u1 : Int} {w0 : World} {r : Value × World} (h : g11 u0 u1 w0 = some r) : callF Try.prog 11 #[.pointer u0, .int .i64 u1] w0 = some r :=
  callF_of_evFn (ann := g11_ann) Try.call11 (by kernel_rfl) ((g11_eq u0 u1 w0).trans h)

/-! 12: (*penstock/disk.Disk).Dead (d: *disk.Disk) -/
def g12_ann : List (List Nat × List Nat) := []

noncomputable def g12 (u0 : Option Addr) (w0 : World) : Option (Value × World) :=
if (!(u0.isNone)) = true then
(u0.bind fun a1 =>
(World.cell? w0 (Addr.add a1 2)).bind fun v2 =>
(asB v2).bind fun b3 =>
some (.bool b3, w0))
else
(some (.bool false, w0))

theorem g12_eq (u0 : Option Addr) (w0 : World) : evFn Try.prog 12 g12_ann #[.pointer u0] w0 = g12 u0 w0 := by kernel_rfl

theorem g12_call {u0 : Option Addr} {w0 : World} {r : Value × World} (h : g12 u0 w0 = some r) : callF Try.prog 12 #[.pointer u0] w0 = some r :=
  callF_of_evFn (ann := g12_ann) Try.call12 (by kernel_rfl) ((g12_eq u0 w0).trans h)

/-! 13: (*penstock/disk.Disk).Sync (d: *disk.Disk, name: string) -/
def g13_ann : List (List Nat × List Nat) := []

noncomputable def g13 (u0 : Option Addr) (u1 : ByteArray) (w0 : World) : Option (Value × World) :=
(callF Try.prog 26 #[.pointer u0, .string u1] w0).bind fun r1 =>
(asTup 2 r1.1).bind fun l2 =>
(asP (l2.getD 0 undef)).bind fun p3 =>
(asI .i64 (l2.getD 1 undef)).bind fun n4 =>
if ((n4 : Int) == 0) = true then
(p3.bind fun a5 =>
(World.cell? r1.2 a5).bind fun v6 =>
(asSl v6).bind fun q7 =>
p3.bind fun a9 =>
(st1 r1.2 (Addr.add a9 1) (.int .i64 (q7.2.1 : Int))).bind fun w10 =>
some (.int .i64 n4, w10))
else
(some (.int .i64 n4, r1.2))

theorem g13_eq (u0 : Option Addr) (u1 : ByteArray) (w0 : World) : evFn Try.prog 13 g13_ann #[.pointer u0, .string u1] w0 = g13 u0 u1 w0 := by kernel_rfl

theorem g13_call {u0 : Option Addr} {u1 : ByteArray} {w0 : World} {r : Value × World} (h : g13 u0 u1 w0 = some r) : callF Try.prog 13 #[.pointer u0, .string u1] w0 = some r :=
  callF_of_evFn (ann := g13_ann) Try.call13 (by kernel_rfl) ((g13_eq u0 u1 w0).trans h)

/-! 14: (*penstock/disk.Disk).Crash (d: *disk.Disk, keep: int) -/
def g14_ann : List (List Nat × List Nat) := [([0, 1, 0, 1], [0, 1, 14])]

def g14_l6_cs (u0 : Option Addr) (u1 : Int) (p5 : Option Addr) : List (Nat × Value) := ([(0, .pointer u0), (1, .int .i64 u1), (14, .pointer p5)] : List (Nat × Value))

/-- the round of a loop ((*penstock/disk.Disk).Crash) -/
noncomputable def g14_l6_b (p5 : Option Addr) (u0 : Option Addr) (u1 : Int) (s7 : Unit) (w8 : World) : Option (Exit × (Unit) × World) :=
(semR Try.prog (Instr.next (.pointer p5) false 0) w8).bind fun r9 =>
(asNext r9.1).bind fun o10 =>
onNext o10 (some ((.exit 0), (), r9.2)) (fun k11 => fun v12 =>
(semR Try.prog (Instr.entry (.pointer p5)) r9.2).bind fun r13 =>
(asTup 2 r13.1).bind fun l14 =>
(asP (l14.getD 1 undef)).bind fun p15 =>
p15.bind fun a16 =>
(World.cell? (World.drew r13.2) a16).bind fun v17 =>
(asSl v17).bind fun q18 =>
p15.bind fun a20 =>
(World.cell? (World.drew r13.2) (Addr.add a20 1)).bind fun v21 =>
(asI .i64 v21).bind fun n22 =>
p15.bind fun a23 =>
(World.cell? (World.drew (World.drew r13.2)) (Addr.add a23 1)).bind fun v24 =>
(asI .i64 v24).bind fun n25 =>
if ((IntKind.u64.wrap (IntKind.i64.wrap ((IntKind.i64.wrap ((q18.2.1 : Int) - n22)) + 1))) : Int) = 0 then
(none)
else
(u0.bind fun a26 =>
(World.cell? (World.drew (World.drew (World.drew r13.2))) (Addr.add a26 3)).bind fun v27 =>
(asI .i64 v27).bind fun n28 =>
p15.bind fun a29 =>
(World.cell? (World.drew (World.drew (World.drew r13.2))) a29).bind fun v30 =>
(asSl v30).bind fun q31 =>
u0.bind fun a33 =>
(st1 (World.drew (World.drew (World.drew r13.2))) (Addr.add a33 3) (.int .i64 (IntKind.i64.wrap (n28 - (IntKind.i64.wrap ((q31.2.1 : Int) - (IntKind.i64.wrap (n25 + (IntKind.i64.wrap (Int.tmod (IntKind.u64.wrap u1) (IntKind.u64.wrap (IntKind.i64.wrap ((IntKind.i64.wrap ((q18.2.1 : Int) - n22)) + 1))))))))))))).bind fun w34 =>
p15.bind fun a35 =>
(World.cell? w34 a35).bind fun v36 =>
(asSl v36).bind fun q37 =>
(slc q37.1 q37.2.1 q37.2.2 1 none (some (IntKind.i64.wrap (n25 + (IntKind.i64.wrap (Int.tmod (IntKind.u64.wrap u1) (IntKind.u64.wrap (IntKind.i64.wrap ((IntKind.i64.wrap ((q18.2.1 : Int) - n22)) + 1)))))))) (some (IntKind.i64.wrap (n25 + (IntKind.i64.wrap (Int.tmod (IntKind.u64.wrap u1) (IntKind.u64.wrap (IntKind.i64.wrap ((IntKind.i64.wrap ((q18.2.1 : Int) - n22)) + 1))))))))).bind fun q38 =>
p15.bind fun a39 =>
(st1 w34 a39 (.slice q38.1 q38.2.1 q38.2.2)).bind fun w40 =>
p15.bind fun a41 =>
(st1 w40 (Addr.add a41 1) (.int .i64 (IntKind.i64.wrap (n25 + (IntKind.i64.wrap (Int.tmod (IntKind.u64.wrap u1) (IntKind.u64.wrap (IntKind.i64.wrap ((IntKind.i64.wrap ((q18.2.1 : Int) - n22)) + 1))))))))).bind fun w42 =>
some (.normal, (), w42)))

noncomputable def g14_K43  : Exit → Env → World → Option (Value × World) :=
  retK Try.prog Try.f14.results.toList

noncomputable def g14_K44  : Exit → Env → World → Option (Value × World) :=
  seqK (ev Try.prog 75 14 g14_ann (cAt [1, 1] (bodyOf Try.f14)) [1, 1] g14_K43) g14_K43

noncomputable def g14_K45  : Exit → Env → World → Option (Value × World) :=
  blkK 0 g14_K44

/-- the loop, from a state on -/
noncomputable def g14_l6 (u0 : Option Addr) (u1 : Int) (p5 : Option Addr) (s : Unit) (w : World) : Option (Value × World) :=
  loopM Try.prog 75 14 g14_ann (cAt [1, 0, 1, 0, 0] (bodyOf Try.f14)) [0, 1, 0, 1] g14_K45 ((g14_l6_cs u0 u1 p5) ++ sputs [] s) w

/-- behind the loop, left by x0 -/
noncomputable def g14_l6_x0 (u0 : Option Addr) (t46 : Unit) (w47 : World) : Option (Value × World) :=
u0.bind fun a48 =>
(st1 w47 (Addr.add a48 2) (.bool false)).bind fun w49 =>
u0.bind fun a50 =>
(st1 w49 (Addr.add a50 1) (.int .i64 (-1))).bind fun w51 =>
some (.tuple #[], w51)

noncomputable def g14 (u0 : Option Addr) (u1 : Int) (w0 : World) : Option (Value × World) :=
if (u0.isNone) = true then
(some (.tuple #[], w0))
else
(u0.bind fun a1 =>
(World.cell? w0 a1).bind fun v2 =>
(asM v2).bind fun m3 =>
(semR Try.prog (Instr.range 57 (.map m3)) w0).bind fun r4 =>
(asP r4.1).bind fun p5 =>
g14_l6 u0 u1 p5 () r4.2)

theorem g14_eq (u0 : Option Addr) (u1 : Int) (w0 : World) : evFn Try.prog 14 g14_ann #[.pointer u0, .int .i64 u1] w0 = g14 u0 u1 w0 := by kernel_rfl

theorem g14_call {u0 : Option Addr} {u1 : Int} {w0 : World} {r : Value × World} (h : g14 u0 u1 w0 = some r) : callF Try.prog 14 #[.pointer u0, .int .i64 u1] w0 = some r :=
  callF_of_evFn (ann := g14_ann) Try.call14 (by kernel_rfl) ((g14_eq u0 u1 w0).trans h)

theorem g14_l6_x0_of {u0 : Option Addr} {u1 : Int} {p5 : Option Addr} {s t : Unit} {w w' : World} (h : loopS (g14_l6_b p5 u0 u1) s w = some (.exit 0, t, w')) : g14_l6 u0 u1 p5 s w = g14_l6_x0 u0 t w' := by
  have h1 : g14_l6 u0 u1 p5 s w = loopM Try.prog 75 14 g14_ann (cAt [1, 0, 1, 0, 0] (bodyOf Try.f14)) [0, 1, 0, 1] g14_K45 ((g14_l6_cs u0 u1 p5) ++ sputs [] s) w := by kernel_rfl
  have h2 : loopM Try.prog 75 14 g14_ann (cAt [1, 0, 1, 0, 0] (bodyOf Try.f14)) [0, 1, 0, 1] g14_K45 ((g14_l6_cs u0 u1 p5) ++ sputs [] s) w = g14_K45 (.exit 0) (puts 75 ((g14_l6_cs u0 u1 p5) ++ sputs [] t)) w' :=
    loop_rule (P := Try.prog) (N := 75) (f := 14) (ann := g14_ann) (body := (cAt [1, 0, 1, 0, 0] (bodyOf Try.f14))) (pt := [0, 1, 0, 1]) (K := g14_K45) (g14_l6_cs u0 u1 p5) [] (b := g14_l6_b p5 u0 u1) (fun s w => by kernel_rfl) (by kernel_rfl) (by kernel_rfl) (by kernel_rfl) h
  have h3 : g14_K45 (.exit 0) (puts 75 ((g14_l6_cs u0 u1 p5) ++ sputs [] t)) w' = g14_l6_x0 u0 t w' := by kernel_rfl
  exact h1.trans (h2.trans h3)

/-! 15: (*penstock/disk.Disk).Read (d: *disk.Disk, name: string) -/
def g15_ann : List (List Nat × List Nat) := []

noncomputable def g15 (u0 : Option Addr) (u1 : ByteArray) (w0 : World) : Option (Value × World) :=
(callF Try.prog 26 #[.pointer u0, .string u1] w0).bind fun r1 =>
(asTup 2 r1.1).bind fun l2 =>
(asP (l2.getD 0 undef)).bind fun p3 =>
(asI .i64 (l2.getD 1 undef)).bind fun n4 =>
if ((n4 : Int) != 0) = true then
(some (.tuple #[.slice none 0 0, .int .i64 n4], r1.2))
else
(p3.bind fun a5 =>
(World.cell? r1.2 a5).bind fun v6 =>
(asSl v6).bind fun q7 =>
(callB Try.prog .append #[28, 28] 28 #[true, false] #[.slice none 0 0, .slice q7.1 q7.2.1 q7.2.2] r1.2).bind fun r8 =>
(asSl r8.1).bind fun q9 =>
some (.tuple #[.slice q9.1 q9.2.1 q9.2.2, .int .i64 0], r8.2))

theorem g15_eq (u0 : Option Addr) (u1 : ByteArray) (w0 : World) : evFn Try.prog 15 g15_ann #[.pointer u0, .string u1] w0 = g15 u0 u1 w0 := by kernel_rfl

theorem g15_call {u0 : Option Addr} {u1 : ByteArray} {w0 : World} {r : Value × World} (h : g15 u0 u1 w0 = some r) : callF Try.prog 15 #[.pointer u0, .string u1] w0 = some r :=
  callF_of_evFn (ann := g15_ann) Try.call15 (by kernel_rfl) ((g15_eq u0 u1 w0).trans h)

/-! 16: penstock/penstocklaw05.many (n: int) -/
def g16_ann : List (List Nat × List Nat) := [([0, 1, 0, 1, 1], [0, 3, 4])]

def g16_l1_cs (u0 : Int) : List (Nat × Value) := ([(0, .int .i64 u0)] : List (Nat × Value))

/-- the round of a loop (penstock/penstocklaw05.many) -/
noncomputable def g16_l1_b (u0 : Int) (s2 : (Option Addr × Nat × Nat) × Int) (w3 : World) : Option (Exit × ((Option Addr × Nat × Nat) × Int) × World) :=
if (decide ((s2.2 : Int) < u0)) = true then
(if (decide ((s2.2 : Int) ≤ 4194304)) = true then
((callB Try.prog .append #[28, 28] 28 #[false, false] #[.slice s2.1.1 s2.1.2.1 s2.1.2.2, .slice (some (⟨w3.heap.size, 0, none⟩)) 1 1] (World.alloc w3 (.cells #[.int .u8 (IntKind.u8.wrap s2.2)] 5))).bind fun r4 =>
(asSl r4.1).bind fun q5 =>
some (.normal, ((q5.1, q5.2.1, q5.2.2), (IntKind.i64.wrap (s2.2 + 1))), r4.2))
else
(some ((.exit 0), ((s2.1.1, s2.1.2.1, s2.1.2.2), s2.2), w3)))
else
(some ((.exit 0), ((s2.1.1, s2.1.2.1, s2.1.2.2), s2.2), w3))

noncomputable def g16_K6  : Exit → Env → World → Option (Value × World) :=
  retK Try.prog Try.f16.results.toList

noncomputable def g16_K7  : Exit → Env → World → Option (Value × World) :=
  seqK (ev Try.prog 20 16 g16_ann (cAt [1, 1, 1] (bodyOf Try.f16)) [1, 1, 1] g16_K6) g16_K6

noncomputable def g16_K8  : Exit → Env → World → Option (Value × World) :=
  blkK 0 g16_K7

/-- the loop, from a state on -/
noncomputable def g16_l1 (u0 : Int) (s : (Option Addr × Nat × Nat) × Int) (w : World) : Option (Value × World) :=
  loopM Try.prog 20 16 g16_ann (cAt [1, 1, 0, 1, 0, 0] (bodyOf Try.f16)) [0, 1, 0, 1, 1] g16_K8 ((g16_l1_cs u0) ++ sputs [(3, .sl), (4, .i .i64)] s) w

/-- behind the loop, left by x0 -/
noncomputable def g16_l1_x0  (t9 : (Option Addr × Nat × Nat) × Int) (w10 : World) : Option (Value × World) :=
some (.slice t9.1.1 t9.1.2.1 t9.1.2.2, w10)

noncomputable def g16 (u0 : Int) (w0 : World) : Option (Value × World) :=
g16_l1 u0 ((none, 0, 0), 0) w0

theorem g16_eq (u0 : Int) (w0 : World) : evFn Try.prog 16 g16_ann #[.int .i64 u0] w0 = g16 u0 w0 := by kernel_rfl

theorem g16_call {u0 : Int} {w0 : World} {r : Value × World} (h : g16 u0 w0 = some r) : callF Try.prog 16 #[.int .i64 u0] w0 = some r :=
  callF_of_evFn (ann := g16_ann) Try.call16 (by kernel_rfl) ((g16_eq u0 w0).trans h)

theorem g16_l1_x0_of {u0 : Int} {s t : (Option Addr × Nat × Nat) × Int} {w w' : World} (h : loopS (g16_l1_b u0) s w = some (.exit 0, t, w')) : g16_l1 u0 s w = g16_l1_x0 t w' := by
  have h1 : g16_l1 u0 s w = loopM Try.prog 20 16 g16_ann (cAt [1, 1, 0, 1, 0, 0] (bodyOf Try.f16)) [0, 1, 0, 1, 1] g16_K8 ((g16_l1_cs u0) ++ sputs [(3, .sl), (4, .i .i64)] s) w := by kernel_rfl
  have h2 : loopM Try.prog 20 16 g16_ann (cAt [1, 1, 0, 1, 0, 0] (bodyOf Try.f16)) [0, 1, 0, 1, 1] g16_K8 ((g16_l1_cs u0) ++ sputs [(3, .sl), (4, .i .i64)] s) w = g16_K8 (.exit 0) (puts 20 ((g16_l1_cs u0) ++ sputs [(3, .sl), (4, .i .i64)] t)) w' :=
    loop_rule (P := Try.prog) (N := 20) (f := 16) (ann := g16_ann) (body := (cAt [1, 1, 0, 1, 0, 0] (bodyOf Try.f16))) (pt := [0, 1, 0, 1, 1]) (K := g16_K8) (g16_l1_cs u0) [(3, .sl), (4, .i .i64)] (b := g16_l1_b u0) (fun s w => by kernel_rfl) (by kernel_rfl) (by kernel_rfl) (by kernel_rfl) h
  have h3 : g16_K8 (.exit 0) (puts 20 ((g16_l1_cs u0) ++ sputs [(3, .sl), (4, .i .i64)] t)) w' = g16_l1_x0 t w' := by kernel_rfl
  exact h1.trans (h2.trans h3)

/-! 17: (*penstock/disk.Disk).Size (d: *disk.Disk, name: string) -/
def g17_ann : List (List Nat × List Nat) := []

noncomputable def g17 (u0 : Option Addr) (u1 : ByteArray) (w0 : World) : Option (Value × World) :=
(callF Try.prog 26 #[.pointer u0, .string u1] w0).bind fun r1 =>
(asTup 2 r1.1).bind fun l2 =>
(asP (l2.getD 0 undef)).bind fun p3 =>
(asI .i64 (l2.getD 1 undef)).bind fun n4 =>
if ((n4 : Int) != 0) = true then
(some (.tuple #[.int .i64 0, .int .i64 0, .int .i64 n4], r1.2))
else
(p3.bind fun a5 =>
(World.cell? (World.drew r1.2) a5).bind fun v6 =>
(asSl v6).bind fun q7 =>
p3.bind fun a9 =>
(World.cell? (World.drew r1.2) (Addr.add a9 1)).bind fun v10 =>
(asI .i64 v10).bind fun n11 =>
some (.tuple #[.int .i64 (q7.2.1 : Int), .int .i64 n11, .int .i64 0], (World.drew r1.2)))

theorem g17_eq (u0 : Option Addr) (u1 : ByteArray) (w0 : World) : evFn Try.prog 17 g17_ann #[.pointer u0, .string u1] w0 = g17 u0 u1 w0 := by kernel_rfl

theorem g17_call {u0 : Option Addr} {u1 : ByteArray} {w0 : World} {r : Value × World} (h : g17 u0 u1 w0 = some r) : callF Try.prog 17 #[.pointer u0, .string u1] w0 = some r :=
  callF_of_evFn (ann := g17_ann) Try.call17 (by kernel_rfl) ((g17_eq u0 u1 w0).trans h)

/-! 18: (*penstock/disk.Disk).Names (d: *disk.Disk) -/
def g18_ann : List (List Nat × List Nat) := [([0, 1, 0, 1, 1, 1], [11, 3])]

def g18_l6_cs (p5 : Option Addr) : List (Nat × Value) := ([(11, .pointer p5)] : List (Nat × Value))

/-- the round of a loop ((*penstock/disk.Disk).Names) -/
noncomputable def g18_l6_b (p5 : Option Addr) (s7 : (Option Addr × Nat × Nat)) (w8 : World) : Option (Exit × ((Option Addr × Nat × Nat)) × World) :=
(semR Try.prog (Instr.next (.pointer p5) false 0) w8).bind fun r9 =>
(asNext r9.1).bind fun o10 =>
onNext o10 (some ((.exit 0), (s7.1, s7.2.1, s7.2.2), r9.2)) (fun k11 => fun v12 =>
(semR Try.prog (Instr.entry (.pointer p5)) r9.2).bind fun r13 =>
(asTup 2 r13.1).bind fun l14 =>
(asS (l14.getD 0 undef)).bind fun s15 =>
(callB Try.prog .append #[37, 37] 37 #[false, false] #[.slice s7.1 s7.2.1 s7.2.2, .slice (some (⟨r13.2.heap.size, 0, none⟩)) 1 1] (World.alloc r13.2 (.cells #[.string s15] 9))).bind fun r16 =>
(asSl r16.1).bind fun q17 =>
some (.normal, (q17.1, q17.2.1, q17.2.2), r16.2))

noncomputable def g18_K18  : Exit → Env → World → Option (Value × World) :=
  retK Try.prog Try.f18.results.toList

noncomputable def g18_K19  : Exit → Env → World → Option (Value × World) :=
  seqK (ev Try.prog 23 18 g18_ann (cAt [1, 1, 1, 1] (bodyOf Try.f18)) [1, 1, 1, 1] g18_K18) g18_K18

noncomputable def g18_K20  : Exit → Env → World → Option (Value × World) :=
  blkK 0 g18_K19

/-- the loop, from a state on -/
noncomputable def g18_l6 (p5 : Option Addr) (s : (Option Addr × Nat × Nat)) (w : World) : Option (Value × World) :=
  loopM Try.prog 23 18 g18_ann (cAt [1, 1, 1, 0, 1, 0, 0] (bodyOf Try.f18)) [0, 1, 0, 1, 1, 1] g18_K20 ((g18_l6_cs p5) ++ sputs [(3, .sl)] s) w

/-- behind the loop, left by x0 -/
noncomputable def g18_l6_x0  (t21 : (Option Addr × Nat × Nat)) (w22 : World) : Option (Value × World) :=
(callF Try.prog 27 #[.slice t21.1 t21.2.1 t21.2.2] w22).bind fun r23 =>
(asTup 0 r23.1).bind fun _ =>
some (.slice t21.1 t21.2.1 t21.2.2, r23.2)

noncomputable def g18 (u0 : Option Addr) (w0 : World) : Option (Value × World) :=
if (u0.isNone) = true then
(some (.slice none 0 0, w0))
else
(u0.bind fun a1 =>
(World.cell? w0 a1).bind fun v2 =>
(asM v2).bind fun m3 =>
(semR Try.prog (Instr.range 57 (.map m3)) w0).bind fun r4 =>
(asP r4.1).bind fun p5 =>
g18_l6 p5 (none, 0, 0) r4.2)

theorem g18_eq (u0 : Option Addr) (w0 : World) : evFn Try.prog 18 g18_ann #[.pointer u0] w0 = g18 u0 w0 := by kernel_rfl

theorem g18_call {u0 : Option Addr} {w0 : World} {r : Value × World} (h : g18 u0 w0 = some r) : callF Try.prog 18 #[.pointer u0] w0 = some r :=
  callF_of_evFn (ann := g18_ann) Try.call18 (by kernel_rfl) ((g18_eq u0 w0).trans h)

theorem g18_l6_x0_of {p5 : Option Addr} {s t : (Option Addr × Nat × Nat)} {w w' : World} (h : loopS (g18_l6_b p5) s w = some (.exit 0, t, w')) : g18_l6 p5 s w = g18_l6_x0 t w' := by
  have h1 : g18_l6 p5 s w = loopM Try.prog 23 18 g18_ann (cAt [1, 1, 1, 0, 1, 0, 0] (bodyOf Try.f18)) [0, 1, 0, 1, 1, 1] g18_K20 ((g18_l6_cs p5) ++ sputs [(3, .sl)] s) w := by kernel_rfl
  have h2 : loopM Try.prog 23 18 g18_ann (cAt [1, 1, 1, 0, 1, 0, 0] (bodyOf Try.f18)) [0, 1, 0, 1, 1, 1] g18_K20 ((g18_l6_cs p5) ++ sputs [(3, .sl)] s) w = g18_K20 (.exit 0) (puts 23 ((g18_l6_cs p5) ++ sputs [(3, .sl)] t)) w' :=
    loop_rule (P := Try.prog) (N := 23) (f := 18) (ann := g18_ann) (body := (cAt [1, 1, 1, 0, 1, 0, 0] (bodyOf Try.f18))) (pt := [0, 1, 0, 1, 1, 1]) (K := g18_K20) (g18_l6_cs p5) [(3, .sl)] (b := g18_l6_b p5) (fun s w => by kernel_rfl) (by kernel_rfl) (by kernel_rfl) (by kernel_rfl) h
  have h3 : g18_K20 (.exit 0) (puts 23 ((g18_l6_cs p5) ++ sputs [(3, .sl)] t)) w' = g18_l6_x0 t w' := by kernel_rfl
  exact h1.trans (h2.trans h3)

/-! 19: (*penstock/disk.Disk).Rename (d: *disk.Disk, from: string, to: string) -/
def g19_ann : List (List Nat × List Nat) := []

noncomputable def g19_j6 (u0 : Option Addr) (u1 : ByteArray) (u2 : ByteArray) (p3 : Option Addr) (w21 : World) : Option (Value × World) :=
u0.bind fun a22 =>
(World.cell? w21 a22).bind fun v23 =>
(asM v23).bind fun m24 =>
(callB Try.prog .delete #[57, 9] 0 #[false, false] #[.map m24, .string u1] w21).bind fun r25 =>
(asTup 0 r25.1).bind fun _ =>
u0.bind fun a26 =>
(World.cell? r25.2 a26).bind fun v27 =>
(asM v27).bind fun m28 =>
(mUpd .string r25.2 m28 (.string u2) (.pointer p3)).bind fun w29 =>
p3.bind fun a30 =>
(World.cell? w29 a30).bind fun v31 =>
(asSl v31).bind fun q32 =>
p3.bind fun a34 =>
(st1 w29 (Addr.add a34 1) (.int .i64 (q32.2.1 : Int))).bind fun w35 =>
some (.int .i64 0, w35)

noncomputable def g19 (u0 : Option Addr) (u1 : ByteArray) (u2 : ByteArray) (w0 : World) : Option (Value × World) :=
(callF Try.prog 26 #[.pointer u0, .string u1] w0).bind fun r1 =>
(asTup 2 r1.1).bind fun l2 =>
(asP (l2.getD 0 undef)).bind fun p3 =>
(asI .i64 (l2.getD 1 undef)).bind fun n4 =>
if ((n4 : Int) != 0) = true then
(some (.int .i64 n4, r1.2))
else
(if (u2.toList == (⟨#[]⟩ : ByteArray).toList) = true then
(some (.int .i64 1, r1.2))
else
(if (decide (((u2.size : Int) : Int) > 24)) = true then
(some (.int .i64 1, r1.2))
else
(if (u1.toList == u2.toList) = true then
(some (.int .i64 0, r1.2))
else
(u0.bind fun a7 =>
(World.cell? r1.2 a7).bind fun v8 =>
(asM v8).bind fun m9 =>
(mLook .string r1.2 m9 (.string u2)).bind fun o10 =>
(asP (o10.getD (.pointer none))).bind fun p11 =>
if (!(p11.isNone)) = true then
(u0.bind fun a12 =>
(World.cell? (World.drew r1.2) (Addr.add a12 3)).bind fun v13 =>
(asI .i64 v13).bind fun n14 =>
p11.bind fun a15 =>
(World.cell? (World.drew r1.2) a15).bind fun v16 =>
(asSl v16).bind fun q17 =>
u0.bind fun a19 =>
(st1 (World.drew r1.2) (Addr.add a19 3) (.int .i64 (IntKind.i64.wrap (n14 - (q17.2.1 : Int))))).bind fun w20 =>
g19_j6 u0 u1 u2 p3 w20)
else
(g19_j6 u0 u1 u2 p3 r1.2)))))

theorem g19_eq (u0 : Option Addr) (u1 : ByteArray) (u2 : ByteArray) (w0 : World) : evFn Try.prog 19 g19_ann #[.pointer u0, .string u1, .string u2] w0 = g19 u0 u1 u2 w0 := by kernel_rfl

theorem g19_call {u0 : Option Addr} {u1 : ByteArray} {u2 : ByteArray} {w0 : World} {r : Value × World} (h : g19 u0 u1 u2 w0 = some r) : callF Try.prog 19 #[.pointer u0, .string u1, .string u2] w0 = some r :=
  callF_of_evFn (ann := g19_ann) Try.call19 (by kernel_rfl) ((g19_eq u0 u1 u2 w0).trans h)

/-! 20: penstock/penstockref03.Same (a: []uint8, b: []uint8) -/
def g20_ann : List (List Nat × List Nat) := [([0, 1, 0, 1, 1], [0, 1, 4, 5])]

def g20_l3_cs (u0 : Option Addr × Nat × Nat) (u1 : Option Addr × Nat × Nat) : List (Nat × Value) := ([(0, .slice u0.1 u0.2.1 u0.2.2), (1, .slice u1.1 u1.2.1 u1.2.2)] : List (Nat × Value))

/-- the round of a loop (penstock/penstockref03.Same) -/
noncomputable def g20_l3_b (u0 : Option Addr × Nat × Nat) (u1 : Option Addr × Nat × Nat) (s4 : Bool × Int) (w5 : World) : Option (Exit × (Bool × Int) × World) :=
if (decide ((s4.2 : Int) < (u0.2.1 : Int))) = true then
((idxA u0.1 u0.2.1 1 s4.2).bind fun a7 =>
(World.cell? (World.drew w5) a7).bind fun v8 =>
(asI .u8 v8).bind fun n9 =>
(idxA u1.1 u1.2.1 1 s4.2).bind fun a10 =>
(World.cell? (World.drew w5) a10).bind fun v11 =>
(asI .u8 v11).bind fun n12 =>
if ((n9 : Int) != n12) = true then
(some (.ret, (false, s4.2), (World.drew w5)))
else
(some (.normal, (s4.1, (IntKind.i64.wrap (s4.2 + 1))), (World.drew w5))))
else
(some ((.exit 0), (s4.1, s4.2), w5))

noncomputable def g20_K13  : Exit → Env → World → Option (Value × World) :=
  retK Try.prog Try.f20.results.toList

noncomputable def g20_K14  : Exit → Env → World → Option (Value × World) :=
  seqK (ev Try.prog 26 20 g20_ann (cAt [1, 1, 1] (bodyOf Try.f20)) [1, 1, 1] g20_K13) g20_K13

noncomputable def g20_K15  : Exit → Env → World → Option (Value × World) :=
  blkK 0 g20_K14

/-- the loop, from a state on -/
noncomputable def g20_l3 (u0 : Option Addr × Nat × Nat) (u1 : Option Addr × Nat × Nat) (s : Bool × Int) (w : World) : Option (Value × World) :=
  loopM Try.prog 26 20 g20_ann (cAt [1, 1, 0, 1, 0, 0] (bodyOf Try.f20)) [0, 1, 0, 1, 1] g20_K15 ((g20_l3_cs u0 u1) ++ sputs [(4, .b), (5, .i .i64)] s) w

/-- behind the loop, left by x0 -/
noncomputable def g20_l3_x0  (t16 : Bool × Int) (w17 : World) : Option (Value × World) :=
some (.bool true, w17)

/-- behind the loop, left by ret -/
noncomputable def g20_l3_ret  (t18 : Bool × Int) (w19 : World) : Option (Value × World) :=
some (.bool t18.1, w19)

noncomputable def g20 (u0 : Option Addr × Nat × Nat) (u1 : Option Addr × Nat × Nat) (w0 : World) : Option (Value × World) :=
if (((u0.2.1 : Int) : Int) != (u1.2.1 : Int)) = true then
(some (.bool false, w0))
else
(g20_l3 u0 u1 (false, 0) w0)

theorem g20_eq (u0 : Option Addr × Nat × Nat) (u1 : Option Addr × Nat × Nat) (w0 : World) : evFn Try.prog 20 g20_ann #[.slice u0.1 u0.2.1 u0.2.2, .slice u1.1 u1.2.1 u1.2.2] w0 = g20 u0 u1 w0 := by kernel_rfl

theorem g20_call {u0 : Option Addr × Nat × Nat} {u1 : Option Addr × Nat × Nat} {w0 : World} {r : Value × World} (h : g20 u0 u1 w0 = some r) : callF Try.prog 20 #[.slice u0.1 u0.2.1 u0.2.2, .slice u1.1 u1.2.1 u1.2.2] w0 = some r :=
  callF_of_evFn (ann := g20_ann) Try.call20 (by kernel_rfl) ((g20_eq u0 u1 w0).trans h)

theorem g20_l3_x0_of {u0 : Option Addr × Nat × Nat} {u1 : Option Addr × Nat × Nat} {s t : Bool × Int} {w w' : World} (h : loopS (g20_l3_b u0 u1) s w = some (.exit 0, t, w')) : g20_l3 u0 u1 s w = g20_l3_x0 t w' := by
  have h1 : g20_l3 u0 u1 s w = loopM Try.prog 26 20 g20_ann (cAt [1, 1, 0, 1, 0, 0] (bodyOf Try.f20)) [0, 1, 0, 1, 1] g20_K15 ((g20_l3_cs u0 u1) ++ sputs [(4, .b), (5, .i .i64)] s) w := by kernel_rfl
  have h2 : loopM Try.prog 26 20 g20_ann (cAt [1, 1, 0, 1, 0, 0] (bodyOf Try.f20)) [0, 1, 0, 1, 1] g20_K15 ((g20_l3_cs u0 u1) ++ sputs [(4, .b), (5, .i .i64)] s) w = g20_K15 (.exit 0) (puts 26 ((g20_l3_cs u0 u1) ++ sputs [(4, .b), (5, .i .i64)] t)) w' :=
    loop_rule (P := Try.prog) (N := 26) (f := 20) (ann := g20_ann) (body := (cAt [1, 1, 0, 1, 0, 0] (bodyOf Try.f20))) (pt := [0, 1, 0, 1, 1]) (K := g20_K15) (g20_l3_cs u0 u1) [(4, .b), (5, .i .i64)] (b := g20_l3_b u0 u1) (fun s w => by kernel_rfl) (by kernel_rfl) (by kernel_rfl) (by kernel_rfl) h
  have h3 : g20_K15 (.exit 0) (puts 26 ((g20_l3_cs u0 u1) ++ sputs [(4, .b), (5, .i .i64)] t)) w' = g20_l3_x0 t w' := by kernel_rfl
  exact h1.trans (h2.trans h3)

theorem g20_l3_ret_of {u0 : Option Addr × Nat × Nat} {u1 : Option Addr × Nat × Nat} {s t : Bool × Int} {w w' : World} (h : loopS (g20_l3_b u0 u1) s w = some (.ret, t, w')) : g20_l3 u0 u1 s w = g20_l3_ret t w' := by
  have h1 : g20_l3 u0 u1 s w = loopM Try.prog 26 20 g20_ann (cAt [1, 1, 0, 1, 0, 0] (bodyOf Try.f20)) [0, 1, 0, 1, 1] g20_K15 ((g20_l3_cs u0 u1) ++ sputs [(4, .b), (5, .i .i64)] s) w := by kernel_rfl
  have h2 : loopM Try.prog 26 20 g20_ann (cAt [1, 1, 0, 1, 0, 0] (bodyOf Try.f20)) [0, 1, 0, 1, 1] g20_K15 ((g20_l3_cs u0 u1) ++ sputs [(4, .b), (5, .i .i64)] s) w = g20_K15 (.ret) (puts 26 ((g20_l3_cs u0 u1) ++ sputs [(4, .b), (5, .i .i64)] t)) w' :=
    loop_rule (P := Try.prog) (N := 26) (f := 20) (ann := g20_ann) (body := (cAt [1, 1, 0, 1, 0, 0] (bodyOf Try.f20))) (pt := [0, 1, 0, 1, 1]) (K := g20_K15) (g20_l3_cs u0 u1) [(4, .b), (5, .i .i64)] (b := g20_l3_b u0 u1) (fun s w => by kernel_rfl) (by kernel_rfl) (by kernel_rfl) (by kernel_rfl) h
  have h3 : g20_K15 (.ret) (puts 26 ((g20_l3_cs u0 u1) ++ sputs [(4, .b), (5, .i .i64)] t)) w' = g20_l3_ret t w' := by kernel_rfl
  exact h1.trans (h2.trans h3)

/-! 23: (*penstock/disk.Disk).Cut (d: *disk.Disk, name: string, n: int) -/
def g23_ann : List (List Nat × List Nat) := []

noncomputable def g23 (u0 : Option Addr) (u1 : ByteArray) (u2 : Int) (w0 : World) : Option (Value × World) :=
(callF Try.prog 26 #[.pointer u0, .string u1] w0).bind fun r1 =>
(asTup 2 r1.1).bind fun l2 =>
(asP (l2.getD 0 undef)).bind fun p3 =>
(asI .i64 (l2.getD 1 undef)).bind fun n4 =>
if ((n4 : Int) != 0) = true then
(some (.int .i64 n4, r1.2))
else
(if (decide ((u2 : Int) < 0)) = true then
(some (.int .i64 1, r1.2))
else
(p3.bind fun a5 =>
(World.cell? r1.2 a5).bind fun v6 =>
(asSl v6).bind fun q7 =>
if (decide ((u2 : Int) > (q7.2.1 : Int))) = true then
(some (.int .i64 1, r1.2))
else
(u0.bind fun a9 =>
(World.cell? (World.drew r1.2) (Addr.add a9 3)).bind fun v10 =>
(asI .i64 v10).bind fun n11 =>
p3.bind fun a12 =>
(World.cell? (World.drew r1.2) a12).bind fun v13 =>
(asSl v13).bind fun q14 =>
u0.bind fun a16 =>
(st1 (World.drew r1.2) (Addr.add a16 3) (.int .i64 (IntKind.i64.wrap (n11 - (IntKind.i64.wrap ((q14.2.1 : Int) - u2)))))).bind fun w17 =>
p3.bind fun a18 =>
(World.cell? w17 a18).bind fun v19 =>
(asSl v19).bind fun q20 =>
(slc q20.1 q20.2.1 q20.2.2 1 none (some u2) (some u2)).bind fun q21 =>
p3.bind fun a22 =>
(st1 w17 a22 (.slice q21.1 q21.2.1 q21.2.2)).bind fun w23 =>
p3.bind fun a24 =>
(World.cell? w23 (Addr.add a24 1)).bind fun v25 =>
(asI .i64 v25).bind fun n26 =>
p3.bind fun a28 =>
(st1 w23 (Addr.add a28 1) (.int .i64 (if (u2 : Int) < n26 then u2 else n26))).bind fun w29 =>
some (.int .i64 0, w29))))

theorem g23_eq (u0 : Option Addr) (u1 : ByteArray) (u2 : Int) (w0 : World) : evFn Try.prog 23 g23_ann #[.pointer u0, .string u1, .int .i64 u2] w0 = g23 u0 u1 u2 w0 := by kernel_rfl

theorem g23_call {u0 : Option Addr} {u1 : ByteArray} {u2 : Int} {w0 : World} {r : Value × World} (h : g23 u0 u1 u2 w0 = some r) : callF Try.prog 23 #[.pointer u0, .string u1, .int .i64 u2] w0 = some r :=
  callF_of_evFn (ann := g23_ann) Try.call23 (by kernel_rfl) ((g23_eq u0 u1 u2 w0).trans h)

/-! 24: (*penstock/disk.Disk).Remove (d: *disk.Disk, name: string) -/
def g24_ann : List (List Nat × List Nat) := []

noncomputable def g24 (u0 : Option Addr) (u1 : ByteArray) (w0 : World) : Option (Value × World) :=
(callF Try.prog 26 #[.pointer u0, .string u1] w0).bind fun r1 =>
(asTup 2 r1.1).bind fun l2 =>
(asP (l2.getD 0 undef)).bind fun p3 =>
(asI .i64 (l2.getD 1 undef)).bind fun n4 =>
if ((n4 : Int) == 0) = true then
(u0.bind fun a5 =>
(World.cell? (World.drew r1.2) (Addr.add a5 3)).bind fun v6 =>
(asI .i64 v6).bind fun n7 =>
p3.bind fun a8 =>
(World.cell? (World.drew r1.2) a8).bind fun v9 =>
(asSl v9).bind fun q10 =>
u0.bind fun a12 =>
(st1 (World.drew r1.2) (Addr.add a12 3) (.int .i64 (IntKind.i64.wrap (n7 - (q10.2.1 : Int))))).bind fun w13 =>
u0.bind fun a14 =>
(World.cell? w13 a14).bind fun v15 =>
(asM v15).bind fun m16 =>
(callB Try.prog .delete #[57, 9] 0 #[false, false] #[.map m16, .string u1] w13).bind fun r17 =>
(asTup 0 r17.1).bind fun _ =>
some (.int .i64 n4, r17.2))
else
(some (.int .i64 n4, r1.2))

theorem g24_eq (u0 : Option Addr) (u1 : ByteArray) (w0 : World) : evFn Try.prog 24 g24_ann #[.pointer u0, .string u1] w0 = g24 u0 u1 w0 := by kernel_rfl

theorem g24_call {u0 : Option Addr} {u1 : ByteArray} {w0 : World} {r : Value × World} (h : g24 u0 u1 w0 = some r) : callF Try.prog 24 #[.pointer u0, .string u1] w0 = some r :=
  callF_of_evFn (ann := g24_ann) Try.call24 (by kernel_rfl) ((g24_eq u0 u1 w0).trans h)

/-! 25: (*penstock/disk.Disk).state (d: *disk.Disk) -/
def g25_ann : List (List Nat × List Nat) := []

noncomputable def g25 (u0 : Option Addr) (w0 : World) : Option (Value × World) :=
if (u0.isNone) = true then
(some (.int .i64 5, w0))
else
(u0.bind fun a1 =>
(World.cell? w0 (Addr.add a1 2)).bind fun v2 =>
(asB v2).bind fun b3 =>
if b3 = true then
(some (.int .i64 9, w0))
else
(some (.int .i64 0, w0)))

theorem g25_eq (u0 : Option Addr) (w0 : World) : evFn Try.prog 25 g25_ann #[.pointer u0] w0 = g25 u0 w0 := by kernel_rfl

theorem g25_call {u0 : Option Addr} {w0 : World} {r : Value × World} (h : g25 u0 w0 = some r) : callF Try.prog 25 #[.pointer u0] w0 = some r :=
  callF_of_evFn (ann := g25_ann) Try.call25 (by kernel_rfl) ((g25_eq u0 w0).trans h)

/-! 26: (*penstock/disk.Disk).find (d: *disk.Disk, name: string) -/
def g26_ann : List (List Nat × List Nat) := []

noncomputable def g26 (u0 : Option Addr) (u1 : ByteArray) (w0 : World) : Option (Value × World) :=
(callF Try.prog 25 #[.pointer u0] w0).bind fun r1 =>
(asI .i64 r1.1).bind fun n2 =>
if ((n2 : Int) != 0) = true then
(some (.tuple #[.pointer none, .int .i64 n2], r1.2))
else
(u0.bind fun a3 =>
(World.cell? r1.2 a3).bind fun v4 =>
(asM v4).bind fun m5 =>
(mLook .string r1.2 m5 (.string u1)).bind fun o6 =>
(asP (o6.getD (.pointer none))).bind fun p7 =>
if (p7.isNone) = true then
(some (.tuple #[.pointer none, .int .i64 4], r1.2))
else
(some (.tuple #[.pointer p7, .int .i64 0], r1.2)))

theorem g26_eq (u0 : Option Addr) (u1 : ByteArray) (w0 : World) : evFn Try.prog 26 g26_ann #[.pointer u0, .string u1] w0 = g26 u0 u1 w0 := by kernel_rfl

theorem g26_call {u0 : Option Addr} {u1 : ByteArray} {w0 : World} {r : Value × World} (h : g26 u0 u1 w0 = some r) : callF Try.prog 26 #[.pointer u0, .string u1] w0 = some r :=
  callF_of_evFn (ann := g26_ann) Try.call26 (by kernel_rfl) ((g26_eq u0 u1 w0).trans h)

end Go.Proofs.Ytkmidlhnlnolnaa
