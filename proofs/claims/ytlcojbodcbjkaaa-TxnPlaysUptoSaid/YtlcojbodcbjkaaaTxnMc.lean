/-
  TxnMc: lemmas on what Go functions of this seat come to (for whatever arguments, as each says). No condition but those that stand in each lemma.
-/
import Derived.Test.YtlcojbodcbjkaaaTxnV3
import Derived.Test.YtlcojbodcbjkaaaTxnMa
import Derived.Test.YtlcojbodcbjkaaaTxnMb
namespace Go.Proofs.Ytlcojbodcbjkaaa
open Go Go.Ev
set_option maxRecDepth 100000
set_option linter.unusedVariables false
set_option linter.unusedSimpArgs false

theorem same35 {w : World} {u v : Option Addr × Nat × Nat} {l : List Int} (hu : SlC w 1 u (intsV' l)) (hv : SlC w 1 v (intsV' l)) (hl : l.length ≤ 4611686018427387904) :
    ∃ w', callF Try.prog 35 #[.slice u.1 u.2.1 u.2.2, .slice v.1 v.2.1 v.2.2] w = some (.bool true, w') ∧ Fr [] w w' := by
  have hu0 := hu.1
  have hv0 := hv.1
  simp only [intsV', List.length_map] at hu0 hv0
  obtain ⟨t, w', g1, rfl, hf⟩ := loopS_countX 0 (b := g35_l3_b u v) (I := fun k s x => s = (false, (k : Int)) ∧ Fr [] w x) (n := l.length)
    (fun k s x hk ⟨hs, hf⟩ => by
      subst hs
      have fd := Fr.drew [] x
      have F : Fr [] w x.drew := (Fr.mono (Fr.app hf fd) (by have z0_ := Fr.size hf; have z1_ := Fr.size fd; intro y_ hy_ hl_; grind [blkOf]))
      obtain ⟨a, i1, c1⟩ := (hu.fr F (fun _ y _ => by simp)).get (i := k) (by simpa using hk)
      obtain ⟨b, i2, c2⟩ := (hv.fr F (fun _ y _ => by simp)).get (i := k) (by simpa using hk)
      have c1' : x.drew.cell? a = some (.int .i64 l[k]) := by rw [c1]; simp
      have c2' : x.drew.cell? b = some (.int .i64 l[k]) := by rw [c2]; simp
      have k1 : decide ((k : Int) < (u.2.1 : Int)) = true := by simp; omega
      have hw := wrap_succ (n := k) (by omega)
      refine ⟨_, x.drew, ?_, rfl, F⟩
      unfold g35_l3_b
      simp only [k1, i1, c1', i2, c2', hw, obs, asP_pointer, asB_bool, asI_int, asS_string, asSl_slice, asM_map, asTup0, asTup1, asTup2, asTup3, asTup4, asTup5, asTup6, asTup7, asTup8, asTup9, asAgg2, asAgg3, asAgg4, asAgg5, asAgg6, asAgg7, asAgg8, asAgg9, asAgg12, getD0, getD1, getD2, getD3, getD4, getD5, getD6, getD7, getD8, getD9, getD10, getD11, getD12, getD13, getD14, getD15, getD16, getD17, getD18, getD19, Bool.not_true, Bool.not_false, Bool.false_eq_true, Bool.true_eq_false, ↓reduceIte, decide_true, decide_false, Option.isNone_some, Option.isNone_none, Option.isSome_some, Option.isSome_none, beq_self_eq_true, bne_self_eq_false, Bool.and_true, Bool.true_and, Bool.and_false, Bool.false_and, not_true_eq_false, not_false_eq_true])
    (fun s x ⟨hs, _⟩ => by
      subst hs
      unfold g35_l3_b
      have k1 : decide ((l.length : Int) < (u.2.1 : Int)) = false := by simp; omega
      simp only [k1, Bool.false_eq_true, if_false]) (k := 0) (s := (false, 0)) (w := w) (Nat.zero_le _) ⟨rfl, Fr.refl _ _⟩
  refine ⟨w', g35_call ?_, hf⟩
  unfold g35
  have k0 : ((u.2.1 : Int) != (v.2.1 : Int)) = false := by simp; omega
  simp only [k0, obs, asP_pointer, asB_bool, asI_int, asS_string, asSl_slice, asM_map, asTup0, asTup1, asTup2, asTup3, asTup4, asTup5, asTup6, asTup7, asTup8, asTup9, asAgg2, asAgg3, asAgg4, asAgg5, asAgg6, asAgg7, asAgg8, asAgg9, asAgg12, getD0, getD1, getD2, getD3, getD4, getD5, getD6, getD7, getD8, getD9, getD10, getD11, getD12, getD13, getD14, getD15, getD16, getD17, getD18, getD19, Bool.not_true, Bool.not_false, Bool.false_eq_true, Bool.true_eq_false, ↓reduceIte, decide_true, decide_false, Option.isNone_some, Option.isNone_none, Option.isSome_some, Option.isSome_none, beq_self_eq_true, bne_self_eq_false, Bool.and_true, Bool.true_and, Bool.and_false, Bool.false_and, not_true_eq_false, not_false_eq_true]
  rw [g35_l3_x0_of g1, g35_l3_x0]

theorem own12 (w : World) (r : RV) {q : Option Addr × Nat × Nat} (hu : SlC w 1 q (intsV' r.parts)) (hl : r.parts.length ≤ 1099511627776) : ∃ v w', callF Try.prog 12 #[r.arg q] w = some (r.arg v, w') ∧ Own w' 3 1 v (intsV' r.parts) ∧ Fr [] w w' ∧ ∀ y ∈ blkOf v, w.heap.size ≤ y := by
  have fa : Fr [] w (w.alloc (.cells #[.int .i64 r.k, .int .i64 r.tx, .int .i64 r.inc, .int .u64 r.pid, .int .i64 r.ep, .slice q.1 q.2.1 q.2.2, .bool r.com] 30)) := Fr.alloc _
  have ba := Blk.new w (r.cs q) 30
  change Blk (w.alloc (.cells #[.int .i64 r.k, .int .i64 r.tx, .int .i64 r.inc, .int .u64 r.pid, .int .i64 r.ep, .slice q.1 q.2.1 q.2.2, .bool r.com] 30)) _ _ _ at ba
  obtain ⟨w1, hw1⟩ : ∃ w1, w.alloc (.cells #[.int .i64 r.k, .int .i64 r.tx, .int .i64 r.inc, .int .u64 r.pid, .int .i64 r.ep, .slice q.1 q.2.1 q.2.2, .bool r.com] 30) = w1 := ⟨_, rfl⟩
  rw [hw1] at fa ba
  obtain ⟨bz, fz⟩ := zero30 w1
  obtain ⟨w2, hw2⟩ : ∃ w2, w1.alloc (.cells #[.int .i64 0, .int .i64 0, .int .i64 0, .int .u64 0, .int .i64 0, .slice none 0 0, .bool false] 30) = w2 := ⟨_, rfl⟩
  rw [hw2] at bz fz
  have F2 : Fr [] w w2 := (Fr.mono (Fr.app fa fz) (by have z0_ := Fr.size fa; have z1_ := Fr.size fz; intro y_ hy_ hl_; grind [blkOf]))
  have hq := hu.1
  simp only [intsV', List.length_map] at hq
  have hml : maxLen = 9223372036854775807 := by decide
  obtain ⟨v, w3, e3, o3, f3, n3, _⟩ := app_empty t28 (hu.fr F2 (by simp)) (by intro y hy; obtain ⟨z, _, rfl⟩ := List.mem_map.mp hy; rfl) (by omega) (by omega) 28 #[false, false]
  have fe : Fr [] w2 (w2.alloc (.cells #[] 3)) := Fr.alloc _
  have c5 : (w2.alloc (.cells #[] 3)).cell? ⟨w.heap.size, 5, none⟩ = some (.slice q.1 q.2.1 q.2.2) := ((ba.fr fz (by simp)).fr fe (by simp)).cell 5
  have b3 := (ba.fr fz (by simp)).fr f3 (by simp)
  have z3 := bz.fr f3 (by simp)
  have z1 := fa.size
  have z2 := fz.size
  obtain ⟨w4, hw4⟩ : ∃ w4, w3.setCell ⟨w.heap.size, 5, none⟩ (.slice v.1 v.2.1 v.2.2) = w4 := ⟨_, rfl⟩
  have s4 : st1 w3 ⟨w.heap.size, 5, none⟩ (.slice v.1 v.2.1 v.2.2) = some w4 := by rw [← hw4]; exact b3.st1 (by simp [RV.cs]) rfl
  have b4 : Blk w4 w.heap.size (r.cs v) 30 := by rw [← hw4]; exact b3.set 5 _
  have f4 : Fr [w.heap.size] w3 w4 := by rw [← hw4]; exact Fr.setCell
  have l4 := b4.ldN (n := 7) rfl
  have lb := ba.lt
  have z4 := z3.fr f4 (by simp; omega)
  have F4 : Fr [] w w4 := ((Fr.mono (Fr.app F2 f3) (by have z0_ := Fr.size F2; have z1_ := Fr.size f3; intro y_ hy_ hl_; grind [blkOf])) : Fr [] w w3).app f4 |>.mono (by intro y hy hl; simp at hy; omega)
  obtain ⟨w', r1, r2, r3, r4⟩ := retR z4 rfl F4 z1 r v
  have o4 := (o3.fr f4 (by intro y hy hm; simp at hm; have := n3 y hy; omega)).fr r4 (by intro y hy hm; simp at hm; have := n3 y hy; have := bz.lt; omega)
  refine ⟨v, w', g12_call ?_, o4, r3, fun y hy => by have := n3 y hy; omega⟩
  unfold g12
  simp only [hw1, hw2]
  simp only [RV.cs] at l4
  simp only [addr_add, Nat.zero_add, c5, e3, s4, l4, r1, r2, obs, asP_pointer, asB_bool, asI_int, asS_string, asSl_slice, asM_map, asTup0, asTup1, asTup2, asTup3, asTup4, asTup5, asTup6, asTup7, asTup8, asTup9, asAgg2, asAgg3, asAgg4, asAgg5, asAgg6, asAgg7, asAgg8, asAgg9, asAgg12, getD0, getD1, getD2, getD3, getD4, getD5, getD6, getD7, getD8, getD9, getD10, getD11, getD12, getD13, getD14, getD15, getD16, getD17, getD18, getD19, Bool.not_true, Bool.not_false, Bool.false_eq_true, Bool.true_eq_false, ↓reduceIte, decide_true, decide_false, Option.isNone_some, Option.isNone_none, Option.isSome_some, Option.isSome_none, beq_self_eq_true, bne_self_eq_false, Bool.and_true, Bool.true_and, Bool.and_false, Bool.false_and, not_true_eq_false, not_false_eq_true]
  rfl
end Go.Proofs.Ytlcojbodcbjkaaa

namespace Go.Proofs.Ytlcojbodcbjkaaa
open Go Go.Ev
set_option maxRecDepth 100000
set_option linter.unusedVariables false
set_option linter.unusedSimpArgs false

theorem sameRec20 (w : World) (r : RV) {q1 q2 : Option Addr × Nat × Nat} (hu : SlC w 1 q1 (intsV' r.parts)) (hv : SlC w 1 q2 (intsV' r.parts)) (hl : r.parts.length ≤ 4611686018427387904) : ∃ w', callF Try.prog 20 #[r.arg q1, r.arg q2] w = some (.bool true, w') ∧ Fr [] w w' := by
  have fa : Fr [] w (w.alloc (.cells #[.int .i64 r.k, .int .i64 r.tx, .int .i64 r.inc, .int .u64 r.pid, .int .i64 r.ep, .slice q1.1 q1.2.1 q1.2.2, .bool r.com] 30)) := Fr.alloc _
  have ba := Blk.new w (r.cs q1) 30
  change Blk (w.alloc (.cells #[.int .i64 r.k, .int .i64 r.tx, .int .i64 r.inc, .int .u64 r.pid, .int .i64 r.ep, .slice q1.1 q1.2.1 q1.2.2, .bool r.com] 30)) _ _ _ at ba
  obtain ⟨w1, hw1⟩ : ∃ w1, w.alloc (.cells #[.int .i64 r.k, .int .i64 r.tx, .int .i64 r.inc, .int .u64 r.pid, .int .i64 r.ep, .slice q1.1 q1.2.1 q1.2.2, .bool r.com] 30) = w1 := ⟨_, rfl⟩
  rw [hw1] at fa ba
  have fb : Fr [] w1 (w1.alloc (.cells #[.int .i64 r.k, .int .i64 r.tx, .int .i64 r.inc, .int .u64 r.pid, .int .i64 r.ep, .slice q2.1 q2.2.1 q2.2.2, .bool r.com] 30)) := Fr.alloc _
  have bb := Blk.new w1 (r.cs q2) 30
  change Blk (w1.alloc (.cells #[.int .i64 r.k, .int .i64 r.tx, .int .i64 r.inc, .int .u64 r.pid, .int .i64 r.ep, .slice q2.1 q2.2.1 q2.2.2, .bool r.com] 30)) _ _ _ at bb
  obtain ⟨w2, hw2⟩ : ∃ w2, w1.alloc (.cells #[.int .i64 r.k, .int .i64 r.tx, .int .i64 r.inc, .int .u64 r.pid, .int .i64 r.ep, .slice q2.1 q2.2.1 q2.2.2, .bool r.com] 30) = w2 := ⟨_, rfl⟩
  rw [hw2] at fb bb
  have ba2 := ba.fr fb (by simp)
  have F : Fr [] w w2 := (Fr.mono (Fr.app fa fb) (by have z0_ := Fr.size fa; have z1_ := Fr.size fb; intro y_ hy_ hl_; grind [blkOf]))
  obtain ⟨w3, e3, f3⟩ := same35 (hu.fr F (by simp)) (hv.fr F (by simp)) hl
  have a0 : w2.cell? ⟨w.heap.size, 0, none⟩ = some (.int .i64 r.k) := ba2.cell 0
  have b0 : w2.cell? ⟨w1.heap.size, 0, none⟩ = some (.int .i64 r.k) := bb.cell 0
  have a1 : w2.cell? ⟨w.heap.size, 1, none⟩ = some (.int .i64 r.tx) := ba2.cell 1
  have b1 : w2.cell? ⟨w1.heap.size, 1, none⟩ = some (.int .i64 r.tx) := bb.cell 1
  have a2 : w2.cell? ⟨w.heap.size, 2, none⟩ = some (.int .i64 r.inc) := ba2.cell 2
  have b2 : w2.cell? ⟨w1.heap.size, 2, none⟩ = some (.int .i64 r.inc) := bb.cell 2
  have a3 : w2.cell? ⟨w.heap.size, 3, none⟩ = some (.int .u64 r.pid) := ba2.cell 3
  have b3 : w2.cell? ⟨w1.heap.size, 3, none⟩ = some (.int .u64 r.pid) := bb.cell 3
  have a4 : w2.cell? ⟨w.heap.size, 4, none⟩ = some (.int .i64 r.ep) := ba2.cell 4
  have b4 : w2.cell? ⟨w1.heap.size, 4, none⟩ = some (.int .i64 r.ep) := bb.cell 4
  have a5 : w2.cell? ⟨w.heap.size, 5, none⟩ = some (.slice q1.1 q1.2.1 q1.2.2) := ba2.cell 5
  have b5 : w2.cell? ⟨w1.heap.size, 5, none⟩ = some (.slice q2.1 q2.2.1 q2.2.2) := bb.cell 5
  have a6 : w2.cell? ⟨w.heap.size, 6, none⟩ = some (.bool r.com) := ba2.cell 6
  have b6 : w2.cell? ⟨w1.heap.size, 6, none⟩ = some (.bool r.com) := bb.cell 6
  have s1 : ∀ z : Int, (z == z) = true := fun z => by simp
  have s2 : ∀ z : Bool, (z == z) = true := fun z => by simp
  refine ⟨w3, g20_call ?_, (Fr.mono (Fr.app F f3) (by have z0_ := Fr.size F; have z1_ := Fr.size f3; intro y_ hy_ hl_; grind [blkOf]))⟩
  unfold g20
  rw [hw1, hw2]
  simp only [a0, b0, a1, b1, a2, b2, a3, b3, a4, b4, a5, b5, a6, b6, s1, s2, addr_add, Nat.zero_add, e3, obs, asP_pointer, asB_bool, asI_int, asS_string, asSl_slice, asM_map, asTup0, asTup1, asTup2, asTup3, asTup4, asTup5, asTup6, asTup7, asTup8, asTup9, asAgg2, asAgg3, asAgg4, asAgg5, asAgg6, asAgg7, asAgg8, asAgg9, asAgg12, getD0, getD1, getD2, getD3, getD4, getD5, getD6, getD7, getD8, getD9, getD10, getD11, getD12, getD13, getD14, getD15, getD16, getD17, getD18, getD19, Bool.not_true, Bool.not_false, Bool.false_eq_true, Bool.true_eq_false, ↓reduceIte, decide_true, decide_false, Option.isNone_some, Option.isNone_none, Option.isSome_some, Option.isSome_none, beq_self_eq_true, bne_self_eq_false, Bool.and_true, Bool.true_and, Bool.and_false, Bool.false_and, not_true_eq_false, not_false_eq_true]

theorem sameTx22 (w : World) (r : TV) {q1 q2 : Option Addr × Nat × Nat} (hu : SlC w 1 q1 (intsV' r.parts)) (hv : SlC w 1 q2 (intsV' r.parts)) (hl : r.parts.length ≤ 4611686018427387904) : ∃ w', callF Try.prog 22 #[r.arg q1, r.arg q2] w = some (.bool true, w') ∧ Fr [] w w' := by
  have fa : Fr [] w (w.alloc (.cells #[.int .i64 r.st, .int .i64 r.inc, .int .u64 r.pid, .int .i64 r.ep, .slice q1.1 q1.2.1 q1.2.2, .int .i64 r.last, .int .u64 r.lpid, .bool r.com] 46)) := Fr.alloc _
  have ba := Blk.new w (r.cs q1) 46
  change Blk (w.alloc (.cells #[.int .i64 r.st, .int .i64 r.inc, .int .u64 r.pid, .int .i64 r.ep, .slice q1.1 q1.2.1 q1.2.2, .int .i64 r.last, .int .u64 r.lpid, .bool r.com] 46)) _ _ _ at ba
  obtain ⟨w1, hw1⟩ : ∃ w1, w.alloc (.cells #[.int .i64 r.st, .int .i64 r.inc, .int .u64 r.pid, .int .i64 r.ep, .slice q1.1 q1.2.1 q1.2.2, .int .i64 r.last, .int .u64 r.lpid, .bool r.com] 46) = w1 := ⟨_, rfl⟩
  rw [hw1] at fa ba
  have fb : Fr [] w1 (w1.alloc (.cells #[.int .i64 r.st, .int .i64 r.inc, .int .u64 r.pid, .int .i64 r.ep, .slice q2.1 q2.2.1 q2.2.2, .int .i64 r.last, .int .u64 r.lpid, .bool r.com] 46)) := Fr.alloc _
  have bb := Blk.new w1 (r.cs q2) 46
  change Blk (w1.alloc (.cells #[.int .i64 r.st, .int .i64 r.inc, .int .u64 r.pid, .int .i64 r.ep, .slice q2.1 q2.2.1 q2.2.2, .int .i64 r.last, .int .u64 r.lpid, .bool r.com] 46)) _ _ _ at bb
  obtain ⟨w2, hw2⟩ : ∃ w2, w1.alloc (.cells #[.int .i64 r.st, .int .i64 r.inc, .int .u64 r.pid, .int .i64 r.ep, .slice q2.1 q2.2.1 q2.2.2, .int .i64 r.last, .int .u64 r.lpid, .bool r.com] 46) = w2 := ⟨_, rfl⟩
  rw [hw2] at fb bb
  have ba2 := ba.fr fb (by simp)
  have F : Fr [] w w2 := (Fr.mono (Fr.app fa fb) (by have z0_ := Fr.size fa; have z1_ := Fr.size fb; intro y_ hy_ hl_; grind [blkOf]))
  obtain ⟨w3, e3, f3⟩ := same35 (hu.fr F (by simp)) (hv.fr F (by simp)) hl
  have a0 : w2.cell? ⟨w.heap.size, 0, none⟩ = some (.int .i64 r.st) := ba2.cell 0
  have b0 : w2.cell? ⟨w1.heap.size, 0, none⟩ = some (.int .i64 r.st) := bb.cell 0
  have a1 : w2.cell? ⟨w.heap.size, 1, none⟩ = some (.int .i64 r.inc) := ba2.cell 1
  have b1 : w2.cell? ⟨w1.heap.size, 1, none⟩ = some (.int .i64 r.inc) := bb.cell 1
  have a2 : w2.cell? ⟨w.heap.size, 2, none⟩ = some (.int .u64 r.pid) := ba2.cell 2
  have b2 : w2.cell? ⟨w1.heap.size, 2, none⟩ = some (.int .u64 r.pid) := bb.cell 2
  have a3 : w2.cell? ⟨w.heap.size, 3, none⟩ = some (.int .i64 r.ep) := ba2.cell 3
  have b3 : w2.cell? ⟨w1.heap.size, 3, none⟩ = some (.int .i64 r.ep) := bb.cell 3
  have a4 : w2.cell? ⟨w.heap.size, 4, none⟩ = some (.slice q1.1 q1.2.1 q1.2.2) := ba2.cell 4
  have b4 : w2.cell? ⟨w1.heap.size, 4, none⟩ = some (.slice q2.1 q2.2.1 q2.2.2) := bb.cell 4
  have a5 : w2.cell? ⟨w.heap.size, 5, none⟩ = some (.int .i64 r.last) := ba2.cell 5
  have b5 : w2.cell? ⟨w1.heap.size, 5, none⟩ = some (.int .i64 r.last) := bb.cell 5
  have a6 : w2.cell? ⟨w.heap.size, 6, none⟩ = some (.int .u64 r.lpid) := ba2.cell 6
  have b6 : w2.cell? ⟨w1.heap.size, 6, none⟩ = some (.int .u64 r.lpid) := bb.cell 6
  have a7 : w2.cell? ⟨w.heap.size, 7, none⟩ = some (.bool r.com) := ba2.cell 7
  have b7 : w2.cell? ⟨w1.heap.size, 7, none⟩ = some (.bool r.com) := bb.cell 7
  have s1 : ∀ z : Int, (z == z) = true := fun z => by simp
  have s2 : ∀ z : Bool, (z == z) = true := fun z => by simp
  refine ⟨w3, g22_call ?_, (Fr.mono (Fr.app F f3) (by have z0_ := Fr.size F; have z1_ := Fr.size f3; intro y_ hy_ hl_; grind [blkOf]))⟩
  unfold g22
  rw [hw1, hw2]
  simp only [a0, b0, a1, b1, a2, b2, a3, b3, a4, b4, a5, b5, a6, b6, a7, b7, s1, s2, addr_add, Nat.zero_add, e3, obs, asP_pointer, asB_bool, asI_int, asS_string, asSl_slice, asM_map, asTup0, asTup1, asTup2, asTup3, asTup4, asTup5, asTup6, asTup7, asTup8, asTup9, asAgg2, asAgg3, asAgg4, asAgg5, asAgg6, asAgg7, asAgg8, asAgg9, asAgg12, getD0, getD1, getD2, getD3, getD4, getD5, getD6, getD7, getD8, getD9, getD10, getD11, getD12, getD13, getD14, getD15, getD16, getD17, getD18, getD19, Bool.not_true, Bool.not_false, Bool.false_eq_true, Bool.true_eq_false, ↓reduceIte, decide_true, decide_false, Option.isNone_some, Option.isNone_none, Option.isSome_some, Option.isSome_none, beq_self_eq_true, bne_self_eq_false, Bool.and_true, Bool.true_and, Bool.and_false, Bool.false_and, not_true_eq_false, not_false_eq_true]


/-! ## a list that rises, with a number -/
def wS (n : Int) (st : List Int × Bool) (x : Int) : List Int × Bool :=
  if n < x ∧ (if x = n then true else st.2) = false then (st.1 ++ [n] ++ [x], true) else (st.1 ++ [x], if x = n then true else st.2)
def withP (l : List Int) (n : Int) : List Int := if (l.foldl (wS n) ([], false)).2 then (l.foldl (wS n) ([], false)).1 else (l.foldl (wS n) ([], false)).1 ++ [n]

theorem wS_len (n : Int) (l : List Int) : (l.foldl (wS n) ([], false)).1.length ≤ l.length + 1 ∧ ((l.foldl (wS n) ([], false)).2 = false → (l.foldl (wS n) ([], false)).1.length ≤ l.length) := by
  have : ∀ (st : List Int × Bool), (l.foldl (wS n) st).1.length ≤ st.1.length + l.length + (if st.2 then 0 else 1) ∧ ((l.foldl (wS n) st).2 = false → (l.foldl (wS n) st).1.length ≤ st.1.length + l.length) := by
    induction l with
    | nil => intro st; simp
    | cons x l ih =>
      intro st
      rw [List.foldl_cons]
      have h := ih (wS n st x)
      have h1 : (wS n st x).1.length ≤ st.1.length + 1 + (if st.2 then 0 else 1) ∧ ((wS n st x).2 = false → (wS n st x).1.length ≤ st.1.length + 1 ∧ st.2 = false) ∧ (st.2 = true → (wS n st x).2 = true) ∧ ((wS n st x).2 = true → (wS n st x).1.length ≤ st.1.length + 1 + (if st.2 then 0 else 1)) := by
        unfold wS
        by_cases h1 : n < x ∧ (if x = n then true else st.2) = false
        · rw [if_pos h1]
          have : st.2 = false := by
            have := h1.2
            by_cases e : x = n
            · rw [if_pos e] at this; cases this
            · rw [if_neg e] at this; exact this
          simp [this]
        · rw [if_neg h1]
          by_cases e : x = n
          · simp [e]
          · simp only [if_neg e]; cases st.2 <;> simp
      obtain ⟨a1, a2, a3, a4⟩ := h1
      have h2 := h.2
      have h3 := h.1
      refine ⟨?_, fun hf => ?_⟩
      · simp only [List.length_cons]
        by_cases c : (wS n st x).2 = true
        · rw [c] at h3; simp at h3; omega
        · have c' : (wS n st x).2 = false := by simpa using c
          have a := a2 c'
          rw [c'] at h3
          rw [a.2]
          simp at h3 ⊢
          omega
      · have h4 := h2 hf
        simp only [List.length_cons]
        by_cases c : (wS n st x).2 = true
        · exfalso
          have mono : ∀ (l : List Int) (st : List Int × Bool), st.2 = true → (l.foldl (wS n) st).2 = true := by
            intro l
            induction l with
            | nil => intro st h; exact h
            | cons y l ih2 =>
              intro st h
              rw [List.foldl_cons]
              refine ih2 _ ?_
              unfold wS
              rw [h]
              split <;> simp
          rw [mono l _ c] at hf
          cases hf
        · have c' : (wS n st x).2 = false := by simpa using c
          have a := a2 c'
          omega
  have := this ([], false)
  simpa using this
theorem withP_len (l : List Int) (n : Int) : (withP l n).length ≤ l.length + 1 := by
  have h := wS_len n l
  unfold withP
  split
  · exact h.1
  · rename_i c
    have := h.2 (by simpa using c)
    simp; omega


theorem with37 {w : World} {u : Option Addr × Nat × Nat} {l : List Int} (hu : SlC w 1 u (intsV' l)) (hl : l.length ≤ 1000000000) (n : Int) :
    ∃ v w', callF Try.prog 37 #[.slice u.1 u.2.1 u.2.2, .int .i64 n] w = some (.slice v.1 v.2.1 v.2.2, w') ∧ Own w' 3 1 v (intsV' (withP l n)) ∧ Fr [] w w' ∧ ∀ y ∈ blkOf v, w.heap.size ≤ y := by
  have hu0 := hu.1
  simp only [intsV', List.length_map] at hu0
  have hml : maxLen = 9223372036854775807 := by decide
  obtain ⟨t, w', g1, q, rfl, o, f, nb⟩ := loopS_countX 0 (b := g37_l1_b u n) (I := fun k s x => ∃ q : Option Addr × Nat × Nat, s = (q, ((l.take k).foldl (wS n) ([], false)).2, (k : Int)) ∧ Own x 3 1 q (intsV' ((l.take k).foldl (wS n) ([], false)).1) ∧ Fr [] w x ∧ ∀ y ∈ blkOf q, w.heap.size ≤ y) (n := l.length)
    (fun k s x hk ⟨q, hs, o, hf, hq⟩ => by
      subst hs
      have hx := hu.fr hf (fun _ y _ => by simp)
      obtain ⟨a, i1, c1⟩ := hx.get (i := k) (by simpa using hk)
      have c1' : x.cell? a = some (.int .i64 l[k]) := by rw [c1]; simp
      have k1 : decide ((k : Int) < (u.2.1 : Int)) = true := by simp; omega
      have hw := wrap_succ (n := k) (by omega)
      have hstep : (l.take (k + 1)).foldl (wS n) ([], false) = wS n ((l.take k).foldl (wS n) ([], false)) l[k] := by rw [List.take_succ_eq_append_getElem hk, List.foldl_append]; rfl
      have hlen := (wS_len n (l.take k)).1
      obtain ⟨st, hst⟩ : ∃ st, (l.take k).foldl (wS n) ([], false) = st := ⟨_, rfl⟩
      rw [hstep]
      rw [hst] at o hlen ⊢
      simp only [List.length_take] at hlen
      have ol := o.len
      simp only [intsV', List.length_map] at ol
      -- the rest of a round, from whether it is laid
      have J : ∀ ld : Bool, (if l[k] = n then true else st.2) = ld → ∃ q' x', g37_j5 u (q, st.2, (k : Int)) x n ld = some (.normal, (q', (wS n st l[k]).2, ((k + 1 : Nat) : Int)), x') ∧ Own x' 3 1 q' (intsV' (wS n st l[k]).1) ∧ Fr [] w x' ∧ ∀ y ∈ blkOf q', w.heap.size ≤ y := by
        intro ld hld
        unfold wS
        rw [hld]
        by_cases hgt : n < l[k]
        · have k2 : decide (l[k] > n) = true := by simp; exact hgt
          cases ld with
          | false =>
            rw [if_pos ⟨hgt, rfl⟩]
            obtain ⟨q2, x2, e2, o2, f2, n2, m2⟩ := app_one t28 o (ys := [.int .i64 n]) rfl (by intro y hy; simp at hy; subst hy; rfl) (by omega) (by omega) 28 #[false, false]
            have F2 : Fr [] w x2 := (hf.app f2).mono (by
              intro y hy hl
              simp at hy
              have := hq y hy; omega)
            obtain ⟨b, i3, c3⟩ := (hu.fr F2 (fun _ y _ => by simp)).get (i := k) (by simpa using hk)
            rw [i1] at i3
            cases i3
            have c3' : x2.cell? a = some (.int .i64 l[k]) := by rw [c3]; simp
            have z2 := f2.size
            have zf := hf.size
            have hq2 : ∀ y ∈ blkOf q2, w.heap.size ≤ y := fun y hy => by
              rcases n2 y hy with hh | hh
              · exact hq y hh
              · omega
            obtain ⟨q3, x3, e3, o3, f3, n3, m3⟩ := app_one t28 o2 (ys := [.int .i64 l[k]]) rfl (by intro y hy; simp at hy; subst hy; rfl) (by omega) (by omega) 28 #[false, false]
            refine ⟨q3, x3, ?_, ?_, (F2.app f3).mono (by
              intro y hy hl
              simp at hy
              have := hq2 y hy; omega), fun y hy => ?_⟩
            · unfold g37_j5
              simp only [i1, c1', k2, e2, c3', e3, hw, obs, asP_pointer, asB_bool, asI_int, asS_string, asSl_slice, asM_map, asTup0, asTup1, asTup2, asTup3, asTup4, asTup5, asTup6, asTup7, asTup8, asTup9, asAgg2, asAgg3, asAgg4, asAgg5, asAgg6, asAgg7, asAgg8, asAgg9, asAgg12, getD0, getD1, getD2, getD3, getD4, getD5, getD6, getD7, getD8, getD9, getD10, getD11, getD12, getD13, getD14, getD15, getD16, getD17, getD18, getD19, Bool.not_true, Bool.not_false, Bool.false_eq_true, Bool.true_eq_false, ↓reduceIte, decide_true, decide_false, Option.isNone_some, Option.isNone_none, Option.isSome_some, Option.isSome_none, beq_self_eq_true, bne_self_eq_false, Bool.and_true, Bool.true_and, Bool.and_false, Bool.false_and, not_true_eq_false, not_false_eq_true]
            · have : intsV' (st.1 ++ [n] ++ [l[k]]) = intsV' st.1 ++ [.int .i64 n] ++ [.int .i64 l[k]] := by simp [intsV']
              rw [this]; exact o3
            · rcases n3 y hy with hh | hh
              · exact hq2 y hh
              · have := f2.size; omega
          | true =>
            rw [if_neg (by simp)]
            obtain ⟨q2, x2, e2, o2, f2, n2, m2⟩ := app_one t28 o (ys := [.int .i64 l[k]]) rfl (by intro y hy; simp at hy; subst hy; rfl) (by omega) (by omega) 28 #[false, false]
            have zf := hf.size
            refine ⟨q2, x2, ?_, ?_, (hf.app f2).mono (by
              intro y hy hl
              simp at hy
              have := hq y hy; omega), fun y hy => ?_⟩
            · unfold g37_j5
              simp only [i1, c1', k2, e2, hw, obs, asP_pointer, asB_bool, asI_int, asS_string, asSl_slice, asM_map, asTup0, asTup1, asTup2, asTup3, asTup4, asTup5, asTup6, asTup7, asTup8, asTup9, asAgg2, asAgg3, asAgg4, asAgg5, asAgg6, asAgg7, asAgg8, asAgg9, asAgg12, getD0, getD1, getD2, getD3, getD4, getD5, getD6, getD7, getD8, getD9, getD10, getD11, getD12, getD13, getD14, getD15, getD16, getD17, getD18, getD19, Bool.not_true, Bool.not_false, Bool.false_eq_true, Bool.true_eq_false, ↓reduceIte, decide_true, decide_false, Option.isNone_some, Option.isNone_none, Option.isSome_some, Option.isSome_none, beq_self_eq_true, bne_self_eq_false, Bool.and_true, Bool.true_and, Bool.and_false, Bool.false_and, not_true_eq_false, not_false_eq_true]
            · have : intsV' (st.1 ++ [l[k]]) = intsV' st.1 ++ [.int .i64 l[k]] := by simp [intsV']
              rw [this]; exact o2
            · rcases n2 y hy with hh | hh
              · exact hq y hh
              · omega
        · have k2 : decide (l[k] > n) = false := by simp; omega
          rw [if_neg (by simp [hgt])]
          obtain ⟨q2, x2, e2, o2, f2, n2, m2⟩ := app_one t28 o (ys := [.int .i64 l[k]]) rfl (by intro y hy; simp at hy; subst hy; rfl) (by omega) (by omega) 28 #[false, false]
          have zf := hf.size
          refine ⟨q2, x2, ?_, ?_, (hf.app f2).mono (by
            intro y hy hl
            simp at hy
            have := hq y hy; omega), fun y hy => ?_⟩
          · unfold g37_j5
            simp only [i1, c1', k2, e2, hw, obs, asP_pointer, asB_bool, asI_int, asS_string, asSl_slice, asM_map, asTup0, asTup1, asTup2, asTup3, asTup4, asTup5, asTup6, asTup7, asTup8, asTup9, asAgg2, asAgg3, asAgg4, asAgg5, asAgg6, asAgg7, asAgg8, asAgg9, asAgg12, getD0, getD1, getD2, getD3, getD4, getD5, getD6, getD7, getD8, getD9, getD10, getD11, getD12, getD13, getD14, getD15, getD16, getD17, getD18, getD19, Bool.not_true, Bool.not_false, Bool.false_eq_true, Bool.true_eq_false, ↓reduceIte, decide_true, decide_false, Option.isNone_some, Option.isNone_none, Option.isSome_some, Option.isSome_none, beq_self_eq_true, bne_self_eq_false, Bool.and_true, Bool.true_and, Bool.and_false, Bool.false_and, not_true_eq_false, not_false_eq_true]
          · have : intsV' (st.1 ++ [l[k]]) = intsV' st.1 ++ [.int .i64 l[k]] := by simp [intsV']
            rw [this]; exact o2
          · rcases n2 y hy with hh | hh
            · exact hq y hh
            · omega
      by_cases he : l[k] = n
      · obtain ⟨q', x', e, r⟩ := J true (by rw [if_pos he])
        refine ⟨_, x', ?_, q', rfl, r⟩
        have k3 : (l[k] == n) = true := by simp [he]
        unfold g37_l1_b
        simp only [k1, i1, c1', k3, obs, asP_pointer, asB_bool, asI_int, asS_string, asSl_slice, asM_map, asTup0, asTup1, asTup2, asTup3, asTup4, asTup5, asTup6, asTup7, asTup8, asTup9, asAgg2, asAgg3, asAgg4, asAgg5, asAgg6, asAgg7, asAgg8, asAgg9, asAgg12, getD0, getD1, getD2, getD3, getD4, getD5, getD6, getD7, getD8, getD9, getD10, getD11, getD12, getD13, getD14, getD15, getD16, getD17, getD18, getD19, Bool.not_true, Bool.not_false, Bool.false_eq_true, Bool.true_eq_false, ↓reduceIte, decide_true, decide_false, Option.isNone_some, Option.isNone_none, Option.isSome_some, Option.isSome_none, beq_self_eq_true, bne_self_eq_false, Bool.and_true, Bool.true_and, Bool.and_false, Bool.false_and, not_true_eq_false, not_false_eq_true]
        exact e
      · obtain ⟨q', x', e, r⟩ := J st.2 (by rw [if_neg he])
        refine ⟨_, x', ?_, q', rfl, r⟩
        have k3 : (l[k] == n) = false := by simp [he]
        unfold g37_l1_b
        simp only [k1, i1, c1', k3, obs, asP_pointer, asB_bool, asI_int, asS_string, asSl_slice, asM_map, asTup0, asTup1, asTup2, asTup3, asTup4, asTup5, asTup6, asTup7, asTup8, asTup9, asAgg2, asAgg3, asAgg4, asAgg5, asAgg6, asAgg7, asAgg8, asAgg9, asAgg12, getD0, getD1, getD2, getD3, getD4, getD5, getD6, getD7, getD8, getD9, getD10, getD11, getD12, getD13, getD14, getD15, getD16, getD17, getD18, getD19, Bool.not_true, Bool.not_false, Bool.false_eq_true, Bool.true_eq_false, ↓reduceIte, decide_true, decide_false, Option.isNone_some, Option.isNone_none, Option.isSome_some, Option.isSome_none, beq_self_eq_true, bne_self_eq_false, Bool.and_true, Bool.true_and, Bool.and_false, Bool.false_and, not_true_eq_false, not_false_eq_true]
        exact e)
    (fun s x ⟨q, hs, _⟩ => by
      subst hs
      unfold g37_l1_b
      have k1 : decide ((l.length : Int) < (u.2.1 : Int)) = false := by simp; omega
      simp only [k1, Bool.false_eq_true, if_false]) (k := 0) (s := ((none, 0, 0), false, 0)) (w := w) (Nat.zero_le _) ⟨(none, 0, 0), rfl, Own.nil _ _ _, Fr.refl _ _, by simp [blkOf]⟩
  rw [List.take_length] at g1 o
  have hlen := (wS_len n l).1
  have ol := o.len
  simp only [intsV', List.length_map] at ol
  by_cases hb : (l.foldl (wS n) ([], false)).2 = true
  · refine ⟨q, w', g37_call ?_, ?_, f, nb⟩
    · unfold g37
      rw [g37_l1_x0_of g1]
      unfold g37_l1_x0
      simp only [hb, obs, asP_pointer, asB_bool, asI_int, asS_string, asSl_slice, asM_map, asTup0, asTup1, asTup2, asTup3, asTup4, asTup5, asTup6, asTup7, asTup8, asTup9, asAgg2, asAgg3, asAgg4, asAgg5, asAgg6, asAgg7, asAgg8, asAgg9, asAgg12, getD0, getD1, getD2, getD3, getD4, getD5, getD6, getD7, getD8, getD9, getD10, getD11, getD12, getD13, getD14, getD15, getD16, getD17, getD18, getD19, Bool.not_true, Bool.not_false, Bool.false_eq_true, Bool.true_eq_false, ↓reduceIte, decide_true, decide_false, Option.isNone_some, Option.isNone_none, Option.isSome_some, Option.isSome_none, beq_self_eq_true, bne_self_eq_false, Bool.and_true, Bool.true_and, Bool.and_false, Bool.false_and, not_true_eq_false, not_false_eq_true]
    · unfold withP; rw [if_pos hb]; exact o
  · have hb' : (l.foldl (wS n) ([], false)).2 = false := by simpa using hb
    obtain ⟨q2, x2, e2, o2, f2, n2, m2⟩ := app_one t28 o (ys := [.int .i64 n]) rfl (by intro y hy; simp at hy; subst hy; rfl) (by omega) (by omega) 28 #[false, false]
    have zf := f.size
    refine ⟨q2, x2, g37_call ?_, ?_, (f.app f2).mono (by
      intro y hy hl
      simp at hy
      have := nb y hy; omega), fun y hy => ?_⟩
    · unfold g37
      rw [g37_l1_x0_of g1]
      unfold g37_l1_x0
      simp only [hb', e2, obs, asP_pointer, asB_bool, asI_int, asS_string, asSl_slice, asM_map, asTup0, asTup1, asTup2, asTup3, asTup4, asTup5, asTup6, asTup7, asTup8, asTup9, asAgg2, asAgg3, asAgg4, asAgg5, asAgg6, asAgg7, asAgg8, asAgg9, asAgg12, getD0, getD1, getD2, getD3, getD4, getD5, getD6, getD7, getD8, getD9, getD10, getD11, getD12, getD13, getD14, getD15, getD16, getD17, getD18, getD19, Bool.not_true, Bool.not_false, Bool.false_eq_true, Bool.true_eq_false, ↓reduceIte, decide_true, decide_false, Option.isNone_some, Option.isNone_none, Option.isSome_some, Option.isSome_none, beq_self_eq_true, bne_self_eq_false, Bool.and_true, Bool.true_and, Bool.and_false, Bool.false_and, not_true_eq_false, not_false_eq_true]
    · unfold withP; rw [if_neg hb]
      have : intsV' ((l.foldl (wS n) ([], false)).1 ++ [n]) = intsV' (l.foldl (wS n) ([], false)).1 ++ [.int .i64 n] := by simp [intsV']
      rw [this]; exact o2
    · rcases n2 y hy with hh | hh
      · exact nb y hh
      · omega
end Go.Proofs.Ytlcojbodcbjkaaa

namespace Go.Proofs.Ytlcojbodcbjkaaa
open Go Go.Ev
set_option maxRecDepth 100000
set_option linter.unusedVariables false
set_option linter.unusedSimpArgs false

abbrev Sh := Option Addr × Nat × Nat

/-- rows of one length, one behind the other -/
theorem flat_get {α : Type} {f : α → List Value} {n : Nat} (hf : ∀ x, (f x).length = n) (l : List α) (k j : Nat) (hk : k < l.length) (hj : j < n) : (l.map f).flatten[k * n + j]? = (f l[k])[j]? := by
  induction l generalizing k with
  | nil => simp at hk
  | cons s l ih =>
    rw [List.map_cons, List.flatten_cons]
    cases k with
    | zero => rw [List.getElem?_append_left (by rw [hf]; omega)]; simp
    | succ k =>
      rw [List.getElem?_append_right (by rw [hf, Nat.succ_mul]; omega), hf]
      have := ih k (by simpa using hk)
      simp only [List.getElem_cons_succ]
      rw [← this]
      congr 1
      rw [Nat.succ_mul]; omega
theorem flat_len {α : Type} {f : α → List Value} {n : Nat} (hf : ∀ x, (f x).length = n) (l : List α) : ((l.map f).flatten).length = l.length * n := by
  induction l with
  | nil => simp
  | cons s l ih => rw [List.map_cons, List.flatten_cons, List.length_append, hf, ih, List.length_cons, Nat.succ_mul]; omega

abbrev recCs (e : RV × Sh) : List Value := e.1.cs e.2
theorem recCs_len (e : RV × Sh) : (recCs e).length = 7 := rfl

/-- a list of records in memory -/
structure RL (w : World) (D : Nat → Prop) (q : Sh) (L : List (RV × Sh)) : Prop where
  own : Own w 30 7 q ((L.map recCs).flatten)
  els : ∀ e ∈ L, SlC w 1 e.2 (intsV' e.1.parts)
  reg : ∀ y ∈ blkOf q, D y
  regs : ∀ e ∈ L, 0 < e.1.parts.length → ∀ y ∈ blkOf e.2, D y
  apart : ∀ e ∈ L, 0 < e.1.parts.length → ∀ y ∈ blkOf e.2, y ∉ blkOf q
  lt : ∀ y, D y → y < w.heap.size

section
variable {w : World} {D : Nat → Prop} {q : Sh} {L : List (RV × Sh)}
theorem RL.len (h : RL w D q L) : q.2.1 = L.length := by
  have h1 := h.own.len
  rw [flat_len recCs_len] at h1
  omega
theorem RL.fr (h : RL w D q L) {w' : World} {S : List Nat} (f : Fr S w w') (hS : ∀ y ∈ S, y < w.heap.size → ¬ D y) : RL w' D q L :=
  ⟨h.own.fr f (fun y hy hm => hS y hm (h.lt y (h.reg y hy)) (h.reg y hy)), fun e he => (h.els e he).fr f (fun h0 y hy hm => by
      have h0' : 0 < e.1.parts.length := by simpa using h0
      have := h.regs e he h0' y hy
      exact hS y hm (h.lt y this) this), h.reg, h.regs, h.apart, fun y hy => Nat.lt_of_lt_of_le (h.lt y hy) f.size⟩
theorem RL.get (h : RL w D q L) {k : Nat} (hk : k < L.length) : ∃ a, idxA q.1 q.2.1 7 (k : Int) = some a ∧ ldN w a 0 7 = some (L[k].1.cs L[k].2) := by
  obtain ⟨b, off, i1, g⟩ := h.own.slC.idx (by omega) (i := k) (by rw [h.len]; exact hk)
  refine ⟨_, i1, ?_⟩
  have hl := flat_len recCs_len L
  have : CellsAt w ⟨b, off + k * 7, none⟩ (recCs L[k]) := by
    intro j hj
    have hj7 : j < 7 := hj
    have hlt : k * 7 + j < ((L.map recCs).flatten).length := by rw [hl]; omega
    rw [addr_add, g j hj7 hlt]
    have e := flat_get recCs_len L k j hk hj7
    rw [List.getElem?_eq_getElem hlt, List.getElem?_eq_getElem hj] at e
    exact e
  exact this.ldN rfl
end

/-! ## what records say of a name: the document's way -/
def stepR (r : RV) (t : TV) : TV :=
  if r.k = 1 then { t with st := 1, inc := r.inc, pid := r.pid, ep := r.ep, parts := [] }
  else if r.k = 2 then { t with st := 2, parts := r.parts.foldl withP t.parts }
  else if r.k = 3 then { t with st := 3, last := t.ep, lpid := t.pid, com := r.com }
  else if r.k = 4 then { t with st := 4, ep := IntKind.i64.wrap (t.last + 2), parts := [] }
  else t
def txOf (L : List RV) (n : Int) : TV := L.foldl (fun t r => if r.tx = n then stepR r t else t) tv0
theorem txOf_snoc (L : List RV) (r : RV) (n : Int) : txOf (L ++ [r]) n = if r.tx = n then stepR r (txOf L n) else txOf L n := by unfold txOf; rw [List.foldl_append]; rfl
def sumP (L : List RV) : Nat := (L.map fun r => r.parts.length).sum
theorem sumP_snoc (L : List RV) (r : RV) : sumP (L ++ [r]) = sumP L + r.parts.length := by simp [sumP]
theorem foldW_len (ps l : List Int) : (ps.foldl withP l).length ≤ l.length + ps.length := by
  induction ps generalizing l with
  | nil => simp
  | cons p ps ih => have := ih (withP l p); have := withP_len l p; simp only [List.foldl_cons, List.length_cons]; omega
theorem stepR_len (r : RV) (t : TV) : (stepR r t).parts.length ≤ t.parts.length + r.parts.length := by
  unfold stepR
  have := foldW_len r.parts t.parts
  split
  · simp
  · split
    · exact this
    · split
      · simp
      · split <;> simp
theorem txOf_len (L : List RV) (n : Int) : (txOf L n).parts.length ≤ sumP L := by
  have : ∀ (L : List RV) (t : TV), (L.foldl (fun t r => if r.tx = n then stepR r t else t) t).parts.length ≤ t.parts.length + sumP L := by
    intro L
    induction L with
    | nil => intro t; simp [sumP]
    | cons r L ih =>
      intro t
      rw [List.foldl_cons]
      have h1 := ih (if r.tx = n then stepR r t else t)
      have h2 : (if r.tx = n then stepR r t else t).parts.length ≤ t.parts.length + r.parts.length := by
        split
        · exact stepR_len r t
        · omega
      simp only [sumP, List.map_cons, List.sum_cons] at h1 ⊢
      omega
  have h := this L tv0
  have e : tv0.parts.length = 0 := rfl
  rw [e, Nat.zero_add] at h
  exact h
theorem sumP_app (a b : List RV) : sumP (a ++ b) = sumP a + sumP b := by simp [sumP]
theorem sumP_take (L : List RV) {k : Nat} (hk : k < L.length) : sumP (L.take k) + L[k].parts.length ≤ sumP L := by
  have h := congrArg sumP (List.take_append_drop (k + 1) L)
  rw [sumP_app, List.take_succ_eq_append_getElem hk, sumP_snoc] at h
  omega

/-! ## Tx of the document, over a list of records -/
section
variable {w : World} {D : Nat → Prop} {q : Sh} {L : List (RV × Sh)}
abbrev z46 : Obj := .cells #[.int .i64 0, .int .i64 0, .int .u64 0, .int .i64 0, .slice none 0 0, .int .i64 0, .int .u64 0, .bool false] 46

structure TI (w x : World) (T : Nat) (v : TV) (q : Sh) : Prop where
  blk : Blk x T (v.cs q) 46
  own : Own x 3 1 q (intsV' v.parts)
  fr : Fr [] w x
  new : ∀ y ∈ blkOf q, w.heap.size ≤ y

/-- the parts of a record, one by one -/
theorem parts23 {w0 wA x : World} {T : Nat} (hA : w0.alloc z46 = wA) (hT : T = wA.heap.size) (hgT : w0.heap.size ≤ T) {v : TV} {tq rq : Sh} {r : RV} {u : Sh} {n s3 : Int} {w4 : World} (h : TI w0 x T v tq) (hb : Blk x w4.heap.size (r.cs rq) 30) (hTb : T ≠ w4.heap.size) (hw4 : w0.heap.size ≤ w4.heap.size)
    (sl : SlC x 1 rq (intsV' r.parts)) (hrq : 0 < r.parts.length → ∀ y ∈ blkOf rq, y < w0.heap.size) (hl : v.parts.length + r.parts.length ≤ 100000000) :
    ∃ t x' tq', loopS (g23_l32_b w4 w0 u n s3) 0 x = some (.exit 3, t, x') ∧ TI w0 x' T { v with parts := r.parts.foldl withP v.parts } tq' ∧ Fr [T] x x' := by
  have hrl := sl.1
  simp only [intsV', List.length_map] at hrl
  obtain ⟨t, x', g1, rfl, tq', hI, _, _, hF⟩ := loopS_countX 3 (b := g23_l32_b w4 w0 u n s3) (I := fun k s y => s = (k : Int) ∧ ∃ tq', TI w0 y T { v with parts := (r.parts.take k).foldl withP v.parts } tq' ∧ Blk y w4.heap.size (r.cs rq) 30 ∧ SlC y 1 rq (intsV' r.parts) ∧ Fr [T] x y) (n := r.parts.length)
    (fun k s y hk ⟨hs, tq', hI, hB, hS, hF⟩ => by
      subst hs
      have fd := Fr.drew [] y
      have B1 := hB.fr fd (by simp)
      have T1 := hI.blk.fr fd (by simp)
      have S1 := hS.fr fd (by simp)
      have O1 := hI.own.fr fd (by simp)
      have c5 : y.cell? ⟨w4.heap.size, 5, none⟩ = some (.slice rq.1 rq.2.1 rq.2.2) := hB.cell 5
      have d5 : y.drew.cell? ⟨w4.heap.size, 5, none⟩ = some (.slice rq.1 rq.2.1 rq.2.2) := B1.cell 5
      have d4 : y.drew.cell? ⟨wA.heap.size, 4, none⟩ = some (.slice tq'.1 tq'.2.1 tq'.2.2) := by rw [← hT]; exact T1.cell 4
      obtain ⟨a, i1, c1⟩ := S1.get (i := k) (by simpa using hk)
      have c1' : y.drew.cell? a = some (.int .i64 r.parts[k]) := by rw [c1]; simp
      have k1 : decide ((k : Int) < (rq.2.1 : Int)) = true := by simp; omega
      have hw := wrap_succ (n := k) (by omega)
      have hfl := foldW_len (r.parts.take k) v.parts
      simp only [List.length_take] at hfl
      obtain ⟨q2, x2, e2, o2, f2, n2⟩ := with37 O1.slC (by simp only; omega) r.parts[k]
      obtain ⟨x3, s3', p3, f3⟩ := blk_put (T1.fr f2 (by simp)) (i := 4) (v := .slice q2.1 q2.2.1 q2.2.2) (by simp [TV.cs]) rfl
      rw [hT] at s3'
      have z0 := hI.fr.size
      have zd := fd.size
      have z2 := f2.size
      have lT := hI.blk.lt
      have np : T ∉ blkOf q2 := fun hm => by have := n2 T hm; omega
      have hst : (r.parts.take (k + 1)).foldl withP v.parts = withP ((r.parts.take k).foldl withP v.parts) r.parts[k] := by rw [List.take_succ_eq_append_getElem hk, List.foldl_append]; rfl
      refine ⟨_, x3, ?_, rfl, q2, ⟨by rw [hst]; exact p3, by rw [hst]; exact o2.fr f3 (fun y hy hm => by simp at hm; subst hm; exact np hy), ((hI.fr.app fd).app f2).app f3 |>.mono (by
        intro y hy hl
        simp at hy
        omega), fun y hy => by have := n2 y hy; omega⟩, ((B1.fr f2 (by simp)).fr f3 (by simp; exact hTb.symm)), ?_, ((hF.app fd).app f2).app f3 |>.mono (by intro y hy hl; simpa using hy)⟩
      · unfold g23_l32_b
        rw [show (w0.alloc (.cells #[.int .i64 0, .int .i64 0, .int .u64 0, .int .i64 0, .slice none 0 0, .int .i64 0, .int .u64 0, .bool false] 46)) = wA from hA]
        simp only [addr_add, Nat.zero_add, c5, k1, d4, d5, i1, c1', e2, s3', hw, obs, asP_pointer, asB_bool, asI_int, asS_string, asSl_slice, asM_map, asTup0, asTup1, asTup2, asTup3, asTup4, asTup5, asTup6, asTup7, asTup8, asTup9, asAgg2, asAgg3, asAgg4, asAgg5, asAgg6, asAgg7, asAgg8, asAgg9, asAgg12, getD0, getD1, getD2, getD3, getD4, getD5, getD6, getD7, getD8, getD9, getD10, getD11, getD12, getD13, getD14, getD15, getD16, getD17, getD18, getD19, Bool.not_true, Bool.not_false, Bool.false_eq_true, Bool.true_eq_false, ↓reduceIte, decide_true, decide_false, Option.isNone_some, Option.isNone_none, Option.isSome_some, Option.isSome_none, beq_self_eq_true, bne_self_eq_false, Bool.and_true, Bool.true_and, Bool.and_false, Bool.false_and, not_true_eq_false, not_false_eq_true]
      · refine (S1.fr f2 (by simp)).fr f3 (fun h0 y hy hm => ?_)
        simp at hm
        have := hrq (by simpa using h0) y hy
        omega)
    (fun s y ⟨hs, tq', hI, hB, hS, hF⟩ => by
      subst hs
      have c5 : y.cell? ⟨w4.heap.size, 5, none⟩ = some (.slice rq.1 rq.2.1 rq.2.2) := hB.cell 5
      have k1 : decide ((r.parts.length : Int) < (rq.2.1 : Int)) = false := by simp; omega
      unfold g23_l32_b
      simp only [addr_add, Nat.zero_add, c5, k1, obs, asP_pointer, asB_bool, asI_int, asS_string, asSl_slice, asM_map, asTup0, asTup1, asTup2, asTup3, asTup4, asTup5, asTup6, asTup7, asTup8, asTup9, asAgg2, asAgg3, asAgg4, asAgg5, asAgg6, asAgg7, asAgg8, asAgg9, asAgg12, getD0, getD1, getD2, getD3, getD4, getD5, getD6, getD7, getD8, getD9, getD10, getD11, getD12, getD13, getD14, getD15, getD16, getD17, getD18, getD19, Bool.not_true, Bool.not_false, Bool.false_eq_true, Bool.true_eq_false, ↓reduceIte, decide_true, decide_false, Option.isNone_some, Option.isNone_none, Option.isSome_some, Option.isSome_none, beq_self_eq_true, bne_self_eq_false, Bool.and_true, Bool.true_and, Bool.and_false, Bool.false_and, not_true_eq_false, not_false_eq_true]) (k := 0) (s := 0) (w := x) (Nat.zero_le _) ⟨rfl, tq, h, hb, sl, Fr.refl _ _⟩
  rw [List.take_length] at hI
  exact ⟨_, x', tq', g1, hI, hF⟩
end
end Go.Proofs.Ytlcojbodcbjkaaa

namespace Go.Proofs.Ytlcojbodcbjkaaa
open Go Go.Ev
set_option maxRecDepth 100000
set_option linter.unusedVariables false
set_option linter.unusedSimpArgs false

section
variable {w : World} {D : Nat → Prop} {q : Sh} {L : List (RV × Sh)}
abbrev recs (L : List (RV × Sh)) : List RV := L.map (·.1)

theorem round23 {w0 wA x : World} (hA : w0.alloc z46 = wA) {v : TV} {tq : Sh} {n : Int} {k : Nat} (hk : k < L.length) (hr : RL x D q L) (hD : ∀ y, D y → y < w0.heap.size) (h : TI w0 x wA.heap.size v tq) (hR : Blk x w0.heap.size (TV.cs ⟨0, 0, 0, 0, [], 0, 0, false⟩ (none, 0, 0)) 46)
    (hl : v.parts.length + L[k].1.parts.length ≤ 100000000) (hm : L.length ≤ 9223372036854775807) :
    ∃ x' tq', g23_l2_b q n w0 (k : Int) x = some (.normal, ((k + 1 : Nat) : Int), x') ∧ TI w0 x' wA.heap.size (if L[k].1.tx = n then stepR L[k].1 v else v) tq' ∧ Blk x' w0.heap.size (TV.cs ⟨0, 0, 0, 0, [], 0, 0, false⟩ (none, 0, 0)) 46 ∧ RL x' D q L := by
  have zA : wA.heap.size = w0.heap.size + 1 := by rw [← hA]; exact Array.size_push _
  have hql := hr.len
  obtain ⟨a, i1, l1⟩ := hr.get hk
  obtain ⟨⟨r, rq⟩, hrr⟩ : ∃ r, L[k] = r := ⟨_, rfl⟩
  have hmem : (r, rq) ∈ L := by rw [← hrr]; exact List.getElem_mem hk
  rw [hrr] at l1 hl ⊢
  simp only at l1 hl ⊢
  obtain ⟨x1, s1, b1, f1, _⟩ := newR x r rq
  have lT := h.blk.lt
  have k1 : decide ((k : Int) < (q.2.1 : Int)) = true := by simp; omega
  have hw := wrap_succ (n := k) (by omega)
  have z0 := h.fr.size
  have z1 := f1.size
  have hr1 := hr.fr f1 (by simp)
  have T1 := h.blk.fr f1 (by simp)
  have R1 := hR.fr f1 (by simp)
  have O1 := h.own.fr f1 (by simp)
  have I1 : TI w0 x1 wA.heap.size v tq := ⟨T1, O1, (Fr.mono (Fr.app h.fr f1) (by have z0_ := Fr.size h.fr; have z1_ := Fr.size f1; intro y_ hy_ hl_; grind [blkOf])), h.new⟩
  have hTb : wA.heap.size ≠ x.heap.size := by omega
  have nR : wA.heap.size ≠ w0.heap.size := by omega
  have c0 : x1.cell? ⟨x.heap.size, 0, none⟩ = some (.int .i64 r.k) := b1.cell 0
  have c1 : x1.cell? ⟨x.heap.size, 1, none⟩ = some (.int .i64 r.tx) := b1.cell 1
  simp only [RV.cs] at l1
  have hA' : (w0.alloc (.cells #[.int .i64 0, .int .i64 0, .int .u64 0, .int .i64 0, .slice none 0 0, .int .i64 0, .int .u64 0, .bool false] 46)) = wA := hA
  have npq : wA.heap.size ∉ blkOf tq := T1.notin O1 (by decide)
  -- what is written only into the name's block keeps all
  have keep : ∀ {y : World} {v' : TV} {tq' : Sh}, Fr [wA.heap.size] x1 y → Blk y wA.heap.size (v'.cs tq') 46 → Own y 3 1 tq' (intsV' v'.parts) → (∀ z ∈ blkOf tq', w0.heap.size ≤ z) → TI w0 y wA.heap.size v' tq' ∧ Blk y w0.heap.size (TV.cs ⟨0, 0, 0, 0, [], 0, 0, false⟩ (none, 0, 0)) 46 ∧ RL y D q L := by
    intro y v' tq' f b o hn
    exact ⟨⟨b, o, (I1.fr.app f).mono (by intro z hz hl; simp at hz; omega), hn⟩, R1.fr f (by simp; exact nR.symm), hr1.fr f (by intro z hz hl hd; simp at hz; have := hD z hd; omega)⟩
  by_cases hn : r.tx = n
  case neg =>
    rw [if_neg hn]
    have k2 : (r.tx != n) = true := by simp [hn]
    refine ⟨x1, tq, ?_, I1, R1, hr1⟩
    unfold g23_l2_b
    simp only [k1, i1, l1, s1, addr_add, Nat.zero_add, c1, k2, hw, obs, asP_pointer, asB_bool, asI_int, asS_string, asSl_slice, asM_map, asTup0, asTup1, asTup2, asTup3, asTup4, asTup5, asTup6, asTup7, asTup8, asTup9, asAgg2, asAgg3, asAgg4, asAgg5, asAgg6, asAgg7, asAgg8, asAgg9, asAgg12, getD0, getD1, getD2, getD3, getD4, getD5, getD6, getD7, getD8, getD9, getD10, getD11, getD12, getD13, getD14, getD15, getD16, getD17, getD18, getD19, Bool.not_true, Bool.not_false, Bool.false_eq_true, Bool.true_eq_false, ↓reduceIte, decide_true, decide_false, Option.isNone_some, Option.isNone_none, Option.isSome_some, Option.isSome_none, beq_self_eq_true, bne_self_eq_false, Bool.and_true, Bool.true_and, Bool.and_false, Bool.false_and, not_true_eq_false, not_false_eq_true]
  rw [if_pos hn]
  have k2 : (r.tx != n) = false := by simp [hn]
  have d2 : ∀ y, Fr [wA.heap.size] x1 y → y.cell? ⟨x.heap.size, 2, none⟩ = some (.int .i64 r.inc) := fun y f => (b1.fr f (by simp; exact hTb.symm)).cell 2
  have d3 : ∀ y, Fr [wA.heap.size] x1 y → y.cell? ⟨x.heap.size, 3, none⟩ = some (.int .u64 r.pid) := fun y f => (b1.fr f (by simp; exact hTb.symm)).cell 3
  have d4 : ∀ y, Fr [wA.heap.size] x1 y → y.cell? ⟨x.heap.size, 4, none⟩ = some (.int .i64 r.ep) := fun y f => (b1.fr f (by simp; exact hTb.symm)).cell 4
  have d6 : ∀ y, Fr [wA.heap.size] x1 y → y.cell? ⟨x.heap.size, 6, none⟩ = some (.bool r.com) := fun y f => (b1.fr f (by simp; exact hTb.symm)).cell 6
  by_cases h1 : r.k = 1
  · have e1 : (r.k == 1) = true := by simp [h1]
    obtain ⟨y1, t1, p1, g1⟩ := blk_put T1 (i := 0) (v := .int .i64 1) (by simp [TV.cs]) rfl
    obtain ⟨y2, t2, p2, g2⟩ := blk_put p1 (i := 1) (v := .int .i64 r.inc) (by simp [TV.cs]) rfl
    obtain ⟨y3, t3, p3, g3⟩ := blk_put p2 (i := 2) (v := .int .u64 r.pid) (by simp [TV.cs]) rfl
    obtain ⟨y4, t4, p4, g4⟩ := blk_put p3 (i := 3) (v := .int .i64 r.ep) (by simp [TV.cs]) rfl
    obtain ⟨y5, t5, p5, g5⟩ := blk_put p4 (i := 4) (v := .slice none 0 0) (by simp [TV.cs]) rfl
    have G2 : Fr [wA.heap.size] x1 y2 := (g1.app g2).mono (by intro z hz hl; simpa using hz)
    have G3 : Fr [wA.heap.size] x1 y3 := (G2.app g3).mono (by intro z hz hl; simpa using hz)
    have G5 : Fr [wA.heap.size] x1 y5 := ((G3.app g4).app g5).mono (by intro z hz hl; simpa using hz)
    have hst : stepR r v = { v with st := 1, inc := r.inc, pid := r.pid, ep := r.ep, parts := [] } := by unfold stepR; rw [if_pos h1]
    rw [hst]
    refine ⟨y5, (none, 0, 0), ?_, keep G5 p5 (Own.nil _ _ _) (by simp [blkOf])⟩
    have a2 := d2 y1 g1
    have a3 := d3 y2 G2
    have a4 := d4 y3 G3
    unfold g23_l2_b
    rw [hA']
    simp only [k1, i1, l1, s1, addr_add, Nat.zero_add, c1, k2, c0, e1, t1, a2, t2, a3, t3, a4, t4, t5, hw, obs, asP_pointer, asB_bool, asI_int, asS_string, asSl_slice, asM_map, asTup0, asTup1, asTup2, asTup3, asTup4, asTup5, asTup6, asTup7, asTup8, asTup9, asAgg2, asAgg3, asAgg4, asAgg5, asAgg6, asAgg7, asAgg8, asAgg9, asAgg12, getD0, getD1, getD2, getD3, getD4, getD5, getD6, getD7, getD8, getD9, getD10, getD11, getD12, getD13, getD14, getD15, getD16, getD17, getD18, getD19, Bool.not_true, Bool.not_false, Bool.false_eq_true, Bool.true_eq_false, ↓reduceIte, decide_true, decide_false, Option.isNone_some, Option.isNone_none, Option.isSome_some, Option.isSome_none, beq_self_eq_true, bne_self_eq_false, Bool.and_true, Bool.true_and, Bool.and_false, Bool.false_and, not_true_eq_false, not_false_eq_true]
  have e1 : (r.k == 1) = false := by simp [h1]
  by_cases h2 : r.k = 2
  · have e2 : (r.k == 2) = true := by simp [h2]
    obtain ⟨y1, t1, p1, g1⟩ := blk_put T1 (i := 0) (v := .int .i64 2) (by simp [TV.cs]) rfl
    have J := keep (v' := { v with st := 2 }) (tq' := tq) g1 p1 (O1.fr g1 (by intro z hz hm; simp at hm; subst hm; exact npq hz)) h.new
    have slx : SlC y1 1 rq (intsV' r.parts) := J.2.2.els _ hmem
    obtain ⟨t, y2, tq2, l2, J2, F2⟩ := parts23 (u := q) (n := n) (s3 := (k : Int)) hA rfl (by omega) J.1 (b1.fr g1 (by simp; exact hTb.symm)) hTb z0 slx (fun h0 y hy => hD y (hr.regs _ hmem h0 y hy)) hl
    have hst : stepR r v = { v with st := 2, parts := r.parts.foldl withP v.parts } := by unfold stepR; rw [if_neg h1, if_pos h2]
    rw [hst]
    refine ⟨y2, tq2, ?_, J2, J.2.1.fr F2 (by simp; exact nR.symm), J.2.2.fr F2 (by intro z hz hl hd; simp at hz; have := hD z hd; omega)⟩
    unfold g23_l2_b
    rw [hA']
    simp only [k1, i1, l1, s1, addr_add, Nat.zero_add, c1, k2, c0, e1, e2, t1, obs, asP_pointer, asB_bool, asI_int, asS_string, asSl_slice, asM_map, asTup0, asTup1, asTup2, asTup3, asTup4, asTup5, asTup6, asTup7, asTup8, asTup9, asAgg2, asAgg3, asAgg4, asAgg5, asAgg6, asAgg7, asAgg8, asAgg9, asAgg12, getD0, getD1, getD2, getD3, getD4, getD5, getD6, getD7, getD8, getD9, getD10, getD11, getD12, getD13, getD14, getD15, getD16, getD17, getD18, getD19, Bool.not_true, Bool.not_false, Bool.false_eq_true, Bool.true_eq_false, ↓reduceIte, decide_true, decide_false, Option.isNone_some, Option.isNone_none, Option.isSome_some, Option.isSome_none, beq_self_eq_true, bne_self_eq_false, Bool.and_true, Bool.true_and, Bool.and_false, Bool.false_and, not_true_eq_false, not_false_eq_true]
    rw [g23_l32_x3_of l2]
    unfold g23_l32_x3
    simp only [hw, obs, asP_pointer, asB_bool, asI_int, asS_string, asSl_slice, asM_map, asTup0, asTup1, asTup2, asTup3, asTup4, asTup5, asTup6, asTup7, asTup8, asTup9, asAgg2, asAgg3, asAgg4, asAgg5, asAgg6, asAgg7, asAgg8, asAgg9, asAgg12, getD0, getD1, getD2, getD3, getD4, getD5, getD6, getD7, getD8, getD9, getD10, getD11, getD12, getD13, getD14, getD15, getD16, getD17, getD18, getD19, Bool.not_true, Bool.not_false, Bool.false_eq_true, Bool.true_eq_false, ↓reduceIte, decide_true, decide_false, Option.isNone_some, Option.isNone_none, Option.isSome_some, Option.isSome_none, beq_self_eq_true, bne_self_eq_false, Bool.and_true, Bool.true_and, Bool.and_false, Bool.false_and, not_true_eq_false, not_false_eq_true]
  have e2 : (r.k == 2) = false := by simp [h2]
  by_cases h3 : r.k = 3
  · have e3 : (r.k == 3) = true := by simp [h3]
    obtain ⟨y1, t1, p1, g1⟩ := blk_put T1 (i := 0) (v := .int .i64 3) (by simp [TV.cs]) rfl
    obtain ⟨y2, t2, p2, g2⟩ := blk_put p1 (i := 5) (v := .int .i64 v.ep) (by simp [TV.cs]) rfl
    obtain ⟨y3, t3, p3, g3⟩ := blk_put p2 (i := 6) (v := .int .u64 v.pid) (by simp [TV.cs]) rfl
    obtain ⟨y4, t4, p4, g4⟩ := blk_put p3 (i := 7) (v := .bool r.com) (by simp [TV.cs]) rfl
    have G2 : Fr [wA.heap.size] x1 y2 := (g1.app g2).mono (by intro z hz hl; simpa using hz)
    have G3 : Fr [wA.heap.size] x1 y3 := (G2.app g3).mono (by intro z hz hl; simpa using hz)
    have G4 : Fr [wA.heap.size] x1 y4 := (G3.app g4).mono (by intro z hz hl; simpa using hz)
    have hst : stepR r v = { v with st := 3, last := v.ep, lpid := v.pid, com := r.com } := by unfold stepR; rw [if_neg h1, if_neg h2, if_pos h3]
    rw [hst]
    refine ⟨y4, tq, ?_, keep G4 p4 (O1.fr G4 (by intro z hz hm; simp at hm; subst hm; exact npq hz)) h.new⟩
    have a3 : y1.cell? ⟨wA.heap.size, 3, none⟩ = some (.int .i64 v.ep) := p1.cell 3
    have a2 : y2.cell? ⟨wA.heap.size, 2, none⟩ = some (.int .u64 v.pid) := p2.cell 2
    have a6 := d6 y3 G3
    unfold g23_l2_b
    rw [hA']
    simp only [k1, i1, l1, s1, addr_add, Nat.zero_add, c1, k2, c0, e1, e2, e3, t1, a3, t2, a2, t3, a6, t4, hw, obs, asP_pointer, asB_bool, asI_int, asS_string, asSl_slice, asM_map, asTup0, asTup1, asTup2, asTup3, asTup4, asTup5, asTup6, asTup7, asTup8, asTup9, asAgg2, asAgg3, asAgg4, asAgg5, asAgg6, asAgg7, asAgg8, asAgg9, asAgg12, getD0, getD1, getD2, getD3, getD4, getD5, getD6, getD7, getD8, getD9, getD10, getD11, getD12, getD13, getD14, getD15, getD16, getD17, getD18, getD19, Bool.not_true, Bool.not_false, Bool.false_eq_true, Bool.true_eq_false, ↓reduceIte, decide_true, decide_false, Option.isNone_some, Option.isNone_none, Option.isSome_some, Option.isSome_none, beq_self_eq_true, bne_self_eq_false, Bool.and_true, Bool.true_and, Bool.and_false, Bool.false_and, not_true_eq_false, not_false_eq_true]
  have e3 : (r.k == 3) = false := by simp [h3]
  by_cases h4 : r.k = 4
  · have e4 : (r.k == 4) = true := by simp [h4]
    obtain ⟨y1, t1, p1, g1⟩ := blk_put T1 (i := 0) (v := .int .i64 4) (by simp [TV.cs]) rfl
    obtain ⟨y2, t2, p2, g2⟩ := blk_put p1 (i := 3) (v := .int .i64 (IntKind.i64.wrap (v.last + 2))) (by simp [TV.cs]) rfl
    obtain ⟨y3, t3, p3, g3⟩ := blk_put p2 (i := 4) (v := .slice none 0 0) (by simp [TV.cs]) rfl
    have G2 : Fr [wA.heap.size] x1 y2 := (g1.app g2).mono (by intro z hz hl; simpa using hz)
    have G3 : Fr [wA.heap.size] x1 y3 := (G2.app g3).mono (by intro z hz hl; simpa using hz)
    have hst : stepR r v = { v with st := 4, ep := IntKind.i64.wrap (v.last + 2), parts := [] } := by unfold stepR; rw [if_neg h1, if_neg h2, if_neg h3, if_pos h4]
    rw [hst]
    refine ⟨y3, (none, 0, 0), ?_, keep G3 p3 (Own.nil _ _ _) (by simp [blkOf])⟩
    have a5 : y1.cell? ⟨wA.heap.size, 5, none⟩ = some (.int .i64 v.last) := p1.cell 5
    unfold g23_l2_b
    rw [hA']
    simp only [k1, i1, l1, s1, addr_add, Nat.zero_add, c1, k2, c0, e1, e2, e3, e4, t1, a5, t2, t3, hw, obs, asP_pointer, asB_bool, asI_int, asS_string, asSl_slice, asM_map, asTup0, asTup1, asTup2, asTup3, asTup4, asTup5, asTup6, asTup7, asTup8, asTup9, asAgg2, asAgg3, asAgg4, asAgg5, asAgg6, asAgg7, asAgg8, asAgg9, asAgg12, getD0, getD1, getD2, getD3, getD4, getD5, getD6, getD7, getD8, getD9, getD10, getD11, getD12, getD13, getD14, getD15, getD16, getD17, getD18, getD19, Bool.not_true, Bool.not_false, Bool.false_eq_true, Bool.true_eq_false, ↓reduceIte, decide_true, decide_false, Option.isNone_some, Option.isNone_none, Option.isSome_some, Option.isSome_none, beq_self_eq_true, bne_self_eq_false, Bool.and_true, Bool.true_and, Bool.and_false, Bool.false_and, not_true_eq_false, not_false_eq_true]
  have e4 : (r.k == 4) = false := by simp [h4]
  have hst : stepR r v = v := by unfold stepR; rw [if_neg h1, if_neg h2, if_neg h3, if_neg h4]
  rw [hst]
  refine ⟨x1, tq, ?_, I1, R1, hr1⟩
  unfold g23_l2_b
  simp only [k1, i1, l1, s1, addr_add, Nat.zero_add, c1, k2, c0, e1, e2, e3, e4, hw, obs, asP_pointer, asB_bool, asI_int, asS_string, asSl_slice, asM_map, asTup0, asTup1, asTup2, asTup3, asTup4, asTup5, asTup6, asTup7, asTup8, asTup9, asAgg2, asAgg3, asAgg4, asAgg5, asAgg6, asAgg7, asAgg8, asAgg9, asAgg12, getD0, getD1, getD2, getD3, getD4, getD5, getD6, getD7, getD8, getD9, getD10, getD11, getD12, getD13, getD14, getD15, getD16, getD17, getD18, getD19, Bool.not_true, Bool.not_false, Bool.false_eq_true, Bool.true_eq_false, ↓reduceIte, decide_true, decide_false, Option.isNone_some, Option.isNone_none, Option.isSome_some, Option.isSome_none, beq_self_eq_true, bne_self_eq_false, Bool.and_true, Bool.true_and, Bool.and_false, Bool.false_and, not_true_eq_false, not_false_eq_true]

theorem tx23 (h : RL w D q L) (n : Int) (hs : sumP (recs L) ≤ 100000000) :
    ∃ tq w', callF Try.prog 23 #[.slice q.1 q.2.1 q.2.2, .int .i64 n] w = some ((txOf (recs L) n).arg tq, w') ∧ Fr [] w w' ∧ Own w' 3 1 tq (intsV' (txOf (recs L) n).parts) ∧ ∀ y ∈ blkOf tq, w.heap.size ≤ y := by
  have hml : maxLen = 9223372036854775807 := by decide
  have hql := h.len
  have ho1 := h.own.le
  have ho2 := h.own.max
  obtain ⟨bA, fA⟩ := zero46 w
  obtain ⟨wA, hA⟩ : ∃ wA, w.alloc (.cells #[.int .i64 0, .int .i64 0, .int .u64 0, .int .i64 0, .slice none 0 0, .int .i64 0, .int .u64 0, .bool false] 46) = wA := ⟨_, rfl⟩
  rw [hA] at bA fA
  obtain ⟨x1, s1, b1, f1⟩ := newT2 wA tv0 (none, 0, 0)
  have zA : wA.heap.size = w.heap.size + 1 := by rw [← hA]; exact Array.size_push _
  have z1 := f1.size
  have hr1 := (h.fr fA (by simp)).fr f1 (by simp)
  have I1 : TI w x1 wA.heap.size tv0 (none, 0, 0) := ⟨b1, Own.nil _ _ _, (Fr.mono (Fr.app fA f1) (by have z0_ := Fr.size fA; have z1_ := Fr.size f1; intro y_ hy_ hl_; grind [blkOf])), by simp [blkOf]⟩
  have R1 := bA.fr f1 (by simp)
  obtain ⟨t, x2, g1, rfl, tq, I2, R2, _⟩ := loopS_countX 0 (b := g23_l2_b q n w) (I := fun k s y => s = (k : Int) ∧ ∃ tq, TI w y wA.heap.size (txOf (recs (L.take k)) n) tq ∧ Blk y w.heap.size (TV.cs ⟨0, 0, 0, 0, [], 0, 0, false⟩ (none, 0, 0)) 46 ∧ RL y D q L) (n := L.length)
    (fun k s y hk ⟨hs', tq, hI, hR, hr⟩ => by
      subst hs'
      have e1 := txOf_len (recs (L.take k)) n
      have e2 : sumP (recs (L.take k)) + L[k].1.parts.length ≤ sumP (recs L) := by
        have := sumP_take (recs L) (k := k) (by simpa using hk)
        rw [← List.map_take] at this
        simpa only [List.getElem_map] using this
      obtain ⟨x', tq', e, hI', hR', hr'⟩ := round23 (n := n) hA hk hr h.lt hI hR (by omega) (by omega)
      refine ⟨_, x', e, rfl, tq', ?_, hR', hr'⟩
      have : recs (L.take (k + 1)) = recs (L.take k) ++ [L[k].1] := by rw [List.take_succ_eq_append_getElem hk]; unfold recs; rw [List.map_append]; rfl
      rw [this, txOf_snoc]
      exact hI')
    (fun s y ⟨hs', _⟩ => by
      subst hs'
      unfold g23_l2_b
      have k1 : decide ((L.length : Int) < (q.2.1 : Int)) = false := by simp; omega
      simp only [k1, Bool.false_eq_true, if_false]) (k := 0) (s := 0) (w := x1) (Nat.zero_le _) ⟨rfl, (none, 0, 0), by simpa [txOf] using I1, R1, hr1⟩
  rw [List.take_length] at I2
  obtain ⟨v, hv⟩ : ∃ v, txOf (recs L) n = v := ⟨_, rfl⟩
  rw [hv] at I2 ⊢
  have l2 := I2.blk.ldN (n := 8) rfl
  obtain ⟨x3, s3, b3, f3⟩ := R2.stL (vs := v.cs tq) rfl (tvcs_oc v tq)
  have l3 := b3.ldN (n := 8) rfl
  have z2 := I2.fr.size
  refine ⟨tq, x3, g23_call ?_, (I2.fr.app f3).mono (by intro z hz hl; simp at hz; omega), I2.own.fr f3 (by
    intro z hz hm
    simp at hm; subst hm
    exact R2.notin I2.own (by decide) hz), I2.new⟩
  simp only [TV.cs] at l2 s3 l3
  have s1' : stL (wA.alloc (.cells #[.int .i64 0, .int .i64 0, .int .u64 0, .int .i64 0, .slice none 0 0, .int .i64 0, .int .u64 0, .bool false] 46)) ⟨wA.heap.size, 0, none⟩ [.int .i64 0, .int .i64 0, .int .u64 0, .int .i64 0, .slice none 0 0, .int .i64 (-1), .int .u64 0, .bool false] 0 = some x1 := s1
  unfold g23
  rw [hA]
  simp only [s1', obs, asP_pointer, asB_bool, asI_int, asS_string, asSl_slice, asM_map, asTup0, asTup1, asTup2, asTup3, asTup4, asTup5, asTup6, asTup7, asTup8, asTup9, asAgg2, asAgg3, asAgg4, asAgg5, asAgg6, asAgg7, asAgg8, asAgg9, asAgg12, getD0, getD1, getD2, getD3, getD4, getD5, getD6, getD7, getD8, getD9, getD10, getD11, getD12, getD13, getD14, getD15, getD16, getD17, getD18, getD19, Bool.not_true, Bool.not_false, Bool.false_eq_true, Bool.true_eq_false, ↓reduceIte, decide_true, decide_false, Option.isNone_some, Option.isNone_none, Option.isSome_some, Option.isSome_none, beq_self_eq_true, bne_self_eq_false, Bool.and_true, Bool.true_and, Bool.and_false, Bool.false_and, not_true_eq_false, not_false_eq_true]
  rw [g23_l2_x0_of g1]
  unfold g23_l2_x0
  rw [hA]
  simp only [l2, s3, l3, obs, asP_pointer, asB_bool, asI_int, asS_string, asSl_slice, asM_map, asTup0, asTup1, asTup2, asTup3, asTup4, asTup5, asTup6, asTup7, asTup8, asTup9, asAgg2, asAgg3, asAgg4, asAgg5, asAgg6, asAgg7, asAgg8, asAgg9, asAgg12, getD0, getD1, getD2, getD3, getD4, getD5, getD6, getD7, getD8, getD9, getD10, getD11, getD12, getD13, getD14, getD15, getD16, getD17, getD18, getD19, Bool.not_true, Bool.not_false, Bool.false_eq_true, Bool.true_eq_false, ↓reduceIte, decide_true, decide_false, Option.isNone_some, Option.isNone_none, Option.isSome_some, Option.isSome_none, beq_self_eq_true, bne_self_eq_false, Bool.and_true, Bool.true_and, Bool.and_false, Bool.false_and, not_true_eq_false, not_false_eq_true]
  rfl
end
end Go.Proofs.Ytlcojbodcbjkaaa

namespace Go.Proofs.Ytlcojbodcbjkaaa
open Go Go.Ev
open SQ (wp wp_if wp_bind wp_some wp_mono)
set_option maxRecDepth 100000
set_option linter.unusedVariables false
set_option linter.unusedSimpArgs false

/-- what is answered, in memory -/
def Out (w : World) (R : RV × Bool × Int) (r : Value × World) : Prop :=
  ∃ q : Sh, r.1 = .tuple #[R.1.arg q, .bool R.2.1, .int .i64 R.2.2] ∧ Fr [] w r.2 ∧ SlC r.2 1 q (intsV' R.1.parts) ∧ ∀ y ∈ blkOf q, w.heap.size ≤ y

theorem leaf_wp {w x : World} {cs : List Value} (b3 : Blk x w.heap.size cs 30) (hl : cs.length = 7) (f : Fr [] w x) (r : RV) (hp : r.parts = []) {ok : Bool} {e : Int} {R : RV × Bool × Int} (hR : R = (r, ok, e)) :
    wp ((stL x ⟨w.heap.size, 0, none⟩ [.int .i64 r.k, .int .i64 r.tx, .int .i64 r.inc, .int .u64 r.pid, .int .i64 r.ep, .slice none 0 0, .bool r.com] 0).bind fun w1 =>
      (ldN w1 ⟨w.heap.size, 0, none⟩ 0 7).bind fun l2 =>
      (asI .i64 (l2.getD 0 undef)).bind fun n3 => (asI .i64 (l2.getD 1 undef)).bind fun n4 => (asI .i64 (l2.getD 2 undef)).bind fun n5 => (asI .u64 (l2.getD 3 undef)).bind fun n6 => (asI .i64 (l2.getD 4 undef)).bind fun n7 =>
      (asSl (l2.getD 5 undef)).bind fun q8 => (asB (l2.getD 6 undef)).bind fun b9 =>
      some (.tuple #[.agg #[.int .i64 n3, .int .i64 n4, .int .i64 n5, .int .u64 n6, .int .i64 n7, .slice q8.1 q8.2.1 q8.2.2, .bool b9], .bool ok, .int .i64 e], w1)) (Out w R) := by
  obtain ⟨w', r1, r2, r3, _⟩ := retR b3 hl f (Nat.le_refl _) r (none, 0, 0)
  subst hR
  refine wp_bind r1 (wp_bind r2 ?_)
  simp only [obs, asP_pointer, asB_bool, asI_int, asS_string, asSl_slice, asM_map, asTup0, asTup1, asTup2, asTup3, asTup4, asTup5, asTup6, asTup7, asTup8, asTup9, asAgg2, asAgg3, asAgg4, asAgg5, asAgg6, asAgg7, asAgg8, asAgg9, asAgg12, getD0, getD1, getD2, getD3, getD4, getD5, getD6, getD7, getD8, getD9, getD10, getD11, getD12, getD13, getD14, getD15, getD16, getD17, getD18, getD19, Bool.not_true, Bool.not_false, Bool.false_eq_true, Bool.true_eq_false, ↓reduceIte, decide_true, decide_false, Option.isNone_some, Option.isNone_none, Option.isSome_some, Option.isSome_none, beq_self_eq_true, bne_self_eq_false, Bool.and_true, Bool.true_and, Bool.and_false, Bool.false_and, not_true_eq_false, not_false_eq_true]
  refine wp_some ⟨(none, 0, 0), rfl, r3, ?_, by simp [blkOf]⟩
  rw [hp]
  exact ⟨rfl, by simp⟩

section
variable {w : World} {D : Nat → Prop} {q : Sh} {L : List (RV × Sh)}
theorem begins23 (h : RL w D q L) (n : Int) (hs : sumP (recs L) ≤ 100000000) :
    ∃ (q' : Sh) (w1 w2 w3 : World), w.alloc (.cells #[.int .i64 0, .int .i64 0, .int .i64 0, .int .u64 0, .int .i64 0, .slice none 0 0, .bool false] 30) = w1 ∧ callF Try.prog 23 #[.slice q.1 q.2.1 q.2.2, .int .i64 n] w1 = some ((txOf (recs L) n).arg q', w2) ∧
      stL (w2.alloc (.cells #[.int .i64 0, .int .i64 0, .int .u64 0, .int .i64 0, .slice none 0 0, .int .i64 0, .int .u64 0, .bool false] 46)) ⟨w2.heap.size, 0, none⟩ [.int .i64 (txOf (recs L) n).st, .int .i64 (txOf (recs L) n).inc, .int .u64 (txOf (recs L) n).pid, .int .i64 (txOf (recs L) n).ep, .slice q'.1 q'.2.1 q'.2.2, .int .i64 (txOf (recs L) n).last, .int .u64 (txOf (recs L) n).lpid, .bool (txOf (recs L) n).com] 0 = some w3 ∧
      Blk w1 w.heap.size (rv0.cs (none, 0, 0)) 30 ∧ Fr [] w w1 ∧ Blk w3 w.heap.size (rv0.cs (none, 0, 0)) 30 ∧ Blk w3 w2.heap.size ((txOf (recs L) n).cs q') 46 ∧ Fr [] w w3 ∧ w.heap.size < w2.heap.size ∧ Own w3 3 1 q' (intsV' (txOf (recs L) n).parts) := by
  obtain ⟨b1, f1⟩ := zero30 w
  obtain ⟨w1, hw1⟩ : ∃ w1, w.alloc (.cells #[.int .i64 0, .int .i64 0, .int .i64 0, .int .u64 0, .int .i64 0, .slice none 0 0, .bool false] 30) = w1 := ⟨_, rfl⟩
  rw [hw1] at b1 f1
  obtain ⟨q', w2, e2, f2, o2, n2⟩ := tx23 (h.fr f1 (by simp)) n hs
  obtain ⟨b3, f3⟩ := zero46 w2
  obtain ⟨w3, s3, b4, f4⟩ := b3.stL (vs := (txOf (recs L) n).cs q') rfl (tvcs_oc _ _)
  have z1 := f1.size
  have z2 := f2.size
  have F3 : Fr [] w2 w3 := (f3.app f4).mono (by intro y hy hl; simp at hy; omega)
  have b13 := (b1.fr f2 (by simp)).fr F3 (by simp)
  have l1 := b1.lt
  exact ⟨q', w1, w2, w3, hw1, e2, s3, b1, f1, b13, b4, (Fr.mono (Fr.app (Fr.app f1 f2) F3) (by have z0_ := Fr.size f1; have z1_ := Fr.size f2; have z2_ := Fr.size F3; intro y_ hy_ hl_; grind [blkOf])), by omega, o2.fr F3 (by simp)⟩


theorem init15 (h : RL w D q L) (n inc pid : Int) (hs : sumP (recs L) ≤ 100000000) :
    ∃ r, callF Try.prog 15 #[.slice q.1 q.2.1 q.2.2, .int .i64 n, .int .i64 inc, .int .u64 pid] w = some r ∧ Out w (initP (txOf (recs L) n) n inc pid) r := by
  obtain ⟨q', w1, w2, w3, hw1, e2, s3, b1, f1, b3, bt, f3, lt, ow⟩ := begins23 h n hs
  generalize txOf (recs L) n = t at *
  suffices H : wp (g15 q n inc pid w) (Out w (initP t n inc pid)) by
    obtain ⟨r, e, hr⟩ := H
    exact ⟨r, g15_call e, hr⟩
  have c0 : w3.cell? ⟨w2.heap.size, 0, none⟩ = some (.int .i64 t.st) := bt.cell 0
  have c1 : w3.cell? ⟨w2.heap.size, 1, none⟩ = some (.int .i64 t.inc) := bt.cell 1
  have c2 : w3.cell? ⟨w2.heap.size, 2, none⟩ = some (.int .u64 t.pid) := bt.cell 2
  have c3 : w3.cell? ⟨w2.heap.size, 3, none⟩ = some (.int .i64 t.ep) := bt.cell 3
  simp only [TV.arg] at e2
  unfold g15
  rw [hw1]
  simp only [e2, s3, addr_add, Nat.zero_add, c0, c1, c2, c3, obs, asP_pointer, asB_bool, asI_int, asS_string, asSl_slice, asM_map, asTup0, asTup1, asTup2, asTup3, asTup4, asTup5, asTup6, asTup7, asTup8, asTup9, asAgg2, asAgg3, asAgg4, asAgg5, asAgg6, asAgg7, asAgg8, asAgg9, asAgg12, getD0, getD1, getD2, getD3, getD4, getD5, getD6, getD7, getD8, getD9, getD10, getD11, getD12, getD13, getD14, getD15, getD16, getD17, getD18, getD19, Bool.not_true, Bool.not_false, Bool.false_eq_true, Bool.true_eq_false, ↓reduceIte, decide_true, decide_false, Option.isNone_some, Option.isNone_none, Option.isSome_some, Option.isSome_none, beq_self_eq_true, bne_self_eq_false, Bool.and_true, Bool.true_and, Bool.and_false, Bool.false_and, not_true_eq_false, not_false_eq_true]
  refine wp_if (fun h1 => leaf_wp b1 rfl f1 rv0 rfl ?_) (fun h1 => ?_)
  · ((clear h e2 s3 b1 f1 b3 bt f3 ow c0 c1 c2 c3 hw1 hs lt; ((simp only [decide_eq_true_eq, beq_iff_eq, bne_iff_ne, ne_eq, Bool.not_eq_true', Decidable.not_not, Bool.not_eq_false'] at *)); unfold initP; (repeat' split) <;> first | rfl | (exfalso; omega) | (congr 2; omega)))
  refine wp_if (fun h2 => leaf_wp b1 rfl f1 rv0 rfl ?_) (fun h2 => ?_)
  · ((clear h e2 s3 b1 f1 b3 bt f3 ow c0 c1 c2 c3 hw1 hs lt; ((simp only [decide_eq_true_eq, beq_iff_eq, bne_iff_ne, ne_eq, Bool.not_eq_true', Decidable.not_not, Bool.not_eq_false'] at *)); unfold initP; (repeat' split) <;> first | rfl | (exfalso; omega) | (congr 2; omega)))
  refine wp_if (fun h3 => wp_if (fun h4 => leaf_wp b3 rfl f3 rv0 rfl ?_) (fun h4 => leaf_wp b3 rfl f3 ⟨1, n, inc, pid, 0, [], false⟩ rfl ?_)) (fun h3 => ?_)
  · ((clear h e2 s3 b1 f1 b3 bt f3 ow c0 c1 c2 c3 hw1 hs lt; ((simp only [decide_eq_true_eq, beq_iff_eq, bne_iff_ne, ne_eq, Bool.not_eq_true', Decidable.not_not, Bool.not_eq_false'] at *)); unfold initP; (repeat' split) <;> first | rfl | (exfalso; omega) | (congr 2; omega)))
  · ((clear h e2 s3 b1 f1 b3 bt f3 ow c0 c1 c2 c3 hw1 hs lt; ((simp only [decide_eq_true_eq, beq_iff_eq, bne_iff_ne, ne_eq, Bool.not_eq_true', Decidable.not_not, Bool.not_eq_false'] at *)); unfold initP; (repeat' split) <;> first | rfl | (exfalso; omega) | (congr 2; omega)))
  refine wp_if (fun h5 => leaf_wp b3 rfl f3 rv0 rfl ?_) (fun h5 => ?_)
  · ((clear h e2 s3 b1 f1 b3 bt f3 ow c0 c1 c2 c3 hw1 hs lt; ((simp only [decide_eq_true_eq, beq_iff_eq, bne_iff_ne, ne_eq, Bool.not_eq_true', Decidable.not_not, Bool.not_eq_false'] at *)); unfold initP; (repeat' split) <;> first | rfl | (exfalso; omega) | (congr 2; omega)))
  refine wp_if (fun h6 => leaf_wp b3 rfl f3 rv0 rfl ?_) (fun h6 => ?_)
  · ((clear h e2 s3 b1 f1 b3 bt f3 ow c0 c1 c2 c3 hw1 hs lt; ((simp only [decide_eq_true_eq, beq_iff_eq, bne_iff_ne, ne_eq, Bool.not_eq_true', Decidable.not_not, Bool.not_eq_false'] at *)); unfold initP; (repeat' split) <;> first | rfl | (exfalso; omega) | (congr 2; omega)))
  refine wp_if (fun h7 => leaf_wp b3 rfl f3 rv0 rfl ?_) (fun h7 => ?_)
  · ((clear h e2 s3 b1 f1 b3 bt f3 ow c0 c1 c2 c3 hw1 hs lt; ((simp only [decide_eq_true_eq, beq_iff_eq, bne_iff_ne, ne_eq, Bool.not_eq_true', Decidable.not_not, Bool.not_eq_false'] at *)); unfold initP; (repeat' split) <;> first | rfl | (exfalso; omega) | (congr 2; omega)))
  refine wp_if (fun h8 => leaf_wp b3 rfl f3 ⟨3, n, 0, 0, 0, [], false⟩ rfl ?_) (fun h8 => ?_)
  · ((clear h e2 s3 b1 f1 b3 bt f3 ow c0 c1 c2 c3 hw1 hs lt; ((simp only [decide_eq_true_eq, beq_iff_eq, bne_iff_ne, ne_eq, Bool.not_eq_true', Decidable.not_not, Bool.not_eq_false'] at *)); unfold initP; (repeat' split) <;> first | rfl | (exfalso; omega) | (congr 2; omega)))
  refine wp_if (fun h9 => leaf_wp b3 rfl f3 ⟨1, n, inc, t.pid, IntKind.i64.wrap (t.ep + 2), [], false⟩ rfl ?_) (fun h9 => ?_)
  · ((clear h e2 s3 b1 f1 b3 bt f3 ow c0 c1 c2 c3 hw1 hs lt; ((simp only [decide_eq_true_eq, beq_iff_eq, bne_iff_ne, ne_eq, Bool.not_eq_true', Decidable.not_not, Bool.not_eq_false'] at *)); unfold initP; (repeat' split) <;> first | rfl | (exfalso; omega) | (congr 2; omega)))
  refine wp_if (fun h10 => leaf_wp b3 rfl f3 rv0 rfl ?_) (fun h10 => leaf_wp b3 rfl f3 ⟨1, n, inc, pid, 0, [], false⟩ rfl ?_)
  · ((clear h e2 s3 b1 f1 b3 bt f3 ow c0 c1 c2 c3 hw1 hs lt; ((simp only [decide_eq_true_eq, beq_iff_eq, bne_iff_ne, ne_eq, Bool.not_eq_true', Decidable.not_not, Bool.not_eq_false'] at *)); unfold initP; (repeat' split) <;> first | rfl | (exfalso; omega) | (congr 2; omega)))
  · ((clear h e2 s3 b1 f1 b3 bt f3 ow c0 c1 c2 c3 hw1 hs lt; ((simp only [decide_eq_true_eq, beq_iff_eq, bne_iff_ne, ne_eq, Bool.not_eq_true', Decidable.not_not, Bool.not_eq_false'] at *)); unfold initP; (repeat' split) <;> first | rfl | (exfalso; omega) | (congr 2; omega)))

theorem end19 (h : RL w D q L) (n pid epoch : Int) (com : Bool) (hs : sumP (recs L) ≤ 100000000) :
    ∃ r, callF Try.prog 19 #[.slice q.1 q.2.1 q.2.2, .int .i64 n, .int .u64 pid, .int .i64 epoch, .bool com] w = some r ∧ Out w (endP (txOf (recs L) n) n pid epoch com) r := by
  obtain ⟨q', w1, w2, w3, hw1, e2, s3, b1, f1, b3, bt, f3, lt, ow⟩ := begins23 h n hs
  generalize txOf (recs L) n = t at *
  suffices H : wp (g19 q n pid epoch com w) (Out w (endP t n pid epoch com)) by
    obtain ⟨r, e, hr⟩ := H
    exact ⟨r, g19_call e, hr⟩
  have c0 : w3.cell? ⟨w2.heap.size, 0, none⟩ = some (.int .i64 t.st) := bt.cell 0
  have c2 : w3.cell? ⟨w2.heap.size, 2, none⟩ = some (.int .u64 t.pid) := bt.cell 2
  have c3 : w3.cell? ⟨w2.heap.size, 3, none⟩ = some (.int .i64 t.ep) := bt.cell 3
  have c5 : w3.cell? ⟨w2.heap.size, 5, none⟩ = some (.int .i64 t.last) := bt.cell 5
  have c6 : w3.cell? ⟨w2.heap.size, 6, none⟩ = some (.int .u64 t.lpid) := bt.cell 6
  have c7 : w3.cell? ⟨w2.heap.size, 7, none⟩ = some (.bool t.com) := bt.cell 7
  simp only [TV.arg] at e2
  unfold g19
  rw [hw1]
  simp only [e2, s3, addr_add, Nat.zero_add, c0, c2, c3, c5, c6, c7, obs, asP_pointer, asB_bool, asI_int, asS_string, asSl_slice, asM_map, asTup0, asTup1, asTup2, asTup3, asTup4, asTup5, asTup6, asTup7, asTup8, asTup9, asAgg2, asAgg3, asAgg4, asAgg5, asAgg6, asAgg7, asAgg8, asAgg9, asAgg12, getD0, getD1, getD2, getD3, getD4, getD5, getD6, getD7, getD8, getD9, getD10, getD11, getD12, getD13, getD14, getD15, getD16, getD17, getD18, getD19, Bool.not_true, Bool.not_false, Bool.false_eq_true, Bool.true_eq_false, ↓reduceIte, decide_true, decide_false, Option.isNone_some, Option.isNone_none, Option.isSome_some, Option.isSome_none, beq_self_eq_true, bne_self_eq_false, Bool.and_true, Bool.true_and, Bool.and_false, Bool.false_and, not_true_eq_false, not_false_eq_true]
  refine wp_if (fun h1 => leaf_wp b1 rfl f1 rv0 rfl ?_) (fun h1 => ?_)
  · ((clear h e2 s3 b1 f1 b3 bt f3 ow c0 c2 c3 c5 c6 c7 hw1 hs lt; ((simp only [decide_eq_true_eq, beq_iff_eq, bne_iff_ne, ne_eq, Bool.not_eq_true', Decidable.not_not, Bool.not_eq_false'] at *)); grind [endP]))
  refine wp_if (fun h2 => leaf_wp b1 rfl f1 rv0 rfl ?_) (fun h2 => ?_)
  · ((clear h e2 s3 b1 f1 b3 bt f3 ow c0 c2 c3 c5 c6 c7 hw1 hs lt; ((simp only [decide_eq_true_eq, beq_iff_eq, bne_iff_ne, ne_eq, Bool.not_eq_true', Decidable.not_not, Bool.not_eq_false'] at *)); grind [endP]))
  refine wp_if (fun h3 => leaf_wp b3 rfl f3 rv0 rfl ?_) (fun h3 => ?_)
  · ((clear h e2 s3 b1 f1 b3 bt f3 ow c0 c2 c3 c5 c6 c7 hw1 hs lt; ((simp only [decide_eq_true_eq, beq_iff_eq, bne_iff_ne, ne_eq, Bool.not_eq_true', Decidable.not_not, Bool.not_eq_false'] at *)); grind [endP]))
  refine wp_if (fun h4 => leaf_wp b3 rfl f3 rv0 rfl ?_) (fun h4 => ?_)
  · ((clear h e2 s3 b1 f1 b3 bt f3 ow c0 c2 c3 c5 c6 c7 hw1 hs lt; ((simp only [decide_eq_true_eq, beq_iff_eq, bne_iff_ne, ne_eq, Bool.not_eq_true', Decidable.not_not, Bool.not_eq_false'] at *)); grind [endP]))
  refine wp_if (fun h5 => wp_if (fun h6 => wp_if (fun h7 => leaf_wp b3 rfl f3 rv0 rfl ?_) (fun h7 => wp_if (fun h8 => leaf_wp b3 rfl f3 rv0 rfl ?_) (fun h8 => leaf_wp b3 rfl f3 rv0 rfl ?_))) (fun h6 => wp_if (fun h7 => leaf_wp b3 rfl f3 rv0 rfl ?_) (fun h7 => wp_if (fun h8 => leaf_wp b3 rfl f3 rv0 rfl ?_) (fun h8 => leaf_wp b3 rfl f3 ⟨3, n, 0, 0, 0, [], com⟩ rfl ?_)))) (fun h5 => wp_if (fun h7 => leaf_wp b3 rfl f3 rv0 rfl ?_) (fun h7 => wp_if (fun h8 => leaf_wp b3 rfl f3 rv0 rfl ?_) (fun h8 => leaf_wp b3 rfl f3 ⟨3, n, 0, 0, 0, [], com⟩ rfl ?_)))
  · ((clear h e2 s3 b1 f1 b3 bt f3 ow c0 c2 c3 c5 c6 c7 hw1 hs lt; ((simp only [decide_eq_true_eq, beq_iff_eq, bne_iff_ne, ne_eq, Bool.not_eq_true', Decidable.not_not, Bool.not_eq_false'] at *)); grind [endP]))
  · ((clear h e2 s3 b1 f1 b3 bt f3 ow c0 c2 c3 c5 c6 c7 hw1 hs lt; ((simp only [decide_eq_true_eq, beq_iff_eq, bne_iff_ne, ne_eq, Bool.not_eq_true', Decidable.not_not, Bool.not_eq_false'] at *)); grind [endP]))
  · ((clear h e2 s3 b1 f1 b3 bt f3 ow c0 c2 c3 c5 c6 c7 hw1 hs lt; ((simp only [decide_eq_true_eq, beq_iff_eq, bne_iff_ne, ne_eq, Bool.not_eq_true', Decidable.not_not, Bool.not_eq_false'] at *)); grind [endP]))
  · ((clear h e2 s3 b1 f1 b3 bt f3 ow c0 c2 c3 c5 c6 c7 hw1 hs lt; ((simp only [decide_eq_true_eq, beq_iff_eq, bne_iff_ne, ne_eq, Bool.not_eq_true', Decidable.not_not, Bool.not_eq_false'] at *)); grind [endP]))
  · ((clear h e2 s3 b1 f1 b3 bt f3 ow c0 c2 c3 c5 c6 c7 hw1 hs lt; ((simp only [decide_eq_true_eq, beq_iff_eq, bne_iff_ne, ne_eq, Bool.not_eq_true', Decidable.not_not, Bool.not_eq_false'] at *)); grind [endP]))
  · ((clear h e2 s3 b1 f1 b3 bt f3 ow c0 c2 c3 c5 c6 c7 hw1 hs lt; ((simp only [decide_eq_true_eq, beq_iff_eq, bne_iff_ne, ne_eq, Bool.not_eq_true', Decidable.not_not, Bool.not_eq_false'] at *)); grind [endP]))
  · ((clear h e2 s3 b1 f1 b3 bt f3 ow c0 c2 c3 c5 c6 c7 hw1 hs lt; ((simp only [decide_eq_true_eq, beq_iff_eq, bne_iff_ne, ne_eq, Bool.not_eq_true', Decidable.not_not, Bool.not_eq_false'] at *)); grind [endP]))
  · ((clear h e2 s3 b1 f1 b3 bt f3 ow c0 c2 c3 c5 c6 c7 hw1 hs lt; ((simp only [decide_eq_true_eq, beq_iff_eq, bne_iff_ne, ne_eq, Bool.not_eq_true', Decidable.not_not, Bool.not_eq_false'] at *)); grind [endP]))
  · ((clear h e2 s3 b1 f1 b3 bt f3 ow c0 c2 c3 c5 c6 c7 hw1 hs lt; ((simp only [decide_eq_true_eq, beq_iff_eq, bne_iff_ne, ne_eq, Bool.not_eq_true', Decidable.not_not, Bool.not_eq_false'] at *)); grind [endP]))

theorem add17 (h : RL w D q L) (n pid epoch part : Int) (hs : sumP (recs L) ≤ 100000000) :
    ∃ r, callF Try.prog 17 #[.slice q.1 q.2.1 q.2.2, .int .i64 n, .int .u64 pid, .int .i64 epoch, .int .i64 part] w = some r ∧ Out w (addP (txOf (recs L) n) n pid epoch part) r := by
  have hpl := txOf_len (recs L) n
  obtain ⟨q', w1, w2, w3, hw1, e2, s3, b1, f1, b3, bt, f3, lt, ow⟩ := begins23 h n hs
  generalize txOf (recs L) n = t at *
  have owl := ow.len
  simp only [intsV', List.length_map] at owl
  suffices H : wp (g17 q n pid epoch part w) (Out w (addP t n pid epoch part)) by
    obtain ⟨r, e, hr⟩ := H
    exact ⟨r, g17_call e, hr⟩
  have c0 : w3.cell? ⟨w2.heap.size, 0, none⟩ = some (.int .i64 t.st) := bt.cell 0
  have c2 : w3.cell? ⟨w2.heap.size, 2, none⟩ = some (.int .u64 t.pid) := bt.cell 2
  have c3 : w3.cell? ⟨w2.heap.size, 3, none⟩ = some (.int .i64 t.ep) := bt.cell 3
  have c4 : w3.cell? ⟨w2.heap.size, 4, none⟩ = some (.slice q'.1 q'.2.1 q'.2.2) := bt.cell 4
  simp only [TV.arg] at e2
  unfold g17
  rw [hw1]
  simp only [e2, s3, addr_add, Nat.zero_add, c0, c2, c3, obs, asP_pointer, asB_bool, asI_int, asS_string, asSl_slice, asM_map, asTup0, asTup1, asTup2, asTup3, asTup4, asTup5, asTup6, asTup7, asTup8, asTup9, asAgg2, asAgg3, asAgg4, asAgg5, asAgg6, asAgg7, asAgg8, asAgg9, asAgg12, getD0, getD1, getD2, getD3, getD4, getD5, getD6, getD7, getD8, getD9, getD10, getD11, getD12, getD13, getD14, getD15, getD16, getD17, getD18, getD19, Bool.not_true, Bool.not_false, Bool.false_eq_true, Bool.true_eq_false, ↓reduceIte, decide_true, decide_false, Option.isNone_some, Option.isNone_none, Option.isSome_some, Option.isSome_none, beq_self_eq_true, bne_self_eq_false, Bool.and_true, Bool.true_and, Bool.and_false, Bool.false_and, not_true_eq_false, not_false_eq_true]
  refine wp_if (fun h1 => leaf_wp b1 rfl f1 rv0 rfl ?_) (fun h1 => ?_)
  · ((clear h e2 s3 b1 f1 b3 bt f3 ow c0 c2 c3 c4 hw1 hs lt; ((simp only [decide_eq_true_eq, beq_iff_eq, bne_iff_ne, ne_eq, Bool.not_eq_true', Decidable.not_not, Bool.not_eq_false'] at *)); unfold addP; (repeat' split) <;> first | rfl | (exfalso; omega) | contradiction))
  refine wp_if (fun h2 => leaf_wp b1 rfl f1 rv0 rfl ?_) (fun h2 => ?_)
  · ((clear h e2 s3 b1 f1 b3 bt f3 ow c0 c2 c3 c4 hw1 hs lt; ((simp only [decide_eq_true_eq, beq_iff_eq, bne_iff_ne, ne_eq, Bool.not_eq_true', Decidable.not_not, Bool.not_eq_false'] at *)); unfold addP; (repeat' split) <;> first | rfl | (exfalso; omega) | contradiction))
  refine wp_if (fun h3 => leaf_wp b1 rfl f1 rv0 rfl ?_) (fun h3 => ?_)
  · ((clear h e2 s3 b1 f1 b3 bt f3 ow c0 c2 c3 c4 hw1 hs lt; ((simp only [decide_eq_true_eq, beq_iff_eq, bne_iff_ne, ne_eq, Bool.not_eq_true', Decidable.not_not, Bool.not_eq_false'] at *)); unfold addP; (repeat' split) <;> first | rfl | (exfalso; omega) | contradiction))
  refine wp_if (fun h4 => leaf_wp b1 rfl f1 rv0 rfl ?_) (fun h4 => ?_)
  · ((clear h e2 s3 b1 f1 b3 bt f3 ow c0 c2 c3 c4 hw1 hs lt; ((simp only [decide_eq_true_eq, beq_iff_eq, bne_iff_ne, ne_eq, Bool.not_eq_true', Decidable.not_not, Bool.not_eq_false'] at *)); unfold addP; (repeat' split) <;> first | rfl | (exfalso; omega) | contradiction))
  have leafF : ∀ (v5 : Value), t.st = 0 ∨ pid ≠ t.pid ∨ epoch ≠ t.ep → wp (g17_j48 w3 w (v5, w2) epoch n part true) (Out w (addP t n pid epoch part)) := by
    intro v5 hc
    unfold g17_j48
    refine wp_if (fun h5 => leaf_wp b3 rfl f3 rv0 rfl ?_) (fun h5 => absurd rfl h5)
    ((clear h e2 s3 b1 f1 b3 bt f3 ow c0 c2 c3 c4 hw1 hs lt; ((simp only [decide_eq_true_eq, beq_iff_eq, bne_iff_ne, ne_eq, Bool.not_eq_true', Decidable.not_not, Bool.not_eq_false'] at *)); unfold addP; (repeat' split) <;> first | rfl | (exfalso; omega) | contradiction))
  refine wp_if (fun h5 => ?_) (fun h5 => wp_if (fun h6 => ?_) (fun h6 => ?_))
  · rw [h5]
    exact leafF _ (.inl (by ((simp only [decide_eq_true_eq, beq_iff_eq, bne_iff_ne, ne_eq, Bool.not_eq_true', Decidable.not_not, Bool.not_eq_false'] at *)); exact h5))
  · rw [h6]
    exact leafF _ (.inr (.inl (by ((simp only [decide_eq_true_eq, beq_iff_eq, bne_iff_ne, ne_eq, Bool.not_eq_true', Decidable.not_not, Bool.not_eq_false'] at *)); exact h6)))
  by_cases h7 : (epoch != t.ep) = true
  · rw [h7]
    exact leafF _ (.inr (.inr (by ((simp only [decide_eq_true_eq, beq_iff_eq, bne_iff_ne, ne_eq, Bool.not_eq_true', Decidable.not_not, Bool.not_eq_false'] at *)); exact h7)))
  have h7' : (epoch != t.ep) = false := by simpa using h7
  rw [h7']
  unfold g17_j48
  simp only [addr_add, Nat.zero_add, c0, obs, asP_pointer, asB_bool, asI_int, asS_string, asSl_slice, asM_map, asTup0, asTup1, asTup2, asTup3, asTup4, asTup5, asTup6, asTup7, asTup8, asTup9, asAgg2, asAgg3, asAgg4, asAgg5, asAgg6, asAgg7, asAgg8, asAgg9, asAgg12, getD0, getD1, getD2, getD3, getD4, getD5, getD6, getD7, getD8, getD9, getD10, getD11, getD12, getD13, getD14, getD15, getD16, getD17, getD18, getD19, Bool.not_true, Bool.not_false, Bool.false_eq_true, Bool.true_eq_false, ↓reduceIte, decide_true, decide_false, Option.isNone_some, Option.isNone_none, Option.isSome_some, Option.isSome_none, beq_self_eq_true, bne_self_eq_false, Bool.and_true, Bool.true_and, Bool.and_false, Bool.false_and, not_true_eq_false, not_false_eq_true]
  refine wp_if (fun h8 => leaf_wp b3 rfl f3 rv0 rfl ?_) (fun h8 => ?_)
  · ((clear h e2 s3 b1 f1 b3 bt f3 ow c0 c2 c3 c4 hw1 hs lt; ((simp only [decide_eq_true_eq, beq_iff_eq, bne_iff_ne, ne_eq, Bool.not_eq_true', Decidable.not_not, Bool.not_eq_false'] at *)); unfold addP; (repeat' split) <;> first | rfl | (exfalso; omega) | contradiction))
  refine wp_if (fun h9 => leaf_wp b3 rfl f3 rv0 rfl ?_) (fun h9 => ?_)
  · ((clear h e2 s3 b1 f1 b3 bt f3 ow c0 c2 c3 c4 hw1 hs lt; ((simp only [decide_eq_true_eq, beq_iff_eq, bne_iff_ne, ne_eq, Bool.not_eq_true', Decidable.not_not, Bool.not_eq_false'] at *)); unfold addP; (repeat' split) <;> first | rfl | (exfalso; omega) | contradiction))
  have hmem : part ∈ t.parts → addP t n pid epoch part = (rv0, false, 0) := by
    intro hm
    ((clear h e2 s3 b1 f1 b3 bt f3 ow c0 c2 c3 c4 hw1 hs lt; ((simp only [decide_eq_true_eq, beq_iff_eq, bne_iff_ne, ne_eq, Bool.not_eq_true', Decidable.not_not, Bool.not_eq_false'] at *)); unfold addP; (repeat' split) <;> first | rfl | (exfalso; omega) | contradiction))
  have hnot : part ∉ t.parts → addP t n pid epoch part = (⟨2, n, 0, 0, 0, [part], false⟩, true, 0) := by
    intro hm
    ((clear h e2 s3 b1 f1 b3 bt f3 ow c0 c2 c3 c4 hw1 hs lt; ((simp only [decide_eq_true_eq, beq_iff_eq, bne_iff_ne, ne_eq, Bool.not_eq_true', Decidable.not_not, Bool.not_eq_false'] at *)); unfold addP; (repeat' split) <;> first | rfl | (exfalso; omega) | contradiction))
  obtain ⟨R0, hR0⟩ : ∃ R0, addP t n pid epoch part = R0 := ⟨_, rfl⟩
  rw [hR0] at hmem hnot ⊢
  -- the loop over the parts
  obtain ⟨e, s, x, g1, hQ⟩ := SQ.loop_wp (b := g17_l85_b (.agg #[.int .i64 t.st, .int .i64 t.inc, .int .u64 t.pid, .int .i64 t.ep, .slice q'.1 q'.2.1 q'.2.2, .int .i64 t.last, .int .u64 t.lpid, .bool t.com], w2) part w n) (I := fun s x => ∃ k : Nat, s = (false, 0, (k : Int)) ∧ k ≤ t.parts.length ∧ x = w3 ∧ part ∉ t.parts.take k)
    (Q := fun e s x => e = .exit 1 ∧ x = w3 ∧ part ∉ t.parts ∨ e = .ret ∧ s.1 = false ∧ s.2.1 = 0 ∧ part ∈ t.parts ∧ Blk x w.heap.size (rv0.cs (none, 0, 0)) 30 ∧ Fr [] w x) (fun s => ((t.parts.length : Int) - s.2.2).toNat)
    (fun s x ⟨k, hs', hk, hx, hn⟩ => by
      subst hs' hx
      unfold g17_l85_b
      simp only [addr_add, Nat.zero_add, c4, obs, asP_pointer, asB_bool, asI_int, asS_string, asSl_slice, asM_map, asTup0, asTup1, asTup2, asTup3, asTup4, asTup5, asTup6, asTup7, asTup8, asTup9, asAgg2, asAgg3, asAgg4, asAgg5, asAgg6, asAgg7, asAgg8, asAgg9, asAgg12, getD0, getD1, getD2, getD3, getD4, getD5, getD6, getD7, getD8, getD9, getD10, getD11, getD12, getD13, getD14, getD15, getD16, getD17, getD18, getD19, Bool.not_true, Bool.not_false, Bool.false_eq_true, Bool.true_eq_false, ↓reduceIte, decide_true, decide_false, Option.isNone_some, Option.isNone_none, Option.isSome_some, Option.isSome_none, beq_self_eq_true, bne_self_eq_false, Bool.and_true, Bool.true_and, Bool.and_false, Bool.false_and, not_true_eq_false, not_false_eq_true]
      refine wp_if (fun c => ?_) (fun c => ?_)
      · simp only [decide_eq_true_eq] at c
        have hk' : k < t.parts.length := by omega
        obtain ⟨a, i1, g⟩ := ow.slC.get (i := k) (by simpa using hk')
        have g' : x.cell? a = some (.int .i64 t.parts[k]) := by rw [g]; simp
        simp only [i1, g', obs, asP_pointer, asB_bool, asI_int, asS_string, asSl_slice, asM_map, asTup0, asTup1, asTup2, asTup3, asTup4, asTup5, asTup6, asTup7, asTup8, asTup9, asAgg2, asAgg3, asAgg4, asAgg5, asAgg6, asAgg7, asAgg8, asAgg9, asAgg12, getD0, getD1, getD2, getD3, getD4, getD5, getD6, getD7, getD8, getD9, getD10, getD11, getD12, getD13, getD14, getD15, getD16, getD17, getD18, getD19, Bool.not_true, Bool.not_false, Bool.false_eq_true, Bool.true_eq_false, ↓reduceIte, decide_true, decide_false, Option.isNone_some, Option.isNone_none, Option.isSome_some, Option.isSome_none, beq_self_eq_true, bne_self_eq_false, Bool.and_true, Bool.true_and, Bool.and_false, Bool.false_and, not_true_eq_false, not_false_eq_true]
        refine wp_if (fun c2 => ?_) (fun c2 => ?_)
        · obtain ⟨w', r1, _, r3, _⟩ := retR b3 rfl f3 (Nat.le_refl _) rv0 (none, 0, 0)
          obtain ⟨w'', t1, t2, t3⟩ := b3.stL (vs := rv0.cs (none, 0, 0)) rfl (rvcs_oc _ _)
          refine wp_bind t1 (wp_some (.inr ⟨by simp, .inr ⟨rfl, rfl, rfl, ?_, t2, (f3.app t3).mono (by intro y hy hl; simp at hy; omega)⟩⟩))
          ((simp only [decide_eq_true_eq, beq_iff_eq, bne_iff_ne, ne_eq, Bool.not_eq_true', Decidable.not_not, Bool.not_eq_false'] at *))
          rw [← c2]
          exact List.getElem_mem hk'
        · rw [wrap_succ (n := k) (by omega)]
          refine wp_some (.inl ⟨rfl, ⟨k + 1, rfl, by omega, rfl, ?_⟩, by simp only; omega⟩)
          ((simp only [decide_eq_true_eq, beq_iff_eq, bne_iff_ne, ne_eq, Bool.not_eq_true', Decidable.not_not, Bool.not_eq_false'] at *))
          rw [List.take_succ_eq_append_getElem hk', List.mem_append]
          rintro (hh | hh)
          · exact hn hh
          · simp at hh; exact c2 hh.symm
      · simp only [decide_eq_true_eq] at c
        have : k = t.parts.length := by omega
        subst this
        rw [List.take_length] at hn
        exact wp_some (.inr ⟨by simp, .inl ⟨rfl, rfl, hn⟩⟩))
    (s := (false, 0, 0)) (w := w3) ⟨0, rfl, Nat.zero_le _, rfl, by simp⟩
  rcases hQ with ⟨rfl, rfl, hm⟩ | ⟨rfl, h1, h2, hm, hb, hf⟩
  · rw [g17_l85_x1_of g1]
    unfold g17_l85_x1
    have fa : Fr [] x (x.alloc (.cells #[.int .i64 part] 3)) := Fr.alloc _
    have ba := Blk.new x [.int .i64 part] 3
    obtain ⟨y, hy⟩ : ∃ y, x.alloc (.cells #[.int .i64 part] 3) = y := ⟨_, rfl⟩
    have ba' : Blk y x.heap.size [.int .i64 part] 3 := by rw [← hy]; exact ba
    rw [hy] at fa ⊢
    have z3 := f3.size
    have lb := b3.lt
    obtain ⟨x', a1, a2, a3, a4⟩ := retR (b3.fr fa (by simp)) rfl ((Fr.mono (Fr.app f3 fa) (by have z0_ := Fr.size f3; have z1_ := Fr.size fa; intro y_ hy_ hl_; grind [blkOf]))) (Nat.le_refl _) ⟨2, n, 0, 0, 0, [part], false⟩ (some ⟨x.heap.size, 0, none⟩, 1, 1)
    have ba2 := ba'.fr a4 (by simp; omega)
    simp only [a1, a2, obs, asP_pointer, asB_bool, asI_int, asS_string, asSl_slice, asM_map, asTup0, asTup1, asTup2, asTup3, asTup4, asTup5, asTup6, asTup7, asTup8, asTup9, asAgg2, asAgg3, asAgg4, asAgg5, asAgg6, asAgg7, asAgg8, asAgg9, asAgg12, getD0, getD1, getD2, getD3, getD4, getD5, getD6, getD7, getD8, getD9, getD10, getD11, getD12, getD13, getD14, getD15, getD16, getD17, getD18, getD19, Bool.not_true, Bool.not_false, Bool.false_eq_true, Bool.true_eq_false, ↓reduceIte, decide_true, decide_false, Option.isNone_some, Option.isNone_none, Option.isSome_some, Option.isSome_none, beq_self_eq_true, bne_self_eq_false, Bool.and_true, Bool.true_and, Bool.and_false, Bool.false_and, not_true_eq_false, not_false_eq_true]
    rw [hnot hm]
    refine wp_some ⟨(some ⟨x.heap.size, 0, none⟩, 1, 1), rfl, a3, ⟨rfl, fun _ => ⟨x.heap.size, 0, rfl, ba2.lt, fun j hj => ?_⟩⟩, fun y hy => by simp [blkOf] at hy; omega⟩
    have : j = 0 := by simp at hj; omega
    subst this
    exact ba2.cell 0
  · rw [g17_l85_ret_of g1]
    unfold g17_l85_ret
    obtain ⟨s1, s2, s3'⟩ := s
    simp only at h1 h2
    subst h1 h2
    have l := hb.ldN (n := 7) rfl
    simp only [RV.cs, rv0] at l
    simp only [l, obs, asP_pointer, asB_bool, asI_int, asS_string, asSl_slice, asM_map, asTup0, asTup1, asTup2, asTup3, asTup4, asTup5, asTup6, asTup7, asTup8, asTup9, asAgg2, asAgg3, asAgg4, asAgg5, asAgg6, asAgg7, asAgg8, asAgg9, asAgg12, getD0, getD1, getD2, getD3, getD4, getD5, getD6, getD7, getD8, getD9, getD10, getD11, getD12, getD13, getD14, getD15, getD16, getD17, getD18, getD19, Bool.not_true, Bool.not_false, Bool.false_eq_true, Bool.true_eq_false, ↓reduceIte, decide_true, decide_false, Option.isNone_some, Option.isNone_none, Option.isSome_some, Option.isSome_none, beq_self_eq_true, bne_self_eq_false, Bool.and_true, Bool.true_and, Bool.and_false, Bool.false_and, not_true_eq_false, not_false_eq_true]
    rw [hmem hm]
    exact wp_some ⟨(none, 0, 0), rfl, hf, ⟨rfl, by simp [rv0]⟩, by simp [blkOf]⟩
end
end Go.Proofs.Ytlcojbodcbjkaaa

namespace Go.Proofs.Ytlcojbodcbjkaaa
open Go Go.Ev
set_option maxRecDepth 100000
set_option linter.unusedVariables false
set_option linter.unusedSimpArgs false

/-! ## both ways to keep the parts come to one list -/
abbrev Up (l : List Int) : Prop := l.Pairwise (· < ·)
theorem wS_inv (n : Int) : ∀ (l : List Int) (st : List Int × Bool), Up (st.1 ++ l) → (st.2 = true → n ∈ st.1) → (st.2 = false → ∀ x ∈ st.1, x < n) →
    Up (l.foldl (wS n) st).1 ∧ (∀ x, x ∈ (l.foldl (wS n) st).1 ↔ x ∈ st.1 ∨ x ∈ l ∨ (x = n ∧ (l.foldl (wS n) st).2 = true)) ∧ ((l.foldl (wS n) st).2 = false → ∀ x ∈ (l.foldl (wS n) st).1, x < n) := by
  intro l
  induction l with
  | nil =>
    intro st h1 h2 h3
    rw [List.append_nil] at h1
    refine ⟨h1, fun x => ?_, h3⟩
    simp only [List.foldl_nil, List.not_mem_nil, false_or]
    constructor
    · exact .inl
    · rintro (h | ⟨rfl, h⟩)
      · exact h
      · exact h2 h
  | cons x l ih =>
    intro st h1 h2 h3
    rw [List.foldl_cons]
    have hx : Up (st.1 ++ [x] ++ l) := by simpa using h1
    by_cases c : n < x ∧ (if x = n then true else st.2) = false
    · have hst : st.2 = false := by
        have := c.2
        by_cases e : x = n
        · rw [if_pos e] at this; cases this
        · rw [if_neg e] at this; exact this
      have e : wS n st x = (st.1 ++ [n] ++ [x], true) := by unfold wS; rw [if_pos c]
      rw [e]
      have hup : Up (st.1 ++ [n] ++ [x] ++ l) := by
        have h3' := h3 hst
        have hc := c.1
        simp only [Up, List.pairwise_append, List.pairwise_cons, List.mem_append, List.mem_cons, List.not_mem_nil, or_false, List.append_assoc] at hx ⊢
        grind
      obtain ⟨k1, k2, k3⟩ := ih (st.1 ++ [n] ++ [x], true) hup (by simp) (by simp)
      refine ⟨k1, fun y => ?_, k3⟩
      rw [k2]
      have mono : ∀ (l : List Int) (st : List Int × Bool), st.2 = true → (l.foldl (wS n) st).2 = true := by
        intro l
        induction l with
        | nil => intro st h; exact h
        | cons y l ih2 =>
          intro st h
          rw [List.foldl_cons]
          refine ih2 _ ?_
          unfold wS
          rw [h]
          split <;> simp
      rw [mono l _ rfl]
      simp only [List.mem_append, List.mem_cons, List.not_mem_nil, or_false]
      grind
    · have e : wS n st x = (st.1 ++ [x], if x = n then true else st.2) := by unfold wS; rw [if_neg c]
      rw [e]
      obtain ⟨k1, k2, k3⟩ := ih (st.1 ++ [x], if x = n then true else st.2) hx (by
        by_cases h : x = n
        · simp [h]
        · simp only [if_neg h]; intro h'; simp [h2 h']) (by
        by_cases h : x = n
        · simp [h]
        · simp only [if_neg h] at c ⊢
          intro h' y hy
          have := h3 h'
          have hc : ¬ n < x := fun hh => c ⟨hh, h'⟩
          simp only [List.mem_append, List.mem_cons, List.not_mem_nil, or_false] at hy
          rcases hy with hy | rfl
          · exact this y hy
          · omega)
      refine ⟨k1, fun y => ?_, k3⟩
      rw [k2]
      simp only [List.mem_append, List.mem_cons, List.not_mem_nil, or_false]
      grind
theorem withP_up {l : List Int} (h : Up l) (n : Int) : Up (withP l n) ∧ ∀ x, x ∈ withP l n ↔ x ∈ l ∨ x = n := by
  obtain ⟨k1, k2, k3⟩ := wS_inv n l ([], false) (by simpa using h) (by simp) (by simp)
  unfold withP
  obtain ⟨r, hr⟩ : ∃ r, l.foldl (wS n) ([], false) = r := ⟨_, rfl⟩
  rw [hr] at k1 k2 k3 ⊢
  by_cases c : r.2 = true
  · rw [if_pos c]
    refine ⟨k1, fun x => ?_⟩
    rw [k2]
    simp [c]
  · have c' : r.2 = false := by simpa using c
    rw [if_neg c]
    refine ⟨?_, fun x => ?_⟩
    · have := k3 c'
      simp only [Up, List.pairwise_append, List.mem_cons, List.not_mem_nil, or_false]
      refine ⟨k1, by simp, fun a ha b hb => ?_⟩
      subst hb
      exact this a ha
    · rw [List.mem_append, k2]
      simp [c']
theorem foldW_up (ps : List Int) : ∀ {l : List Int}, Up l → Up (ps.foldl withP l) ∧ ∀ x, x ∈ ps.foldl withP l ↔ x ∈ l ∨ x ∈ ps := by
  induction ps with
  | nil => intro l h; exact ⟨h, by simp⟩
  | cons p ps ih =>
    intro l h
    obtain ⟨a1, a2⟩ := withP_up h p
    obtain ⟨b1, b2⟩ := ih a1
    refine ⟨b1, fun x => ?_⟩
    rw [List.foldl_cons, b2, a2]
    simp only [List.mem_cons]
    grind
theorem addAll_mem (ps : List Int) : ∀ {l : List Int}, l.Nodup → (addAll l ps).Nodup ∧ ∀ x, x ∈ addAll l ps ↔ x ∈ l ∨ x ∈ ps := by
  induction ps with
  | nil => intro l h; exact ⟨h, by simp [addAll]⟩
  | cons p ps ih =>
    intro l h
    have e : addAll l (p :: ps) = addAll (if p ∈ l then l else l ++ [p]) ps := rfl
    rw [e]
    have hn : (if p ∈ l then l else l ++ [p]).Nodup := by
      split
      · exact h
      · rename_i c
        rw [List.nodup_append]
        refine ⟨h, by simp, ?_⟩
        intro a ha b hb
        simp at hb
        subst hb
        intro hab
        exact c (hab ▸ ha)
    obtain ⟨b1, b2⟩ := ih hn
    refine ⟨b1, fun x => ?_⟩
    rw [b2]
    split
    · simp only [List.mem_cons]; grind
    · simp only [List.mem_append, List.mem_cons, List.not_mem_nil, or_false]; grind
theorem up_nodup {l : List Int} (h : Up l) : l.Nodup := h.imp (by intro a b; omega)
theorem parts_eq {l : List Int} (h : Up l) (ps : List Int) : isort (addAll l ps) = ps.foldl withP l := by
  obtain ⟨a1, a2⟩ := foldW_up ps h
  obtain ⟨b1, b2⟩ := addAll_mem ps (up_nodup h)
  refine (isort_of ?_ (a1.imp (by intro a b; omega))).symm
  rw [List.perm_ext_iff_of_nodup (up_nodup a1) b1]
  intro x
  rw [a2, b2]
theorem step_eq (r : RV) {t : TV} (h : Up t.parts) : stepT r t = stepR r t ∧ Up (stepR r t).parts := by
  unfold stepT stepR
  rw [parts_eq h]
  refine ⟨rfl, ?_⟩
  split
  · exact List.Pairwise.nil
  · split
    · exact (foldW_up r.parts h).1
    · split
      · exact h
      · split
        · exact List.Pairwise.nil
        · exact h
theorem txOf_up (L : List RV) (n : Int) : Up (txOf L n).parts := by
  have : ∀ (L : List RV) (t : TV), Up t.parts → Up (L.foldl (fun t r => if r.tx = n then stepR r t else t) t).parts := by
    intro L
    induction L with
    | nil => intro t h; exact h
    | cons r L ih =>
      intro t h
      rw [List.foldl_cons]
      refine ih _ ?_
      split
      · exact (step_eq r h).2
      · exact h
  exact this L tv0 List.Pairwise.nil
/-- what is in memory is what the records say -/
def Says (A : List (Int × TV)) (L : List RV) : Prop := ∀ n, tvOf A n = txOf L n
theorem Says.snoc {A : List (Int × TV)} {L : List RV} (h : Says A L) (r : RV) : Says (apA A r) (L ++ [r]) := by
  intro n
  rw [tvOf_apA, txOf_snoc, h n]
  by_cases e : n = r.tx
  · subst e
    rw [if_pos rfl, if_pos rfl]
    exact (step_eq r (txOf_up L _)).1
  · rw [if_neg e, if_neg (fun h => e h.symm)]
end Go.Proofs.Ytlcojbodcbjkaaa
