/-
  TxnNw: lemmas on what Go functions of this seat come to (for whatever arguments, as each says). No condition but those that stand in each lemma.
-/
import Derived.Test.YtlcojbodcbjkaaaTxnV6
import Derived.Test.YtlcojbodcbjkaaaTxnK
namespace Go.Proofs.Ytlcojbodcbjkaaa
open Go Go.Ev
set_option maxRecDepth 100000
set_option linter.unusedVariables false
set_option linter.unusedSimpArgs false

theorem same35 {w : World} {u v : Option Addr × Nat × Nat} {l : List Int} (hu : SlC w 1 u (intsV' l)) (hv : SlC w 1 v (intsV' l)) (hl : l.length ≤ 4611686018427387904) :
    ∃ w', callF Try.prog 35 #[.slice u.1 u.2.1 u.2.2, .slice v.1 v.2.1 v.2.2] w = some (.bool true, w') ∧ Fr [] w w' := by
  have hu0 := hu.1
  have hv0 := hv.1
  simp only [intsV', List.length_map] at hu0 hv0
  obtain ⟨t, w', g1, rfl, hf⟩ := loopS_countX 0 (b := g35_l3_b u v) (I := fun k s x => s = (false, (k : Int)) ∧ Fr [] w x) (n := l.length)
    (fun k s x hk ⟨hs, hf⟩ => by
      subst hs
      have fd := Fr.drew [] x
      have F : Fr [] w x.drew := (Fr.mono (Fr.app hf fd) (by have z0_ := Fr.size hf; have z1_ := Fr.size fd; intro y_ hy_ hl_; grind [blkOf]))
      obtain ⟨a, i1, c1⟩ := (hu.fr F (fun _ y _ => by simp)).get (i := k) (by simpa using hk)
      obtain ⟨b, i2, c2⟩ := (hv.fr F (fun _ y _ => by simp)).get (i := k) (by simpa using hk)
      have c1' : x.drew.cell? a = some (.int .i64 l[k]) := by rw [c1]; simp
      have c2' : x.drew.cell? b = some (.int .i64 l[k]) := by rw [c2]; simp
      have k1 : decide ((k : Int) < (u.2.1 : Int)) = true := by simp; omega
      have hw := wrap_succ (n := k) (by omega)
      refine ⟨_, x.drew, ?_, rfl, F⟩
      unfold g35_l3_b
      simp only [k1, i1, c1', i2, c2', hw, obs, asP_pointer, asB_bool, asI_int, asS_string, asSl_slice, asM_map, asTup0, asTup1, asTup2, asTup3, asTup4, asTup5, asTup6, asTup7, asTup8, asTup9, asAgg2, asAgg3, asAgg4, asAgg5, asAgg6, asAgg7, asAgg8, asAgg9, asAgg12, getD0, getD1, getD2, getD3, getD4, getD5, getD6, getD7, getD8, getD9, getD10, getD11, getD12, getD13, getD14, getD15, getD16, getD17, getD18, getD19, Bool.not_true, Bool.not_false, Bool.false_eq_true, Bool.true_eq_false, ↓reduceIte, decide_true, decide_false, Option.isNone_some, Option.isNone_none, Option.isSome_some, Option.isSome_none, beq_self_eq_true, bne_self_eq_false, Bool.and_true, Bool.true_and, Bool.and_false, Bool.false_and, not_true_eq_false, not_false_eq_true])
    (fun s x ⟨hs, _⟩ => by
      subst hs
      unfold g35_l3_b
      have k1 : decide ((l.length : Int) < (u.2.1 : Int)) = false := by simp; omega
      simp only [k1, Bool.false_eq_true, if_false]) (k := 0) (s := (false, 0)) (w := w) (Nat.zero_le _) ⟨rfl, Fr.refl _ _⟩
  refine ⟨w', g35_call ?_, hf⟩
  unfold g35
  have k0 : ((u.2.1 : Int) != (v.2.1 : Int)) = false := by simp; omega
  simp only [k0, obs, asP_pointer, asB_bool, asI_int, asS_string, asSl_slice, asM_map, asTup0, asTup1, asTup2, asTup3, asTup4, asTup5, asTup6, asTup7, asTup8, asTup9, asAgg2, asAgg3, asAgg4, asAgg5, asAgg6, asAgg7, asAgg8, asAgg9, asAgg12, getD0, getD1, getD2, getD3, getD4, getD5, getD6, getD7, getD8, getD9, getD10, getD11, getD12, getD13, getD14, getD15, getD16, getD17, getD18, getD19, Bool.not_true, Bool.not_false, Bool.false_eq_true, Bool.true_eq_false, ↓reduceIte, decide_true, decide_false, Option.isNone_some, Option.isNone_none, Option.isSome_some, Option.isSome_none, beq_self_eq_true, bne_self_eq_false, Bool.and_true, Bool.true_and, Bool.and_false, Bool.false_and, not_true_eq_false, not_false_eq_true]
  rw [g35_l3_x0_of g1, g35_l3_x0]

theorem own12 (w : World) (r : RV) {q : Option Addr × Nat × Nat} (hu : SlC w 1 q (intsV' r.parts)) (hl : r.parts.length ≤ 1099511627776) : ∃ v w', callF Try.prog 12 #[r.arg q] w = some (r.arg v, w') ∧ Own w' 3 1 v (intsV' r.parts) ∧ Fr [] w w' ∧ ∀ y ∈ blkOf v, w.heap.size ≤ y := by
  have fa : Fr [] w (w.alloc (.cells #[.int .i64 r.k, .int .i64 r.tx, .int .i64 r.inc, .int .u64 r.pid, .int .i64 r.ep, .slice q.1 q.2.1 q.2.2, .bool r.com] 30)) := Fr.alloc _
  have ba := Blk.new w (r.cs q) 30
  change Blk (w.alloc (.cells #[.int .i64 r.k, .int .i64 r.tx, .int .i64 r.inc, .int .u64 r.pid, .int .i64 r.ep, .slice q.1 q.2.1 q.2.2, .bool r.com] 30)) _ _ _ at ba
  obtain ⟨w1, hw1⟩ : ∃ w1, w.alloc (.cells #[.int .i64 r.k, .int .i64 r.tx, .int .i64 r.inc, .int .u64 r.pid, .int .i64 r.ep, .slice q.1 q.2.1 q.2.2, .bool r.com] 30) = w1 := ⟨_, rfl⟩
  rw [hw1] at fa ba
  obtain ⟨bz, fz⟩ := zero30 w1
  obtain ⟨w2, hw2⟩ : ∃ w2, w1.alloc (.cells #[.int .i64 0, .int .i64 0, .int .i64 0, .int .u64 0, .int .i64 0, .slice none 0 0, .bool false] 30) = w2 := ⟨_, rfl⟩
  rw [hw2] at bz fz
  have F2 : Fr [] w w2 := (Fr.mono (Fr.app fa fz) (by have z0_ := Fr.size fa; have z1_ := Fr.size fz; intro y_ hy_ hl_; grind [blkOf]))
  have hq := hu.1
  simp only [intsV', List.length_map] at hq
  have hml : maxLen = 9223372036854775807 := by decide
  obtain ⟨v, w3, e3, o3, f3, n3, _⟩ := app_empty t28 (hu.fr F2 (by simp)) (by intro y hy; obtain ⟨z, _, rfl⟩ := List.mem_map.mp hy; rfl) (by omega) (by omega) 28 #[false, false]
  have fe : Fr [] w2 (w2.alloc (.cells #[] 3)) := Fr.alloc _
  have c5 : (w2.alloc (.cells #[] 3)).cell? ⟨w.heap.size, 5, none⟩ = some (.slice q.1 q.2.1 q.2.2) := ((ba.fr fz (by simp)).fr fe (by simp)).cell 5
  have b3 := (ba.fr fz (by simp)).fr f3 (by simp)
  have z3 := bz.fr f3 (by simp)
  have z1 := fa.size
  have z2 := fz.size
  obtain ⟨w4, hw4⟩ : ∃ w4, w3.setCell ⟨w.heap.size, 5, none⟩ (.slice v.1 v.2.1 v.2.2) = w4 := ⟨_, rfl⟩
  have s4 : st1 w3 ⟨w.heap.size, 5, none⟩ (.slice v.1 v.2.1 v.2.2) = some w4 := by rw [← hw4]; exact b3.st1 (by simp [RV.cs]) rfl
  have b4 : Blk w4 w.heap.size (r.cs v) 30 := by rw [← hw4]; exact b3.set 5 _
  have f4 : Fr [w.heap.size] w3 w4 := by rw [← hw4]; exact Fr.setCell
  have l4 := b4.ldN (n := 7) rfl
  have lb := ba.lt
  have z4 := z3.fr f4 (by simp; omega)
  have F4 : Fr [] w w4 := ((Fr.mono (Fr.app F2 f3) (by have z0_ := Fr.size F2; have z1_ := Fr.size f3; intro y_ hy_ hl_; grind [blkOf])) : Fr [] w w3).app f4 |>.mono (by intro y hy hl; simp at hy; omega)
  obtain ⟨w', r1, r2, r3, r4⟩ := retR z4 rfl F4 z1 r v
  have o4 := (o3.fr f4 (by intro y hy hm; simp at hm; have := n3 y hy; omega)).fr r4 (by intro y hy hm; simp at hm; have := n3 y hy; have := bz.lt; omega)
  refine ⟨v, w', g12_call ?_, o4, r3, fun y hy => by have := n3 y hy; omega⟩
  unfold g12
  simp only [hw1, hw2]
  simp only [RV.cs] at l4
  simp only [addr_add, Nat.zero_add, c5, e3, s4, l4, r1, r2, obs, asP_pointer, asB_bool, asI_int, asS_string, asSl_slice, asM_map, asTup0, asTup1, asTup2, asTup3, asTup4, asTup5, asTup6, asTup7, asTup8, asTup9, asAgg2, asAgg3, asAgg4, asAgg5, asAgg6, asAgg7, asAgg8, asAgg9, asAgg12, getD0, getD1, getD2, getD3, getD4, getD5, getD6, getD7, getD8, getD9, getD10, getD11, getD12, getD13, getD14, getD15, getD16, getD17, getD18, getD19, Bool.not_true, Bool.not_false, Bool.false_eq_true, Bool.true_eq_false, ↓reduceIte, decide_true, decide_false, Option.isNone_some, Option.isNone_none, Option.isSome_some, Option.isSome_none, beq_self_eq_true, bne_self_eq_false, Bool.and_true, Bool.true_and, Bool.and_false, Bool.false_and, not_true_eq_false, not_false_eq_true]
  rfl

theorem sameTx22 (w : World) (r : TV) {q1 q2 : Option Addr × Nat × Nat} (hu : SlC w 1 q1 (intsV' r.parts)) (hv : SlC w 1 q2 (intsV' r.parts)) (hl : r.parts.length ≤ 4611686018427387904) : ∃ w', callF Try.prog 22 #[r.arg q1, r.arg q2] w = some (.bool true, w') ∧ Fr [] w w' := by
  have fa : Fr [] w (w.alloc (.cells #[.int .i64 r.st, .int .i64 r.inc, .int .u64 r.pid, .int .i64 r.ep, .slice q1.1 q1.2.1 q1.2.2, .int .i64 r.last, .int .u64 r.lpid, .bool r.com] 46)) := Fr.alloc _
  have ba := Blk.new w (r.cs q1) 46
  change Blk (w.alloc (.cells #[.int .i64 r.st, .int .i64 r.inc, .int .u64 r.pid, .int .i64 r.ep, .slice q1.1 q1.2.1 q1.2.2, .int .i64 r.last, .int .u64 r.lpid, .bool r.com] 46)) _ _ _ at ba
  obtain ⟨w1, hw1⟩ : ∃ w1, w.alloc (.cells #[.int .i64 r.st, .int .i64 r.inc, .int .u64 r.pid, .int .i64 r.ep, .slice q1.1 q1.2.1 q1.2.2, .int .i64 r.last, .int .u64 r.lpid, .bool r.com] 46) = w1 := ⟨_, rfl⟩
  rw [hw1] at fa ba
  have fb : Fr [] w1 (w1.alloc (.cells #[.int .i64 r.st, .int .i64 r.inc, .int .u64 r.pid, .int .i64 r.ep, .slice q2.1 q2.2.1 q2.2.2, .int .i64 r.last, .int .u64 r.lpid, .bool r.com] 46)) := Fr.alloc _
  have bb := Blk.new w1 (r.cs q2) 46
  change Blk (w1.alloc (.cells #[.int .i64 r.st, .int .i64 r.inc, .int .u64 r.pid, .int .i64 r.ep, .slice q2.1 q2.2.1 q2.2.2, .int .i64 r.last, .int .u64 r.lpid, .bool r.com] 46)) _ _ _ at bb
  obtain ⟨w2, hw2⟩ : ∃ w2, w1.alloc (.cells #[.int .i64 r.st, .int .i64 r.inc, .int .u64 r.pid, .int .i64 r.ep, .slice q2.1 q2.2.1 q2.2.2, .int .i64 r.last, .int .u64 r.lpid, .bool r.com] 46) = w2 := ⟨_, rfl⟩
  rw [hw2] at fb bb
  have ba2 := ba.fr fb (by simp)
  have F : Fr [] w w2 := (Fr.mono (Fr.app fa fb) (by have z0_ := Fr.size fa; have z1_ := Fr.size fb; intro y_ hy_ hl_; grind [blkOf]))
  obtain ⟨w3, e3, f3⟩ := same35 (hu.fr F (by simp)) (hv.fr F (by simp)) hl
  have a0 : w2.cell? ⟨w.heap.size, 0, none⟩ = some (.int .i64 r.st) := ba2.cell 0
  have b0 : w2.cell? ⟨w1.heap.size, 0, none⟩ = some (.int .i64 r.st) := bb.cell 0
  have a1 : w2.cell? ⟨w.heap.size, 1, none⟩ = some (.int .i64 r.inc) := ba2.cell 1
  have b1 : w2.cell? ⟨w1.heap.size, 1, none⟩ = some (.int .i64 r.inc) := bb.cell 1
  have a2 : w2.cell? ⟨w.heap.size, 2, none⟩ = some (.int .u64 r.pid) := ba2.cell 2
  have b2 : w2.cell? ⟨w1.heap.size, 2, none⟩ = some (.int .u64 r.pid) := bb.cell 2
  have a3 : w2.cell? ⟨w.heap.size, 3, none⟩ = some (.int .i64 r.ep) := ba2.cell 3
  have b3 : w2.cell? ⟨w1.heap.size, 3, none⟩ = some (.int .i64 r.ep) := bb.cell 3
  have a4 : w2.cell? ⟨w.heap.size, 4, none⟩ = some (.slice q1.1 q1.2.1 q1.2.2) := ba2.cell 4
  have b4 : w2.cell? ⟨w1.heap.size, 4, none⟩ = some (.slice q2.1 q2.2.1 q2.2.2) := bb.cell 4
  have a5 : w2.cell? ⟨w.heap.size, 5, none⟩ = some (.int .i64 r.last) := ba2.cell 5
  have b5 : w2.cell? ⟨w1.heap.size, 5, none⟩ = some (.int .i64 r.last) := bb.cell 5
  have a6 : w2.cell? ⟨w.heap.size, 6, none⟩ = some (.int .u64 r.lpid) := ba2.cell 6
  have b6 : w2.cell? ⟨w1.heap.size, 6, none⟩ = some (.int .u64 r.lpid) := bb.cell 6
  have a7 : w2.cell? ⟨w.heap.size, 7, none⟩ = some (.bool r.com) := ba2.cell 7
  have b7 : w2.cell? ⟨w1.heap.size, 7, none⟩ = some (.bool r.com) := bb.cell 7
  have s1 : ∀ z : Int, (z == z) = true := fun z => by simp
  have s2 : ∀ z : Bool, (z == z) = true := fun z => by simp
  refine ⟨w3, g22_call ?_, (Fr.mono (Fr.app F f3) (by have z0_ := Fr.size F; have z1_ := Fr.size f3; intro y_ hy_ hl_; grind [blkOf]))⟩
  unfold g22
  rw [hw1, hw2]
  simp only [a0, b0, a1, b1, a2, b2, a3, b3, a4, b4, a5, b5, a6, b6, a7, b7, s1, s2, addr_add, Nat.zero_add, e3, obs, asP_pointer, asB_bool, asI_int, asS_string, asSl_slice, asM_map, asTup0, asTup1, asTup2, asTup3, asTup4, asTup5, asTup6, asTup7, asTup8, asTup9, asAgg2, asAgg3, asAgg4, asAgg5, asAgg6, asAgg7, asAgg8, asAgg9, asAgg12, getD0, getD1, getD2, getD3, getD4, getD5, getD6, getD7, getD8, getD9, getD10, getD11, getD12, getD13, getD14, getD15, getD16, getD17, getD18, getD19, Bool.not_true, Bool.not_false, Bool.false_eq_true, Bool.true_eq_false, ↓reduceIte, decide_true, decide_false, Option.isNone_some, Option.isNone_none, Option.isSome_some, Option.isSome_none, beq_self_eq_true, bne_self_eq_false, Bool.and_true, Bool.true_and, Bool.and_false, Bool.false_and, not_true_eq_false, not_false_eq_true]



end Go.Proofs.Ytlcojbodcbjkaaa
