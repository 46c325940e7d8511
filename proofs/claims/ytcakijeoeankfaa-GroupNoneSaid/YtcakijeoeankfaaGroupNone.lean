/-
  GroupNone: lemmas on what Go functions of this seat come to (for whatever arguments, as each says). No condition but those that stand in each lemma.
-/
import Derived.Test.YtcakijeoeankfaaGroupL8
import Derived.Test.YtcakijeoeankfaaGroupD
namespace Go.Proofs.Ytcakijeoeankfaa
open Go Go.Ev
set_option maxRecDepth 100000
set_option linter.unusedVariables false
set_option linter.unusedSimpArgs false

theorem join25n (w : World) (n m : Int) (b : Bool) : ∃ w', callF Try.prog 25 #[.pointer none, .int .i64 n, .int .i64 m, .bool b] w = some (.tuple #[gv0.arg (none, 0, 0), .bool false, .int .i64 5], w') ∧ Fr [] w w' := by
  have f1 : Fr [] w (w.alloc (.cells #[.int .i64 m] 3)) := Fr.alloc _
  obtain ⟨w1, hw1⟩ : ∃ w1, w.alloc (.cells #[.int .i64 m] 3) = w1 := ⟨_, rfl⟩
  rw [hw1] at f1
  obtain ⟨b2, f2⟩ := zero27 w1
  obtain ⟨w2, hw2⟩ : ∃ w2, w1.alloc (.cells #[.int .i64 0, .int .i64 0, .int .i64 0, .slice none 0 0, .int .i64 0, .int .i64 0] 27) = w2 := ⟨_, rfl⟩
  rw [hw2] at b2 f2
  have z1 := f1.size
  obtain ⟨w', r1, r2, r3, _⟩ := retG b2 rfl ((Fr.mono (Fr.app f1 f2) (by have z0_ := Fr.size f1; have z1_ := Fr.size f2; intro y_ hy_ hl_; grind [blkOf])) : Fr [] w w2) z1 gv0 (none, 0, 0)
  simp only [gv0] at r1 r2
  refine ⟨w', g25_call ?_, r3⟩
  unfold g25
  simp only [hw1, hw2, r1, r2, obs, asP_pointer, asB_bool, asI_int, asS_string, asSl_slice, asM_map, asTup0, asTup1, asTup2, asTup3, asTup4, asTup5, asTup6, asTup7, asTup8, asTup9, asAgg2, asAgg3, asAgg4, asAgg5, asAgg6, asAgg7, asAgg8, asAgg9, asAgg12, getD0, getD1, getD2, getD3, getD4, getD5, getD6, getD7, getD8, getD9, getD10, getD11, getD12, getD13, getD14, getD15, getD16, getD17, getD18, getD19, Bool.not_true, Bool.not_false, Bool.false_eq_true, Bool.true_eq_false, ↓reduceIte, decide_true, decide_false, Option.isNone_some, Option.isNone_none, Option.isSome_some, Option.isSome_none, beq_self_eq_true, bne_self_eq_false, Bool.and_true, Bool.true_and, Bool.and_false, Bool.false_and, not_true_eq_false, not_false_eq_true]
  rfl
theorem commit26n (w : World) (n m g p o : Int) : ∃ w', callF Try.prog 26 #[.pointer none, .int .i64 n, .int .i64 m, .int .i64 g, .int .i64 p, .int .i64 o] w = some (.tuple #[gv0.arg (none, 0, 0), .int .i64 5], w') ∧ Fr [] w w' := by
  obtain ⟨b1, f1⟩ := zero27 w
  obtain ⟨w1, hw1⟩ : ∃ w1, w.alloc (.cells #[.int .i64 0, .int .i64 0, .int .i64 0, .slice none 0 0, .int .i64 0, .int .i64 0] 27) = w1 := ⟨_, rfl⟩
  rw [hw1] at b1 f1
  obtain ⟨w2, s2, b2, f2, _⟩ := newG w1 ⟨2, n, 0, [], p, o⟩ (none, 0, 0)
  have b12 := b1.fr f2 (by simp)
  obtain ⟨w', r1, r2, r3, _⟩ := retG b12 rfl ((Fr.mono (Fr.app f1 f2) (by have z0_ := Fr.size f1; have z1_ := Fr.size f2; intro y_ hy_ hl_; grind [blkOf])) : Fr [] w w2) (Nat.le_refl _) gv0 (none, 0, 0)
  simp only [gv0] at r1 r2
  refine ⟨w', g26_call ?_, r3⟩
  unfold g26
  simp only [hw1, s2, r1, r2, obs, asP_pointer, asB_bool, asI_int, asS_string, asSl_slice, asM_map, asTup0, asTup1, asTup2, asTup3, asTup4, asTup5, asTup6, asTup7, asTup8, asTup9, asAgg2, asAgg3, asAgg4, asAgg5, asAgg6, asAgg7, asAgg8, asAgg9, asAgg12, getD0, getD1, getD2, getD3, getD4, getD5, getD6, getD7, getD8, getD9, getD10, getD11, getD12, getD13, getD14, getD15, getD16, getD17, getD18, getD19, Bool.not_true, Bool.not_false, Bool.false_eq_true, Bool.true_eq_false, ↓reduceIte, decide_true, decide_false, Option.isNone_some, Option.isNone_none, Option.isSome_some, Option.isSome_none, beq_self_eq_true, bne_self_eq_false, Bool.and_true, Bool.true_and, Bool.and_false, Bool.false_and, not_true_eq_false, not_false_eq_true]
  rfl

theorem GroupNone_main (W : World) (cs0 : List Value) (x0 : (Ty.Val (.cons (.int .i64) (.cons (.int .i64) (.cons (.int .i64) (.cons (.int .i64) (.cons (.int .i64) (.cons (.int .i64) (.cons .bool (.cons (.int .u64) (.cons (.cons (.int .i64) (.cons (.int .i64) (.cons (.int .u64) (.cons (.int .i64) (.cons (.int .i64) (.cons .bool (.cons .bool (.cons .bool (.cons (.slice (.slice (.int .u8))) .nil))))))))) .nil))))))))))) (h0 : Ty.At W (.cons (.int .i64) (.cons (.int .i64) (.cons (.int .i64) (.cons (.int .i64) (.cons (.int .i64) (.cons (.int .i64) (.cons .bool (.cons (.int .u64) (.cons (.cons (.int .i64) (.cons (.int .i64) (.cons (.int .u64) (.cons (.int .i64) (.cons (.int .i64) (.cons .bool (.cons .bool (.cons .bool (.cons (.slice (.slice (.int .u8))) .nil))))))))) .nil))))))))) cs0 x0) :
    ∃ w', callF Try.prog 8 #[.agg cs0.toArray] W = some (.bool true, w') ∧ Fr [] W w' := by
  obtain ⟨c1, d1, rfl, _, ⟨rfl, _⟩, c2, d2, rfl, _, ⟨rfl, _⟩, c3, d3, rfl, _, ⟨rfl, _⟩, c4, d4, rfl, _, ⟨rfl, _⟩, c5, d5, rfl, _, ⟨rfl, _⟩, c6, d6, rfl, _, ⟨rfl, _⟩, c7, d7, rfl, _, rfl, c8, d8, rfl, _, ⟨rfl, _⟩, c9, d9, rfl, _, ⟨e1, g1, rfl, _, ⟨rfl, _⟩, e2, g2, rfl, _, ⟨rfl, _⟩, e3, g3, rfl, _, ⟨rfl, _⟩, e4, g4, rfl, _, ⟨rfl, _⟩, e5, g5, rfl, _, ⟨rfl, _⟩, e6, g6, rfl, _, rfl, e7, g7, rfl, _, rfl, e8, g8, rfl, _, rfl, e9, g9, rfl, _, ⟨rfl, _⟩, rfl⟩, rfl⟩ := h0
  obtain ⟨c0, c1, c2, c3, c4, c5, c6, c7, ⟨r0, r1, r2, r3, r4, r5, r6, r7, ⟨r8, vs⟩, _⟩, _⟩ := x0
  simp only at *
  have fa : Fr [] W (W.alloc (.cells #[.int .i64 c0, .int .i64 c1, .int .i64 c2, .int .i64 c3, .int .i64 c4, .int .i64 c5, .bool c6, .int .u64 c7, .int .i64 r0, .int .i64 r1, .int .u64 r2, .int .i64 r3, .int .i64 r4, .bool r5, .bool r6, .bool r7, .slice r8.1 r8.2.1 r8.2.2] 62)) := Fr.alloc _
  have bb := Blk.new W [.int .i64 c0, .int .i64 c1, .int .i64 c2, .int .i64 c3, .int .i64 c4, .int .i64 c5, .bool c6, .int .u64 c7, .int .i64 r0, .int .i64 r1, .int .u64 r2, .int .i64 r3, .int .i64 r4, .bool r5, .bool r6, .bool r7, .slice r8.1 r8.2.1 r8.2.2] 62
  change Blk (W.alloc (.cells #[.int .i64 c0, .int .i64 c1, .int .i64 c2, .int .i64 c3, .int .i64 c4, .int .i64 c5, .bool c6, .int .u64 c7, .int .i64 r0, .int .i64 r1, .int .u64 r2, .int .i64 r3, .int .i64 r4, .bool r5, .bool r6, .bool r7, .slice r8.1 r8.2.1 r8.2.2] 62)) _ _ _ at bb
  obtain ⟨v, hv⟩ : ∃ v, W.alloc (.cells #[.int .i64 c0, .int .i64 c1, .int .i64 c2, .int .i64 c3, .int .i64 c4, .int .i64 c5, .bool c6, .int .u64 c7, .int .i64 r0, .int .i64 r1, .int .u64 r2, .int .i64 r3, .int .i64 r4, .bool r5, .bool r6, .bool r7, .slice r8.1 r8.2.1 r8.2.2] 62) = v := ⟨_, rfl⟩
  rw [hv] at fa bb
  have ld : ldN v ⟨W.heap.size, 8, none⟩ 0 9 = some [.int .i64 r0, .int .i64 r1, .int .u64 r2, .int .i64 r3, .int .i64 r4, .bool r5, .bool r6, .bool r7, .slice r8.1 r8.2.1 r8.2.2] := ldN_of_cells (cs := [.int .i64 r0, .int .i64 r1, .int .u64 r2, .int .i64 r3, .int .i64 r4, .bool r5, .bool r6, .bool r7, .slice r8.1 r8.2.1 r8.2.2]) (i := 0) fun j hj => by
    have := bb.cell (8 + j)
    rw [addr_add, Nat.zero_add]
    rw [this]
    have hj' : j < 9 := hj
    match j, hj' with
    | 0, _ => rfl
    | 1, _ => rfl
    | 2, _ => rfl
    | 3, _ => rfl
    | 4, _ => rfl
    | 5, _ => rfl
    | 6, _ => rfl
    | 7, _ => rfl
    | 8, _ => rfl
  have f1 : Fr [] v (v.alloc (.cells #[.int .i64 r0, .int .i64 r1, .int .u64 r2, .int .i64 r3, .int .i64 r4, .bool r5, .bool r6, .bool r7, .slice r8.1 r8.2.1 r8.2.2] 50)) := Fr.alloc _
  obtain ⟨u, hu⟩ : ∃ u, v.alloc (.cells #[.int .i64 r0, .int .i64 r1, .int .u64 r2, .int .i64 r3, .int .i64 r4, .bool r5, .bool r6, .bool r7, .slice r8.1 r8.2.1 r8.2.2] 50) = u := ⟨_, rfl⟩
  rw [hu] at f1
  have e20 : callF Try.prog 20 #[.pointer none, .agg #[.int .i64 r0, .int .i64 r1, .int .u64 r2, .int .i64 r3, .int .i64 r4, .bool r5, .bool r6, .bool r7, .slice r8.1 r8.2.1 r8.2.2]] v = some (.tuple #[], u) :=
    g20_call (u0 := none) (u1c0 := r0) (u1c1 := r1) (u1c2 := r2) (u1c3 := r3) (u1c4 := r4) (u1c5 := r5) (u1c6 := r6) (u1c7 := r7) (u1c8 := r8) (by unfold g20; simp only [Option.isNone_none, if_true, hu])
  have e23 : ∀ w n, callF Try.prog 23 #[.pointer none, .int .i64 n] w = some (.tuple #[.int .i64 0, .slice none 0 0], w) := fun w n => g23_call (by unfold g23; simp only [obs, asP_pointer, asB_bool, asI_int, asS_string, asSl_slice, asM_map, asTup0, asTup1, asTup2, asTup3, asTup4, asTup5, asTup6, asTup7, asTup8, asTup9, asAgg2, asAgg3, asAgg4, asAgg5, asAgg6, asAgg7, asAgg8, asAgg9, asAgg12, getD0, getD1, getD2, getD3, getD4, getD5, getD6, getD7, getD8, getD9, getD10, getD11, getD12, getD13, getD14, getD15, getD16, getD17, getD18, getD19, Bool.not_true, Bool.not_false, Bool.false_eq_true, Bool.true_eq_false, ↓reduceIte, decide_true, decide_false, Option.isNone_some, Option.isNone_none, Option.isSome_some, Option.isSome_none, beq_self_eq_true, bne_self_eq_false, Bool.and_true, Bool.true_and, Bool.and_false, Bool.false_and, not_true_eq_false, not_false_eq_true])
  have e22 : ∀ w n m, callF Try.prog 22 #[.pointer none, .int .i64 n, .int .i64 m] w = some (.tuple #[.int .i64 0, .int .i64 5], w) := fun w n m => g22_call (by unfold g22; simp only [obs, asP_pointer, asB_bool, asI_int, asS_string, asSl_slice, asM_map, asTup0, asTup1, asTup2, asTup3, asTup4, asTup5, asTup6, asTup7, asTup8, asTup9, asAgg2, asAgg3, asAgg4, asAgg5, asAgg6, asAgg7, asAgg8, asAgg9, asAgg12, getD0, getD1, getD2, getD3, getD4, getD5, getD6, getD7, getD8, getD9, getD10, getD11, getD12, getD13, getD14, getD15, getD16, getD17, getD18, getD19, Bool.not_true, Bool.not_false, Bool.false_eq_true, Bool.true_eq_false, ↓reduceIte, decide_true, decide_false, Option.isNone_some, Option.isNone_none, Option.isSome_some, Option.isSome_none, beq_self_eq_true, bne_self_eq_false, Bool.and_true, Bool.true_and, Bool.and_false, Bool.false_and, not_true_eq_false, not_false_eq_true])
  have e27 : ∀ w, callF Try.prog 27 #[.pointer none] w = some (.slice none 0 0, w) := fun w => g27_call (by unfold g27; simp only [obs, asP_pointer, asB_bool, asI_int, asS_string, asSl_slice, asM_map, asTup0, asTup1, asTup2, asTup3, asTup4, asTup5, asTup6, asTup7, asTup8, asTup9, asAgg2, asAgg3, asAgg4, asAgg5, asAgg6, asAgg7, asAgg8, asAgg9, asAgg12, getD0, getD1, getD2, getD3, getD4, getD5, getD6, getD7, getD8, getD9, getD10, getD11, getD12, getD13, getD14, getD15, getD16, getD17, getD18, getD19, Bool.not_true, Bool.not_false, Bool.false_eq_true, Bool.true_eq_false, ↓reduceIte, decide_true, decide_false, Option.isNone_some, Option.isNone_none, Option.isSome_some, Option.isSome_none, beq_self_eq_true, bne_self_eq_false, Bool.and_true, Bool.true_and, Bool.and_false, Bool.false_and, not_true_eq_false, not_false_eq_true])
  obtain ⟨w1, i1, k1⟩ := join25n u c1 c2 c6
  obtain ⟨w2, s2, b2, k2, _⟩ := newG w1 gv0 (none, 0, 0)
  obtain ⟨w3, i3, k3⟩ := commit26n w2 c1 c2 c3 c4 c5
  obtain ⟨w4, s4, b4, k4, _⟩ := newG w3 gv0 (none, 0, 0)
  obtain ⟨w5, i5, k5⟩ := awake9 w4
  have B1 := bb.fr f1 (by simp)
  have B2 := (B1.fr k1 (by simp)).fr k2 (by simp)
  have a1 : u.cell? ⟨W.heap.size, 1, none⟩ = some (.int .i64 c1) := B1.cell 1
  have a2 : u.cell? ⟨W.heap.size, 2, none⟩ = some (.int .i64 c2) := B1.cell 2
  have a4 : u.cell? ⟨W.heap.size, 4, none⟩ = some (.int .i64 c4) := B1.cell 4
  have a6 : u.cell? ⟨W.heap.size, 6, none⟩ = some (.bool c6) := B1.cell 6
  have d1 : w2.cell? ⟨W.heap.size, 1, none⟩ = some (.int .i64 c1) := B2.cell 1
  have d2 : w2.cell? ⟨W.heap.size, 2, none⟩ = some (.int .i64 c2) := B2.cell 2
  have d3 : w2.cell? ⟨W.heap.size, 3, none⟩ = some (.int .i64 c3) := B2.cell 3
  have d4 : w2.cell? ⟨W.heap.size, 4, none⟩ = some (.int .i64 c4) := B2.cell 4
  have d5 : w2.cell? ⟨W.heap.size, 5, none⟩ = some (.int .i64 c5) := B2.cell 5
  have y2 : w5.cell? ⟨w1.heap.size, 0, none⟩ = some (.int .i64 0) := (((b2.fr k3 (by simp)).fr k4 (by simp)).fr k5 (by simp)).cell 0
  have y4 : w5.cell? ⟨w3.heap.size, 0, none⟩ = some (.int .i64 0) := (b4.fr k5 (by simp)).cell 0
  simp only [gv0, GV.arg] at i1 i3 s2 s4
  refine ⟨w5, g8_call (u0c0 := c0) (u0c1 := c1) (u0c2 := c2) (u0c3 := c3) (u0c4 := c4) (u0c5 := c5) (u0c6 := c6) (u0c7 := c7) (u0c8 := r0) (u0c9 := r1) (u0c10 := r2) (u0c11 := r3) (u0c12 := r4) (u0c13 := r5) (u0c14 := r6) (u0c15 := r7) (u0c16 := r8) ?_, (Fr.mono (Fr.app (Fr.app (Fr.app (Fr.app (Fr.app (Fr.app fa f1) k1) k2) k3) k4) k5) (by have z0_ := Fr.size fa; have z1_ := Fr.size f1; have z2_ := Fr.size k1; have z3_ := Fr.size k2; have z4_ := Fr.size k3; have z5_ := Fr.size k4; have z6_ := Fr.size k5; intro y_ hy_ hl_; grind [blkOf]))⟩
  unfold g8
  rw [hv]
  simp only [addr_add, Nat.zero_add, ld, e20, a1, a2, a4, a6, e23, e22, i1, s2, d1, d2, d3, d4, d5, i3, s4, i5, y2, y4, e27, obs, asP_pointer, asB_bool, asI_int, asS_string, asSl_slice, asM_map, asTup0, asTup1, asTup2, asTup3, asTup4, asTup5, asTup6, asTup7, asTup8, asTup9, asAgg2, asAgg3, asAgg4, asAgg5, asAgg6, asAgg7, asAgg8, asAgg9, asAgg12, getD0, getD1, getD2, getD3, getD4, getD5, getD6, getD7, getD8, getD9, getD10, getD11, getD12, getD13, getD14, getD15, getD16, getD17, getD18, getD19, Bool.not_true, Bool.not_false, Bool.false_eq_true, Bool.true_eq_false, ↓reduceIte, decide_true, decide_false, Option.isNone_some, Option.isNone_none, Option.isSome_some, Option.isSome_none, beq_self_eq_true, bne_self_eq_false, Bool.and_true, Bool.true_and, Bool.and_false, Bool.false_and, not_true_eq_false, not_false_eq_true]
  rfl
end Go.Proofs.Ytcakijeoeankfaa
