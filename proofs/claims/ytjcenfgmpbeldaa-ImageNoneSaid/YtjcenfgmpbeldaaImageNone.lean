/-
  ImageNone: lemmas on what Go functions of this seat come to (for whatever arguments, as each says). No condition but those that stand in each lemma.
-/
import Derived.Test.YtjcenfgmpbeldaaImageL7
import Derived.Test.YtjcenfgmpbeldaaImageO
namespace Go.Proofs.Ytjcenfgmpbeldaa
open Go Go.Ev
set_option maxRecDepth 100000
set_option linter.unusedVariables false
set_option linter.unusedSimpArgs false

theorem part15nil (w : World) (k : Int) : ∃ w', callF Try.prog 15 #[.pointer none, .int .i64 k] w = some (.tuple #[pv0.arg nl nl nl, .bool false], w') ∧ Fr [] w w' := by
  obtain ⟨b1, f1⟩ := zero30 w
  obtain ⟨w1, hw1⟩ : ∃ w1, w.alloc (.cells #[.int .i64 0, .int .i64 0, .int .i64 0, .slice none 0 0, .slice none 0 0, .slice none 0 0] 30) = w1 := ⟨_, rfl⟩
  rw [hw1] at b1 f1
  obtain ⟨w', r1, r2, r3, _⟩ := retP b1 rfl f1 (Nat.le_refl _) pv0 nl nl nl
  simp only [pv0] at r1 r2
  refine ⟨w', g15_call ?_, r3⟩
  unfold g15
  simp only [hw1, r1, r2, obs, asP_pointer, asB_bool, asI_int, asS_string, asSl_slice, asM_map, asTup0, asTup1, asTup2, asTup3, asTup4, asTup5, asTup6, asTup7, asTup8, asTup9, asAgg2, asAgg3, asAgg4, asAgg5, asAgg6, asAgg7, asAgg8, asAgg9, asAgg12, getD0, getD1, getD2, getD3, getD4, getD5, getD6, getD7, getD8, getD9, getD10, getD11, getD12, getD13, getD14, getD15, getD16, getD17, getD18, getD19, Bool.not_true, Bool.not_false, Bool.false_eq_true, Bool.true_eq_false, ↓reduceIte, decide_true, decide_false, Option.isNone_some, Option.isNone_none, Option.isSome_some, Option.isSome_none, beq_self_eq_true, bne_self_eq_false, Bool.and_true, Bool.true_and, Bool.and_false, Bool.false_and, not_true_eq_false, not_false_eq_true]
  rfl

theorem ImageNone_main (W : World) (cs0 : List Value) (x0 : (Ty.Val (.cons (.int .i64) (.cons (.int .i64) (.cons (.int .i64) (.cons (.int .i64) (.cons (.int .i64) (.cons (.slice (.int .i64)) .nil)))))))) (h0 : Ty.At W (.cons (.int .i64) (.cons (.int .i64) (.cons (.int .i64) (.cons (.int .i64) (.cons (.int .i64) (.cons (.slice (.int .i64)) .nil)))))) cs0 x0) (n1 : Int) (h1 : IntKind.i64.min ≤ n1 ∧ n1 ≤ IntKind.i64.max) :
    ∃ w', callF Try.prog 7 #[.agg cs0.toArray, .int .i64 n1] W = some (.bool true, w') ∧ Fr [] W w' := by
  obtain ⟨c1, d1, rfl, _, ⟨rfl, _⟩, c2, d2, rfl, _, ⟨rfl, _⟩, c3, d3, rfl, _, ⟨rfl, _⟩, c4, d4, rfl, _, ⟨rfl, _⟩, c5, d5, rfl, _, ⟨rfl, _⟩, c6, d6, rfl, _, ⟨rfl, _⟩, rfl⟩ := h0
  obtain ⟨c0, c1, c2, c3, c4, ⟨q, vs⟩, _⟩ := x0
  simp only at *
  have fa : Fr [] W (W.alloc (.cells #[.int .i64 c0, .int .i64 c1, .int .i64 c2, .int .i64 c3, .int .i64 c4, .slice q.1 q.2.1 q.2.2] 33)) := Fr.alloc _
  have ba := Blk.new W [.int .i64 c0, .int .i64 c1, .int .i64 c2, .int .i64 c3, .int .i64 c4, .slice q.1 q.2.1 q.2.2] 33
  change Blk (W.alloc (.cells #[.int .i64 c0, .int .i64 c1, .int .i64 c2, .int .i64 c3, .int .i64 c4, .slice q.1 q.2.1 q.2.2] 33)) _ _ _ at ba
  obtain ⟨v, hv⟩ : ∃ v, W.alloc (.cells #[.int .i64 c0, .int .i64 c1, .int .i64 c2, .int .i64 c3, .int .i64 c4, .slice q.1 q.2.1 q.2.2] 33) = v := ⟨_, rfl⟩
  rw [hv] at fa ba
  have e16 : callF Try.prog 16 #[.pointer none, .int .i64 n1] v = some (.tuple #[.bool false, .int .i64 0, .int .u64 0], v) := g16_call (by unfold g16; simp only [obs, asP_pointer, asB_bool, asI_int, asS_string, asSl_slice, asM_map, asTup0, asTup1, asTup2, asTup3, asTup4, asTup5, asTup6, asTup7, asTup8, asTup9, asAgg2, asAgg3, asAgg4, asAgg5, asAgg6, asAgg7, asAgg8, asAgg9, asAgg12, getD0, getD1, getD2, getD3, getD4, getD5, getD6, getD7, getD8, getD9, getD10, getD11, getD12, getD13, getD14, getD15, getD16, getD17, getD18, getD19, Bool.not_true, Bool.not_false, Bool.false_eq_true, Bool.true_eq_false, ↓reduceIte, decide_true, decide_false, Option.isNone_some, Option.isNone_none, Option.isSome_some, Option.isSome_none, beq_self_eq_true, bne_self_eq_false, Bool.and_true, Bool.true_and, Bool.and_false, Bool.false_and, not_true_eq_false, not_false_eq_true])
  obtain ⟨w1, e15, f1⟩ := part15nil v n1
  obtain ⟨w2, s2, b2, f2, _⟩ := newP w1 pv0 nl nl nl
  have e23 : callF Try.prog 23 #[.pointer none] w2 = some (.tuple #[.int .i64 0, .int .i64 0, .int .i64 0], w2) := g23_call (by unfold g23; simp only [obs, asP_pointer, asB_bool, asI_int, asS_string, asSl_slice, asM_map, asTup0, asTup1, asTup2, asTup3, asTup4, asTup5, asTup6, asTup7, asTup8, asTup9, asAgg2, asAgg3, asAgg4, asAgg5, asAgg6, asAgg7, asAgg8, asAgg9, asAgg12, getD0, getD1, getD2, getD3, getD4, getD5, getD6, getD7, getD8, getD9, getD10, getD11, getD12, getD13, getD14, getD15, getD16, getD17, getD18, getD19, Bool.not_true, Bool.not_false, Bool.false_eq_true, Bool.true_eq_false, ↓reduceIte, decide_true, decide_false, Option.isNone_some, Option.isNone_none, Option.isSome_some, Option.isSome_none, beq_self_eq_true, bne_self_eq_false, Bool.and_true, Bool.true_and, Bool.and_false, Bool.false_and, not_true_eq_false, not_false_eq_true])
  have e20 : callF Try.prog 20 #[.pointer none] w2 = some (.tuple #[.int .u64 0, .int .u64 0], w2) := g20_call (by unfold g20; simp only [obs, asP_pointer, asB_bool, asI_int, asS_string, asSl_slice, asM_map, asTup0, asTup1, asTup2, asTup3, asTup4, asTup5, asTup6, asTup7, asTup8, asTup9, asAgg2, asAgg3, asAgg4, asAgg5, asAgg6, asAgg7, asAgg8, asAgg9, asAgg12, getD0, getD1, getD2, getD3, getD4, getD5, getD6, getD7, getD8, getD9, getD10, getD11, getD12, getD13, getD14, getD15, getD16, getD17, getD18, getD19, Bool.not_true, Bool.not_false, Bool.false_eq_true, Bool.true_eq_false, ↓reduceIte, decide_true, decide_false, Option.isNone_some, Option.isNone_none, Option.isSome_some, Option.isSome_none, beq_self_eq_true, bne_self_eq_false, Bool.and_true, Bool.true_and, Bool.and_false, Bool.false_and, not_true_eq_false, not_false_eq_true])
  have e24 : callF Try.prog 24 #[.pointer none] w2 = some (.tuple #[.slice none 0 0, .int .i64 5], w2) := g24_call (by unfold g24; simp only [obs, asP_pointer, asB_bool, asI_int, asS_string, asSl_slice, asM_map, asTup0, asTup1, asTup2, asTup3, asTup4, asTup5, asTup6, asTup7, asTup8, asTup9, asAgg2, asAgg3, asAgg4, asAgg5, asAgg6, asAgg7, asAgg8, asAgg9, asAgg12, getD0, getD1, getD2, getD3, getD4, getD5, getD6, getD7, getD8, getD9, getD10, getD11, getD12, getD13, getD14, getD15, getD16, getD17, getD18, getD19, Bool.not_true, Bool.not_false, Bool.false_eq_true, Bool.true_eq_false, ↓reduceIte, decide_true, decide_false, Option.isNone_some, Option.isNone_none, Option.isSome_some, Option.isSome_none, beq_self_eq_true, bne_self_eq_false, Bool.and_true, Bool.true_and, Bool.and_false, Bool.false_and, not_true_eq_false, not_false_eq_true])
  obtain ⟨w3, e12, f3⟩ := awake12 w2
  have B3 := ((ba.fr f1 (by simp)).fr f2 (by simp)).fr f3 (by simp)
  have ld := B3.ldN (n := 6) rfl
  have f4 : Fr [] w3 (w3.alloc (.cells #[.int .i64 c0, .int .i64 c1, .int .i64 c2, .int .i64 c3, .int .i64 c4, .slice q.1 q.2.1 q.2.2] 33)) := Fr.alloc _
  obtain ⟨u, hu⟩ : ∃ u, w3.alloc (.cells #[.int .i64 c0, .int .i64 c1, .int .i64 c2, .int .i64 c3, .int .i64 c4, .slice q.1 q.2.1 q.2.2] 33) = u := ⟨_, rfl⟩
  rw [hu] at f4
  have e13 : callF Try.prog 13 #[.pointer none, .agg #[.int .i64 c0, .int .i64 c1, .int .i64 c2, .int .i64 c3, .int .i64 c4, .slice q.1 q.2.1 q.2.2]] w3 = some (.int .i64 5, u) :=
    g13_call (u0 := none) (u1c0 := c0) (u1c1 := c1) (u1c2 := c2) (u1c3 := c3) (u1c4 := c4) (u1c5 := q) (by unfold g13; simp only [hu, obs, asP_pointer, asB_bool, asI_int, asS_string, asSl_slice, asM_map, asTup0, asTup1, asTup2, asTup3, asTup4, asTup5, asTup6, asTup7, asTup8, asTup9, asAgg2, asAgg3, asAgg4, asAgg5, asAgg6, asAgg7, asAgg8, asAgg9, asAgg12, getD0, getD1, getD2, getD3, getD4, getD5, getD6, getD7, getD8, getD9, getD10, getD11, getD12, getD13, getD14, getD15, getD16, getD17, getD18, getD19, Bool.not_true, Bool.not_false, Bool.false_eq_true, Bool.true_eq_false, ↓reduceIte, decide_true, decide_false, Option.isNone_some, Option.isNone_none, Option.isSome_some, Option.isSome_none, beq_self_eq_true, bne_self_eq_false, Bool.and_true, Bool.true_and, Bool.and_false, Bool.false_and, not_true_eq_false, not_false_eq_true])
  have d3 : u.cell? ⟨w1.heap.size, 3, none⟩ = some (.slice none 0 0) := ((b2.fr f3 (by simp)).fr f4 (by simp)).cell 3
  simp only [pv0, PV.arg] at e15 s2
  refine ⟨u, g7_call (u0c0 := c0) (u0c1 := c1) (u0c2 := c2) (u0c3 := c3) (u0c4 := c4) (u0c5 := q) ?_, (Fr.mono (Fr.app (Fr.app (Fr.app (Fr.app fa f1) f2) f3) f4) (by have z0_ := Fr.size fa; have z1_ := Fr.size f1; have z2_ := Fr.size f2; have z3_ := Fr.size f3; have z4_ := Fr.size f4; intro y_ hy_ hl_; grind [blkOf]))⟩
  unfold g7
  rw [hv]
  simp only [e16, e15, s2, e23, e20, e24, e12, ld, e13, addr_add, Nat.zero_add, d3, obs, asP_pointer, asB_bool, asI_int, asS_string, asSl_slice, asM_map, asTup0, asTup1, asTup2, asTup3, asTup4, asTup5, asTup6, asTup7, asTup8, asTup9, asAgg2, asAgg3, asAgg4, asAgg5, asAgg6, asAgg7, asAgg8, asAgg9, asAgg12, getD0, getD1, getD2, getD3, getD4, getD5, getD6, getD7, getD8, getD9, getD10, getD11, getD12, getD13, getD14, getD15, getD16, getD17, getD18, getD19, Bool.not_true, Bool.not_false, Bool.false_eq_true, Bool.true_eq_false, ↓reduceIte, decide_true, decide_false, Option.isNone_some, Option.isNone_none, Option.isSome_some, Option.isSome_none, beq_self_eq_true, bne_self_eq_false, Bool.and_true, Bool.true_and, Bool.and_false, Bool.false_and, not_true_eq_false, not_false_eq_true]
  rfl
end Go.Proofs.Ytjcenfgmpbeldaa
