/-
  ProdNone: lemmas on what Go functions of this seat come to (for whatever arguments, as each says). No condition but those that stand in each lemma.
-/
import Derived.Test.YtliakpomlkgpnaaProdM
import Derived.Test.YtliakpomlkgpnaaProdL7
namespace Go.Proofs.Ytliakpomlkgpnaa
open Go Go.Ev
set_option maxRecDepth 100000
set_option linter.unusedVariables false
set_option linter.unusedSimpArgs false

theorem ProdNone_main (W : World) (cs0 : List Value) (x0 : (Ty.Val (.cons (.int .i64) (.cons (.int .i64) (.cons (.int .u64) (.cons (.int .i64) (.cons (.int .i64) (.cons .bool (.cons .bool (.cons .bool (.cons (.slice (.slice (.int .u8))) .nil))))))))))) (h0 : Ty.At W (.cons (.int .i64) (.cons (.int .i64) (.cons (.int .u64) (.cons (.int .i64) (.cons (.int .i64) (.cons .bool (.cons .bool (.cons .bool (.cons (.slice (.slice (.int .u8))) .nil))))))))) cs0 x0) (n1 : Int) (h1 : IntKind.i64.min ≤ n1 ∧ n1 ≤ IntKind.i64.max) :
    ∃ w', callF Try.prog 7 #[.agg cs0.toArray, .int .i64 n1] W = some (.bool true, w') ∧ Fr [] W w' := by
  obtain ⟨c1, d1, rfl, _, ⟨rfl, _⟩, c2, d2, rfl, _, ⟨rfl, _⟩, c3, d3, rfl, _, ⟨rfl, _⟩, c4, d4, rfl, _, ⟨rfl, _⟩, c5, d5, rfl, _, ⟨rfl, _⟩, c6, d6, rfl, _, rfl, c7, d7, rfl, _, rfl, c8, d8, rfl, _, rfl, c9, d9, rfl, _, ⟨rfl, _⟩, rfl⟩ := h0
  obtain ⟨c0, c1, c2, c3, c4, c5, c6, c7, ⟨c8, vs⟩, _⟩ := x0
  simp only at *
  have fa : Fr [] W (W.alloc (.cells #[.int .i64 c0, .int .i64 c1, .int .u64 c2, .int .i64 c3, .int .i64 c4, .bool c5, .bool c6, .bool c7, .slice c8.1 c8.2.1 c8.2.2] 30)) := Fr.alloc _
  have bb := Blk.new W [.int .i64 c0, .int .i64 c1, .int .u64 c2, .int .i64 c3, .int .i64 c4, .bool c5, .bool c6, .bool c7, .slice c8.1 c8.2.1 c8.2.2] 30
  change Blk (W.alloc (.cells #[.int .i64 c0, .int .i64 c1, .int .u64 c2, .int .i64 c3, .int .i64 c4, .bool c5, .bool c6, .bool c7, .slice c8.1 c8.2.1 c8.2.2] 30)) _ _ _ at bb
  obtain ⟨v, hv⟩ : ∃ v, W.alloc (.cells #[.int .i64 c0, .int .i64 c1, .int .u64 c2, .int .i64 c3, .int .i64 c4, .bool c5, .bool c6, .bool c7, .slice c8.1 c8.2.1 c8.2.2] 30) = v := ⟨_, rfl⟩
  rw [hv] at fa bb
  have f1 : Fr [] v (v.alloc (.cells #[.int .i64 c0, .int .i64 c1, .int .u64 c2, .int .i64 c3, .int .i64 c4, .bool c5, .bool c6, .bool c7, .slice c8.1 c8.2.1 c8.2.2] 30)) := Fr.alloc _
  obtain ⟨u, hu⟩ : ∃ u, v.alloc (.cells #[.int .i64 c0, .int .i64 c1, .int .u64 c2, .int .i64 c3, .int .i64 c4, .bool c5, .bool c6, .bool c7, .slice c8.1 c8.2.1 c8.2.2] 30) = u := ⟨_, rfl⟩
  rw [hu] at f1
  have f2 : Fr [] u (u.alloc (.cells #[.int .i64 c0, .int .i64 c1, .int .u64 c2, .int .i64 c3, .int .i64 c4, .bool c5, .bool c6, .bool c7, .slice c8.1 c8.2.1 c8.2.2] 30)) := Fr.alloc _
  obtain ⟨y, hy⟩ : ∃ y, u.alloc (.cells #[.int .i64 c0, .int .i64 c1, .int .u64 c2, .int .i64 c3, .int .i64 c4, .bool c5, .bool c6, .bool c7, .slice c8.1 c8.2.1 c8.2.2] 30) = y := ⟨_, rfl⟩
  rw [hy] at f2
  have e14 : callF Try.prog 14 #[.pointer none, .agg #[.int .i64 c0, .int .i64 c1, .int .u64 c2, .int .i64 c3, .int .i64 c4, .bool c5, .bool c6, .bool c7, .slice c8.1 c8.2.1 c8.2.2]] v = some (.tuple #[], u) :=
    g14_call (u0 := none) (u1c0 := c0) (u1c1 := c1) (u1c2 := c2) (u1c3 := c3) (u1c4 := c4) (u1c5 := c5) (u1c6 := c6) (u1c7 := c7) (u1c8 := c8) (by unfold g14; simp only [Option.isNone_none, if_true, hu])
  have e11 : callF Try.prog 11 #[.pointer none, .agg #[.int .i64 c0, .int .i64 c1, .int .u64 c2, .int .i64 c3, .int .i64 c4, .bool c5, .bool c6, .bool c7, .slice c8.1 c8.2.1 c8.2.2]] u = some (.tuple #[.int .i64 0, .bool false, .int .i64 5], y) :=
    g11_call (u0 := none) (u1c0 := c0) (u1c1 := c1) (u1c2 := c2) (u1c3 := c3) (u1c4 := c4) (u1c5 := c5) (u1c6 := c6) (u1c7 := c7) (u1c8 := c8) (by unfold g11; simp only [Option.isNone_none, if_true, hy])
  have e10 : ∀ w n, callF Try.prog 10 #[.pointer none, .int .u64 n] w = some (.tuple #[.int .i64 0, .int .i64 0, .int .i64 0, .bool false], w) := fun w n => g10_call (by unfold g10; simp only [Option.bind_some, asP_pointer, asB_bool, asI_int, asS_string, asSl_slice, asM_map, asTup0, asTup1, asTup2, asTup3, asTup4, asTup5, getD0, getD1, getD2, getD3, getD4, Bool.not_true, Bool.not_false, Bool.false_eq_true, Bool.true_eq_false, ↓reduceIte, decide_true, decide_false, Option.isNone_some, Option.isNone_none, Option.isSome_some, Option.isSome_none, beq_self_eq_true, bne_self_eq_false, Bool.and_true, Bool.true_and, Bool.and_false, Bool.false_and, not_true_eq_false, not_false_eq_true])
  have e13 : ∀ w, callF Try.prog 13 #[.pointer none] w = some (.tuple #[.int .i64 0, .bool false], w) := fun w => g13_call (by unfold g13; simp only [Option.bind_some, asP_pointer, asB_bool, asI_int, asS_string, asSl_slice, asM_map, asTup0, asTup1, asTup2, asTup3, asTup4, asTup5, getD0, getD1, getD2, getD3, getD4, Bool.not_true, Bool.not_false, Bool.false_eq_true, Bool.true_eq_false, ↓reduceIte, decide_true, decide_false, Option.isNone_some, Option.isNone_none, Option.isSome_some, Option.isSome_none, beq_self_eq_true, bne_self_eq_false, Bool.and_true, Bool.true_and, Bool.and_false, Bool.false_and, not_true_eq_false, not_false_eq_true])
  have e15 : ∀ w n m, callF Try.prog 15 #[.pointer none, .int .i64 n, .int .i64 m] w = some (.slice none 0 0, w) := fun w n m => g15_call (by unfold g15; simp only [Option.bind_some, asP_pointer, asB_bool, asI_int, asS_string, asSl_slice, asM_map, asTup0, asTup1, asTup2, asTup3, asTup4, asTup5, getD0, getD1, getD2, getD3, getD4, Bool.not_true, Bool.not_false, Bool.false_eq_true, Bool.true_eq_false, ↓reduceIte, decide_true, decide_false, Option.isNone_some, Option.isNone_none, Option.isSome_some, Option.isSome_none, beq_self_eq_true, bne_self_eq_false, Bool.and_true, Bool.true_and, Bool.and_false, Bool.false_and, not_true_eq_false, not_false_eq_true])
  have e16 : ∀ w, callF Try.prog 16 #[.pointer none] w = some (.slice none 0 0, w) := fun w => g16_call (by unfold g16; simp only [Option.bind_some, asP_pointer, asB_bool, asI_int, asS_string, asSl_slice, asM_map, asTup0, asTup1, asTup2, asTup3, asTup4, asTup5, getD0, getD1, getD2, getD3, getD4, Bool.not_true, Bool.not_false, Bool.false_eq_true, Bool.true_eq_false, ↓reduceIte, decide_true, decide_false, Option.isNone_some, Option.isNone_none, Option.isSome_some, Option.isSome_none, beq_self_eq_true, bne_self_eq_false, Bool.and_true, Bool.true_and, Bool.and_false, Bool.false_and, not_true_eq_false, not_false_eq_true])
  obtain ⟨z, e8, f8⟩ := awake8 y
  have G0 : ∀ a b c d e f g h i : Value, [a, b, c, d, e, f, g, h, i].getD 0 undef = a := fun _ _ _ _ _ _ _ _ _ => rfl
  have G1 : ∀ a b c d e f g h i : Value, [a, b, c, d, e, f, g, h, i].getD 1 undef = b := fun _ _ _ _ _ _ _ _ _ => rfl
  have G2 : ∀ a b c d e f g h i : Value, [a, b, c, d, e, f, g, h, i].getD 2 undef = c := fun _ _ _ _ _ _ _ _ _ => rfl
  have G3 : ∀ a b c d e f g h i : Value, [a, b, c, d, e, f, g, h, i].getD 3 undef = d := fun _ _ _ _ _ _ _ _ _ => rfl
  have G4 : ∀ a b c d e f g h i : Value, [a, b, c, d, e, f, g, h, i].getD 4 undef = e := fun _ _ _ _ _ _ _ _ _ => rfl
  have G5 : ∀ a b c d e f g h i : Value, [a, b, c, d, e, f, g, h, i].getD 5 undef = f := fun _ _ _ _ _ _ _ _ _ => rfl
  have G6 : ∀ a b c d e f g h i : Value, [a, b, c, d, e, f, g, h, i].getD 6 undef = g := fun _ _ _ _ _ _ _ _ _ => rfl
  have G7 : ∀ a b c d e f g h i : Value, [a, b, c, d, e, f, g, h, i].getD 7 undef = h := fun _ _ _ _ _ _ _ _ _ => rfl
  have G8 : ∀ a b c d e f g h i : Value, [a, b, c, d, e, f, g, h, i].getD 8 undef = i := fun _ _ _ _ _ _ _ _ _ => rfl
  have l0 : ldN v ⟨W.heap.size, 0, none⟩ 0 9 = some [.int .i64 c0, .int .i64 c1, .int .u64 c2, .int .i64 c3, .int .i64 c4, .bool c5, .bool c6, .bool c7, .slice c8.1 c8.2.1 c8.2.2] := blk_ldN bb (n := 9) (by simp)
  have l1 : ldN u ⟨W.heap.size, 0, none⟩ 0 9 = some [.int .i64 c0, .int .i64 c1, .int .u64 c2, .int .i64 c3, .int .i64 c4, .bool c5, .bool c6, .bool c7, .slice c8.1 c8.2.1 c8.2.2] := blk_ldN (bb.fr f1 (by simp)) (n := 9) (by simp)
  have k2 : y.cell? ⟨W.heap.size, 2, none⟩ = some (.int .u64 c2) := ((bb.fr f1 (by simp)).fr f2 (by simp)).cell 2
  have h00 : ((0 : Int) == 0) = true := by decide
  have h55 : ((5 : Int) == 5) = true := by decide
  have h0n : (((0 : Nat) : Int) == 0) = true := by decide
  refine ⟨z, g7_call (u0c0 := c0) (u0c1 := c1) (u0c2 := c2) (u0c3 := c3) (u0c4 := c4) (u0c5 := c5) (u0c6 := c6) (u0c7 := c7) (u0c8 := c8) (u1 := n1) ?_, (Fr.mono (Fr.app (Fr.app (Fr.app fa f1) f2) f8) (by have z0_ := Fr.size fa; have z1_ := Fr.size f1; have z2_ := Fr.size f2; have z3_ := Fr.size f8; intro y_ hy_ hl_; grind [blkOf]))⟩
  unfold g7
  simp only [hv]
  rw [l0, Option.bind_some]
  simp only [G0, G1, G2, G3, G4, G5, G6, G7, G8, asI_int, asB_bool, asSl_slice, Option.bind_some]
  rw [e14, Option.bind_some]
  simp only [asTup0, Option.bind_some]
  rw [l1, Option.bind_some]
  simp only [G0, G1, G2, G3, G4, G5, G6, G7, G8, asI_int, asB_bool, asSl_slice, Option.bind_some]
  rw [e11, Option.bind_some]
  simp only [addr_add, Nat.zero_add, k2, e10, e13, e8, h00, h55, e15, e16, h0n, Option.bind_some, asP_pointer, asB_bool, asI_int, asS_string, asSl_slice, asM_map, asTup0, asTup1, asTup2, asTup3, asTup4, asTup5, getD0, getD1, getD2, getD3, getD4, Bool.not_true, Bool.not_false, Bool.false_eq_true, Bool.true_eq_false, ↓reduceIte, decide_true, decide_false, Option.isNone_some, Option.isNone_none, Option.isSome_some, Option.isSome_none, beq_self_eq_true, bne_self_eq_false, Bool.and_true, Bool.true_and, Bool.and_false, Bool.false_and, not_true_eq_false, not_false_eq_true]
end Go.Proofs.Ytliakpomlkgpnaa
