/-
  TxnNone: lemmas on what Go functions of this seat come to (for whatever arguments, as each says). No condition but those that stand in each lemma.
-/
import Derived.Test.YtlcojbodcbjkaaaTxnL8
import Derived.Test.YtlcojbodcbjkaaaTxnK
namespace Go.Proofs.Ytlcojbodcbjkaaa
open Go Go.Ev
set_option maxRecDepth 100000
set_option linter.unusedVariables false
set_option linter.unusedSimpArgs false

theorem bad34n (w : World) (n : Int) : callF Try.prog 34 #[.pointer none, .int .i64 n] w = some (.int .i64 5, w) := g34_call (by unfold g34; simp only [obs, asP_pointer, asB_bool, asI_int, asS_string, asSl_slice, asM_map, asTup0, asTup1, asTup2, asTup3, asTup4, asTup5, asTup6, asTup7, asTup8, asTup9, asAgg2, asAgg3, asAgg4, asAgg5, asAgg6, asAgg7, asAgg8, asAgg9, asAgg12, getD0, getD1, getD2, getD3, getD4, getD5, getD6, getD7, getD8, getD9, getD10, getD11, Bool.not_true, Bool.not_false, Bool.false_eq_true, Bool.true_eq_false, ↓reduceIte, decide_true, decide_false, Option.isNone_some, Option.isNone_none, Option.isSome_some, Option.isSome_none, beq_self_eq_true, bne_self_eq_false, Bool.and_true, Bool.true_and, Bool.and_false, Bool.false_and, not_true_eq_false, not_false_eq_true])

theorem init14n (w : World) (n inc pid : Int) : ∃ w', callF Try.prog 14 #[.pointer none, .int .i64 n, .int .i64 inc, .int .u64 pid] w = some (.tuple #[rv0.arg (none, 0, 0), .bool false, .int .i64 5], w') ∧ Fr [] w w' := by
  obtain ⟨b1, f1⟩ := zero30 w
  obtain ⟨w1, hw1⟩ : ∃ w1, w.alloc (.cells #[.int .i64 0, .int .i64 0, .int .i64 0, .int .u64 0, .int .i64 0, .slice none 0 0, .bool false] 30) = w1 := ⟨_, rfl⟩
  rw [hw1] at b1 f1
  obtain ⟨w', r1, r2, r3, _⟩ := retR b1 rfl f1 (Nat.le_refl _) rv0 (none, 0, 0)
  simp only [rv0] at r1 r2
  have k0 : ((5 : Int) != 0) = true := rfl
  refine ⟨w', g14_call ?_, r3⟩
  unfold g14
  rw [hw1]
  simp only [bad34n, k0, r1, r2, obs, asP_pointer, asB_bool, asI_int, asS_string, asSl_slice, asM_map, asTup0, asTup1, asTup2, asTup3, asTup4, asTup5, asTup6, asTup7, asTup8, asTup9, asAgg2, asAgg3, asAgg4, asAgg5, asAgg6, asAgg7, asAgg8, asAgg9, asAgg12, getD0, getD1, getD2, getD3, getD4, getD5, getD6, getD7, getD8, getD9, getD10, getD11, Bool.not_true, Bool.not_false, Bool.false_eq_true, Bool.true_eq_false, ↓reduceIte, decide_true, decide_false, Option.isNone_some, Option.isNone_none, Option.isSome_some, Option.isSome_none, beq_self_eq_true, bne_self_eq_false, Bool.and_true, Bool.true_and, Bool.and_false, Bool.false_and, not_true_eq_false, not_false_eq_true]
  rfl
theorem add16n (w : World) (n pid e p : Int) : ∃ w', callF Try.prog 16 #[.pointer none, .int .i64 n, .int .u64 pid, .int .i64 e, .int .i64 p] w = some (.tuple #[rv0.arg (none, 0, 0), .bool false, .int .i64 5], w') ∧ Fr [] w w' := by
  obtain ⟨b1, f1⟩ := zero30 w
  obtain ⟨w1, hw1⟩ : ∃ w1, w.alloc (.cells #[.int .i64 0, .int .i64 0, .int .i64 0, .int .u64 0, .int .i64 0, .slice none 0 0, .bool false] 30) = w1 := ⟨_, rfl⟩
  rw [hw1] at b1 f1
  obtain ⟨w', r1, r2, r3, _⟩ := retR b1 rfl f1 (Nat.le_refl _) rv0 (none, 0, 0)
  simp only [rv0] at r1 r2
  have k0 : ((5 : Int) != 0) = true := rfl
  refine ⟨w', g16_call ?_, r3⟩
  unfold g16
  rw [hw1]
  simp only [bad34n, k0, r1, r2, obs, asP_pointer, asB_bool, asI_int, asS_string, asSl_slice, asM_map, asTup0, asTup1, asTup2, asTup3, asTup4, asTup5, asTup6, asTup7, asTup8, asTup9, asAgg2, asAgg3, asAgg4, asAgg5, asAgg6, asAgg7, asAgg8, asAgg9, asAgg12, getD0, getD1, getD2, getD3, getD4, getD5, getD6, getD7, getD8, getD9, getD10, getD11, Bool.not_true, Bool.not_false, Bool.false_eq_true, Bool.true_eq_false, ↓reduceIte, decide_true, decide_false, Option.isNone_some, Option.isNone_none, Option.isSome_some, Option.isSome_none, beq_self_eq_true, bne_self_eq_false, Bool.and_true, Bool.true_and, Bool.and_false, Bool.false_and, not_true_eq_false, not_false_eq_true]
  rfl
theorem end18n (w : World) (n pid e : Int) (c : Bool) : ∃ w', callF Try.prog 18 #[.pointer none, .int .i64 n, .int .u64 pid, .int .i64 e, .bool c] w = some (.tuple #[rv0.arg (none, 0, 0), .bool false, .int .i64 5], w') ∧ Fr [] w w' := by
  obtain ⟨b1, f1⟩ := zero30 w
  obtain ⟨w1, hw1⟩ : ∃ w1, w.alloc (.cells #[.int .i64 0, .int .i64 0, .int .i64 0, .int .u64 0, .int .i64 0, .slice none 0 0, .bool false] 30) = w1 := ⟨_, rfl⟩
  rw [hw1] at b1 f1
  obtain ⟨w', r1, r2, r3, _⟩ := retR b1 rfl f1 (Nat.le_refl _) rv0 (none, 0, 0)
  simp only [rv0] at r1 r2
  have k0 : ((5 : Int) != 0) = true := rfl
  refine ⟨w', g18_call ?_, r3⟩
  unfold g18
  rw [hw1]
  simp only [bad34n, k0, r1, r2, obs, asP_pointer, asB_bool, asI_int, asS_string, asSl_slice, asM_map, asTup0, asTup1, asTup2, asTup3, asTup4, asTup5, asTup6, asTup7, asTup8, asTup9, asAgg2, asAgg3, asAgg4, asAgg5, asAgg6, asAgg7, asAgg8, asAgg9, asAgg12, getD0, getD1, getD2, getD3, getD4, getD5, getD6, getD7, getD8, getD9, getD10, getD11, Bool.not_true, Bool.not_false, Bool.false_eq_true, Bool.true_eq_false, ↓reduceIte, decide_true, decide_false, Option.isNone_some, Option.isNone_none, Option.isSome_some, Option.isSome_none, beq_self_eq_true, bne_self_eq_false, Bool.and_true, Bool.true_and, Bool.and_false, Bool.false_and, not_true_eq_false, not_false_eq_true]
  rfl
theorem tx21n (w : World) (n : Int) : ∃ w', callF Try.prog 21 #[.pointer none, .int .i64 n] w = some (tv0.arg (none, 0, 0), w') ∧ Fr [] w w' := by
  obtain ⟨b1, f1⟩ := zero46 w
  obtain ⟨w1, hw1⟩ : ∃ w1, w.alloc (.cells #[.int .i64 0, .int .i64 0, .int .u64 0, .int .i64 0, .slice none 0 0, .int .i64 0, .int .u64 0, .bool false] 46) = w1 := ⟨_, rfl⟩
  rw [hw1] at b1 f1
  obtain ⟨w', r1, r2, r3⟩ := b1.stL (vs := tv0.cs (none, 0, 0)) rfl (tvcs_oc _ _)
  have l1 := r2.ldN (n := 8) rfl
  simp only [tv0, TV.cs] at r1 l1
  refine ⟨w', g21_call ?_, (f1.app r3).mono (by intro y hy hl; simp at hy; omega)⟩
  unfold g21
  rw [hw1]
  simp only [r1, l1, obs, asP_pointer, asB_bool, asI_int, asS_string, asSl_slice, asM_map, asTup0, asTup1, asTup2, asTup3, asTup4, asTup5, asTup6, asTup7, asTup8, asTup9, asAgg2, asAgg3, asAgg4, asAgg5, asAgg6, asAgg7, asAgg8, asAgg9, asAgg12, getD0, getD1, getD2, getD3, getD4, getD5, getD6, getD7, getD8, getD9, getD10, getD11, Bool.not_true, Bool.not_false, Bool.false_eq_true, Bool.true_eq_false, ↓reduceIte, decide_true, decide_false, Option.isNone_some, Option.isNone_none, Option.isSome_some, Option.isSome_none, beq_self_eq_true, bne_self_eq_false, Bool.and_true, Bool.true_and, Bool.and_false, Bool.false_and, not_true_eq_false, not_false_eq_true]
  rfl
/-- a name's state in a block of its own -/
theorem newT (x : World) (v : TV) (q : Option Addr × Nat × Nat) : ∃ x', stL (x.alloc (.cells #[.int .i64 0, .int .i64 0, .int .u64 0, .int .i64 0, .slice none 0 0, .int .i64 0, .int .u64 0, .bool false] 46)) ⟨x.heap.size, 0, none⟩ [.int .i64 v.st, .int .i64 v.inc, .int .u64 v.pid, .int .i64 v.ep, .slice q.1 q.2.1 q.2.2, .int .i64 v.last, .int .u64 v.lpid, .bool v.com] 0 = some x' ∧
    Blk x' x.heap.size (v.cs q) 46 ∧ Fr [] x x' := by
  obtain ⟨b, f⟩ := zero46 x
  obtain ⟨x', h1, h2, h3⟩ := b.stL (vs := v.cs q) rfl (tvcs_oc v q)
  exact ⟨x', h1, h2, (f.app h3).mono (by intro y hy hl; simp at hy; omega)⟩

theorem TxnNone_main (W : World) (cs0 : List Value) (x0 : (Ty.Val (.cons (.int .i64) (.cons (.int .i64) (.cons (.int .i64) (.cons (.int .i64) (.cons (.int .i64) (.cons (.int .u64) (.cons .bool (.cons .bool (.cons (.cons (.int .i64) (.cons (.int .i64) (.cons (.int .i64) (.cons (.int .u64) (.cons (.int .i64) (.cons (.slice (.int .i64)) (.cons .bool .nil))))))) .nil))))))))))) (h0 : Ty.At W (.cons (.int .i64) (.cons (.int .i64) (.cons (.int .i64) (.cons (.int .i64) (.cons (.int .i64) (.cons (.int .u64) (.cons .bool (.cons .bool (.cons (.cons (.int .i64) (.cons (.int .i64) (.cons (.int .i64) (.cons (.int .u64) (.cons (.int .i64) (.cons (.slice (.int .i64)) (.cons .bool .nil))))))) .nil))))))))) cs0 x0) :
    ∃ w', callF Try.prog 8 #[.agg cs0.toArray] W = some (.bool true, w') ∧ Fr [] W w' := by
  obtain ⟨c1, d1, rfl, _, ⟨rfl, _⟩, c2, d2, rfl, _, ⟨rfl, _⟩, c3, d3, rfl, _, ⟨rfl, _⟩, c4, d4, rfl, _, ⟨rfl, _⟩, c5, d5, rfl, _, ⟨rfl, _⟩, c6, d6, rfl, _, ⟨rfl, _⟩, c7, d7, rfl, _, rfl, c8, d8, rfl, _, rfl, c9, d9, rfl, _, ⟨e1, g1, rfl, _, ⟨rfl, _⟩, e2, g2, rfl, _, ⟨rfl, _⟩, e3, g3, rfl, _, ⟨rfl, _⟩, e4, g4, rfl, _, ⟨rfl, _⟩, e5, g5, rfl, _, ⟨rfl, _⟩, e6, g6, rfl, _, ⟨rfl, _⟩, e7, g7, rfl, _, rfl, rfl⟩, rfl⟩ := h0
  obtain ⟨c0, c1, c2, c3, c4, c5, c6, c7, ⟨r0, r1, r2, r3, r4, ⟨r5, vs⟩, r6, _⟩, _⟩ := x0
  simp only at *
  have fa : Fr [] W (W.alloc (.cells #[.int .i64 c0, .int .i64 c1, .int .i64 c2, .int .i64 c3, .int .i64 c4, .int .u64 c5, .bool c6, .bool c7, .int .i64 r0, .int .i64 r1, .int .i64 r2, .int .u64 r3, .int .i64 r4, .slice r5.1 r5.2.1 r5.2.2, .bool r6] 32)) := Fr.alloc _
  have bb := Blk.new W [.int .i64 c0, .int .i64 c1, .int .i64 c2, .int .i64 c3, .int .i64 c4, .int .u64 c5, .bool c6, .bool c7, .int .i64 r0, .int .i64 r1, .int .i64 r2, .int .u64 r3, .int .i64 r4, .slice r5.1 r5.2.1 r5.2.2, .bool r6] 32
  change Blk (W.alloc (.cells #[.int .i64 c0, .int .i64 c1, .int .i64 c2, .int .i64 c3, .int .i64 c4, .int .u64 c5, .bool c6, .bool c7, .int .i64 r0, .int .i64 r1, .int .i64 r2, .int .u64 r3, .int .i64 r4, .slice r5.1 r5.2.1 r5.2.2, .bool r6] 32)) _ _ _ at bb
  obtain ⟨v, hv⟩ : ∃ v, W.alloc (.cells #[.int .i64 c0, .int .i64 c1, .int .i64 c2, .int .i64 c3, .int .i64 c4, .int .u64 c5, .bool c6, .bool c7, .int .i64 r0, .int .i64 r1, .int .i64 r2, .int .u64 r3, .int .i64 r4, .slice r5.1 r5.2.1 r5.2.2, .bool r6] 32) = v := ⟨_, rfl⟩
  rw [hv] at fa bb
  have ld : ldN v ⟨W.heap.size, 8, none⟩ 0 7 = some [.int .i64 r0, .int .i64 r1, .int .i64 r2, .int .u64 r3, .int .i64 r4, .slice r5.1 r5.2.1 r5.2.2, .bool r6] := ldN_of_cells (cs := [.int .i64 r0, .int .i64 r1, .int .i64 r2, .int .u64 r3, .int .i64 r4, .slice r5.1 r5.2.1 r5.2.2, .bool r6]) (i := 0) fun j hj => by
    have := bb.cell (8 + j)
    rw [addr_add, Nat.zero_add]
    rw [this]
    have hj' : j < 7 := hj
    match j, hj' with
    | 0, _ => rfl
    | 1, _ => rfl
    | 2, _ => rfl
    | 3, _ => rfl
    | 4, _ => rfl
    | 5, _ => rfl
    | 6, _ => rfl
  have f1 : Fr [] v (v.alloc (.cells #[.int .i64 r0, .int .i64 r1, .int .i64 r2, .int .u64 r3, .int .i64 r4, .slice r5.1 r5.2.1 r5.2.2, .bool r6] 30)) := Fr.alloc _
  obtain ⟨u, hu⟩ : ∃ u, v.alloc (.cells #[.int .i64 r0, .int .i64 r1, .int .i64 r2, .int .u64 r3, .int .i64 r4, .slice r5.1 r5.2.1 r5.2.2, .bool r6] 30) = u := ⟨_, rfl⟩
  rw [hu] at f1
  have e13 : callF Try.prog 13 #[.pointer none, .agg #[.int .i64 r0, .int .i64 r1, .int .i64 r2, .int .u64 r3, .int .i64 r4, .slice r5.1 r5.2.1 r5.2.2, .bool r6]] v = some (.tuple #[], u) :=
    g13_call (u0 := none) (u1c0 := r0) (u1c1 := r1) (u1c2 := r2) (u1c3 := r3) (u1c4 := r4) (u1c5 := r5) (u1c6 := r6) (by unfold g13; simp only [Option.isNone_none, if_true, hu])
  obtain ⟨w1, i1, k1⟩ := init14n u c1 c2 c5
  obtain ⟨w2, s2, b2, k2, _⟩ := newR w1 rv0 (none, 0, 0)
  obtain ⟨w3, i3, k3⟩ := add16n w2 c1 c5 c3 c4
  obtain ⟨w4, s4, b4, k4, _⟩ := newR w3 rv0 (none, 0, 0)
  obtain ⟨w5, i5, k5⟩ := end18n w4 c1 c5 c3 c6
  obtain ⟨w6, s6, b6, k6, _⟩ := newR w5 rv0 (none, 0, 0)
  obtain ⟨w7, i7, k7⟩ := tx21n w6 c1
  obtain ⟨w8, s8, b8, k8⟩ := newT w7 tv0 (none, 0, 0)
  obtain ⟨w9, i9, k9⟩ := awake11 w8
  have e25 : ∀ w, callF Try.prog 25 #[.pointer none] w = some (.slice none 0 0, w) := fun w => g25_call (by unfold g25; simp only [obs, asP_pointer, asB_bool, asI_int, asS_string, asSl_slice, asM_map, asTup0, asTup1, asTup2, asTup3, asTup4, asTup5, asTup6, asTup7, asTup8, asTup9, asAgg2, asAgg3, asAgg4, asAgg5, asAgg6, asAgg7, asAgg8, asAgg9, asAgg12, getD0, getD1, getD2, getD3, getD4, getD5, getD6, getD7, getD8, getD9, getD10, getD11, Bool.not_true, Bool.not_false, Bool.false_eq_true, Bool.true_eq_false, ↓reduceIte, decide_true, decide_false, Option.isNone_some, Option.isNone_none, Option.isSome_some, Option.isSome_none, beq_self_eq_true, bne_self_eq_false, Bool.and_true, Bool.true_and, Bool.and_false, Bool.false_and, not_true_eq_false, not_false_eq_true])
  have B1 := bb.fr f1 (by simp)
  have B2 := (B1.fr k1 (by simp)).fr k2 (by simp)
  have B4 := (B2.fr k3 (by simp)).fr k4 (by simp)
  have B6 := (B4.fr k5 (by simp)).fr k6 (by simp)
  have a1 : u.cell? ⟨W.heap.size, 1, none⟩ = some (.int .i64 c1) := B1.cell 1
  have a2 : u.cell? ⟨W.heap.size, 2, none⟩ = some (.int .i64 c2) := B1.cell 2
  have a5 : u.cell? ⟨W.heap.size, 5, none⟩ = some (.int .u64 c5) := B1.cell 5
  have d1 : w2.cell? ⟨W.heap.size, 1, none⟩ = some (.int .i64 c1) := B2.cell 1
  have d3 : w2.cell? ⟨W.heap.size, 3, none⟩ = some (.int .i64 c3) := B2.cell 3
  have d4 : w2.cell? ⟨W.heap.size, 4, none⟩ = some (.int .i64 c4) := B2.cell 4
  have d5 : w2.cell? ⟨W.heap.size, 5, none⟩ = some (.int .u64 c5) := B2.cell 5
  have g1 : w4.cell? ⟨W.heap.size, 1, none⟩ = some (.int .i64 c1) := B4.cell 1
  have g3 : w4.cell? ⟨W.heap.size, 3, none⟩ = some (.int .i64 c3) := B4.cell 3
  have g5 : w4.cell? ⟨W.heap.size, 5, none⟩ = some (.int .u64 c5) := B4.cell 5
  have g6 : w4.cell? ⟨W.heap.size, 6, none⟩ = some (.bool c6) := B4.cell 6
  have h1 : w6.cell? ⟨W.heap.size, 1, none⟩ = some (.int .i64 c1) := B6.cell 1
  have z2 := ((((((b2.fr k3 (by simp)).fr k4 (by simp)).fr k5 (by simp)).fr k6 (by simp)).fr k7 (by simp)).fr k8 (by simp)).fr k9 (by simp)
  have z4 := ((((b4.fr k5 (by simp)).fr k6 (by simp)).fr k7 (by simp)).fr k8 (by simp)).fr k9 (by simp)
  have z6 := ((b6.fr k7 (by simp)).fr k8 (by simp)).fr k9 (by simp)
  have z8 := b8.fr k9 (by simp)
  have y2 : w9.cell? ⟨w1.heap.size, 0, none⟩ = some (.int .i64 0) := z2.cell 0
  have y4 : w9.cell? ⟨w3.heap.size, 0, none⟩ = some (.int .i64 0) := z4.cell 0
  have y6 : w9.cell? ⟨w5.heap.size, 0, none⟩ = some (.int .i64 0) := z6.cell 0
  have y8 : w9.cell? ⟨w7.heap.size, 0, none⟩ = some (.int .i64 0) := z8.cell 0
  have y83 : w9.cell? ⟨w7.heap.size, 3, none⟩ = some (.int .i64 0) := z8.cell 3
  have y84 : w9.cell? ⟨w7.heap.size, 4, none⟩ = some (.slice none 0 0) := z8.cell 4
  have q0 : (IntKind.i64.wrap (IntKind.i64.wrap (0 + 0) + 0)) = 0 := by decide
  simp only [rv0, tv0, RV.arg, TV.arg] at i1 i3 i5 i7 s2 s4 s6 s8
  refine ⟨w9, g8_call (u0c0 := c0) (u0c1 := c1) (u0c2 := c2) (u0c3 := c3) (u0c4 := c4) (u0c5 := c5) (u0c6 := c6) (u0c7 := c7) (u0c8 := r0) (u0c9 := r1) (u0c10 := r2) (u0c11 := r3) (u0c12 := r4) (u0c13 := r5) (u0c14 := r6) ?_, (Fr.mono (Fr.app (Fr.app (Fr.app (Fr.app (Fr.app (Fr.app (Fr.app (Fr.app (Fr.app (Fr.app fa f1) k1) k2) k3) k4) k5) k6) k7) k8) k9) (by have z0_ := Fr.size fa; have z1_ := Fr.size f1; have z2_ := Fr.size k1; have z3_ := Fr.size k2; have z4_ := Fr.size k3; have z5_ := Fr.size k4; have z6_ := Fr.size k5; have z7_ := Fr.size k6; have z8_ := Fr.size k7; have z9_ := Fr.size k8; have z10_ := Fr.size k9; intro y_ hy_ hl_; grind [blkOf]))⟩
  unfold g8
  rw [hv]
  simp only [addr_add, Nat.zero_add, ld, e13, a1, a2, a5, i1, s2, d1, d3, d4, d5, i3, s4, g1, g3, g5, g6, i5, s6, h1, i7, s8, i9, y2, y4, y6, q0, e25, y8, y83, y84, obs, asP_pointer, asB_bool, asI_int, asS_string, asSl_slice, asM_map, asTup0, asTup1, asTup2, asTup3, asTup4, asTup5, asTup6, asTup7, asTup8, asTup9, asAgg2, asAgg3, asAgg4, asAgg5, asAgg6, asAgg7, asAgg8, asAgg9, asAgg12, getD0, getD1, getD2, getD3, getD4, getD5, getD6, getD7, getD8, getD9, getD10, getD11, Bool.not_true, Bool.not_false, Bool.false_eq_true, Bool.true_eq_false, ↓reduceIte, decide_true, decide_false, Option.isNone_some, Option.isNone_none, Option.isSome_some, Option.isSome_none, beq_self_eq_true, bne_self_eq_false, Bool.and_true, Bool.true_and, Bool.and_false, Bool.false_and, not_true_eq_false, not_false_eq_true]
  rfl
end Go.Proofs.Ytlcojbodcbjkaaa
