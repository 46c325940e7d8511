/-
  TxnK: lemmas on what Go functions of this seat come to (for whatever arguments, as each says). No condition but those that stand in each lemma.
-/
import Derived.Test.YtlcojbodcbjkaaaTxnJ
namespace Go.Proofs.Ytlcojbodcbjkaaa
open Go Go.Ev
set_option maxRecDepth 100000
set_option linter.unusedVariables false
set_option linter.unusedSimpArgs false

/-- a record in a block of its own -/
theorem newR (x : World) (r : RV) (q : Option Addr × Nat × Nat) : ∃ x', stL (x.alloc (.cells #[.int .i64 0, .int .i64 0, .int .i64 0, .int .u64 0, .int .i64 0, .slice none 0 0, .bool false] 30)) ⟨x.heap.size, 0, none⟩ [.int .i64 r.k, .int .i64 r.tx, .int .i64 r.inc, .int .u64 r.pid, .int .i64 r.ep, .slice q.1 q.2.1 q.2.2, .bool r.com] 0 = some x' ∧
    Blk x' x.heap.size (r.cs q) 30 ∧ Fr [] x x' ∧ ldN x' ⟨x.heap.size, 0, none⟩ 0 7 = some [.int .i64 r.k, .int .i64 r.tx, .int .i64 r.inc, .int .u64 r.pid, .int .i64 r.ep, .slice q.1 q.2.1 q.2.2, .bool r.com] := by
  obtain ⟨b, f⟩ := zero30 x
  obtain ⟨x', h1, h2, h3⟩ := b.stL (vs := r.cs q) rfl (rvcs_oc r q)
  have z := f.size
  exact ⟨x', h1, h2, (f.app h3).mono (by intro y hy hl; simp at hy; omega), h2.ldN (n := 7) rfl⟩

theorem awake11 (w : World) : ∃ w', callF Try.prog 11 #[] w = some (.bool true, w') ∧ Fr [] w w' := by
  obtain ⟨w1, D1, e1, t1, f1, n1⟩ := new10 w
  have l1 := t1.lt
  obtain ⟨w2, e2, f2⟩ := init14 t1 0 1 5 (fun v hv => by simp [kget_nil] at hv)
  have hi : initP (tvOf [] 0) 0 1 5 = (⟨1, 0, 1, 5, 0, [], false⟩, true, 0) := by simp [initP, tvOf, kget_nil, tv0]
  rw [hi] at e2
  obtain ⟨w3, s3, b3, f3, d3⟩ := newR w2 ⟨1, 0, 1, 5, 0, [], false⟩ (none, 0, 0)
  have F3 : Fr [] w1 w3 := (Fr.mono (Fr.app f2 f3) (by have z0_ := Fr.size f2; have z1_ := Fr.size f3; intro y_ hy_ hl_; grind [blkOf]))
  obtain ⟨w4, D4, e4, t4, c4⟩ := apply13 (r := ⟨1, 0, 1, 5, 0, [], false⟩) (rq := (none, 0, 0)) (t1.fr F3 (by simp)) ⟨rfl, by simp⟩ (by simp) (by simp) (by simp)
  have hA : apA [] ⟨1, 0, 1, 5, 0, [], false⟩ = [(0, ⟨1, 1, 5, 0, [], -1, 0, false⟩)] := by simp [apA, kups, stepT, tv0]
  rw [hA] at t4
  obtain ⟨S4, f4, hS4⟩ := c4.fr
  obtain ⟨q5, w5, e5, f5, sl5, _⟩ := add16 t4 0 5 0 2 (fun v hv => by simp [kget_cons] at hv; rw [← hv]; simp)
  have ht : tvOf [(0, (⟨1, 1, 5, 0, [], -1, 0, false⟩ : TV))] 0 = ⟨1, 1, 5, 0, [], -1, 0, false⟩ := rfl
  rw [ht] at e5 sl5
  have ha : addP ⟨1, 1, 5, 0, [], -1, 0, false⟩ 0 5 0 2 = (⟨2, 0, 0, 0, 0, [2], false⟩, true, 0) := by simp [addP]
  rw [ha] at e5 sl5
  have hq5 : q5.2.1 = 1 := by have := sl5.1; simp at this; omega
  obtain ⟨w6, s6, b6, f6, d6⟩ := newR w5 ⟨2, 0, 0, 0, 0, [2], false⟩ q5
  have z1 := f1.size
  have z3 := F3.size
  have ng : w2.heap.size ∉ S4 := fun hm => by have := l1 _ (hS4 _ hm); have := f2.size; omega
  have b3' := ((b3.fr f4 ng).fr f5 (by simp)).fr f6 (by simp)
  have c0 : w6.cell? ⟨w2.heap.size, 0, none⟩ = some (.int .i64 1) := b3'.cell 0
  have c3 : w6.cell? ⟨w2.heap.size, 3, none⟩ = some (.int .u64 5) := b3'.cell 3
  have g0 : w6.cell? ⟨w5.heap.size, 0, none⟩ = some (.int .i64 2) := b6.cell 0
  have g5 : w6.cell? ⟨w5.heap.size, 5, none⟩ = some (.slice q5.1 q5.2.1 q5.2.2) := b6.cell 5
  have F6 : Fr [] w w6 := ((((f1.app F3).app f4).app f5).app f6).mono (by
    intro y hy hl
    simp only [List.nil_append, List.append_nil] at hy
    have := n1 y (hS4 y hy)
    omega)
  refine ⟨w6, g11_call ?_, F6⟩
  have e2' : callF Try.prog 14 #[.pointer (some ⟨w.heap.size + 1, 0, none⟩), .int .i64 0, .int .i64 1, .int .u64 5] w1 = some (.tuple #[.agg #[.int .i64 1, .int .i64 0, .int .i64 1, .int .u64 5, .int .i64 0, .slice none 0 0, .bool false], .bool true, .int .i64 0], w2) := e2
  have e4' : callF Try.prog 13 #[.pointer (some ⟨w.heap.size + 1, 0, none⟩), .agg #[.int .i64 1, .int .i64 0, .int .i64 1, .int .u64 5, .int .i64 0, .slice none 0 0, .bool false]] w3 = some (.tuple #[], w4) := e4
  have e5' : callF Try.prog 16 #[.pointer (some ⟨w.heap.size + 1, 0, none⟩), .int .i64 0, .int .u64 5, .int .i64 0, .int .i64 2] w4 = some (.tuple #[.agg #[.int .i64 2, .int .i64 0, .int .i64 0, .int .u64 0, .int .i64 0, .slice q5.1 q5.2.1 q5.2.2, .bool false], .bool true, .int .i64 0], w5) := e5
  unfold g11
  simp only [e1, e2', s3, d3, e4', e5', s6, addr_add, Nat.zero_add, c0, c3, g0, g5, obs, asP_pointer, asB_bool, asI_int, asS_string, asSl_slice, asM_map, asTup0, asTup1, asTup2, asTup3, asTup4, asTup5, asTup6, asTup7, asTup8, asTup9, asAgg2, asAgg3, asAgg4, asAgg5, asAgg6, asAgg7, asAgg8, asAgg9, asAgg12, getD0, getD1, getD2, getD3, getD4, getD5, getD6, getD7, getD8, getD9, getD10, getD11, getD12, getD13, getD14, getD15, getD16, getD17, getD18, getD19, Bool.not_true, Bool.not_false, Bool.false_eq_true, Bool.true_eq_false, ↓reduceIte, decide_true, decide_false, Option.isNone_some, Option.isNone_none, Option.isSome_some, Option.isSome_none, beq_self_eq_true, bne_self_eq_false, Bool.and_true, Bool.true_and, Bool.and_false, Bool.false_and, not_true_eq_false, not_false_eq_true]
  simp [hq5]
end Go.Proofs.Ytlcojbodcbjkaaa
