/-
  TxnH: lemmas on what Go functions of this seat come to (for whatever arguments, as each says). No condition but those that stand in each lemma.
-/
import Derived.Test.YtlcojbodcbjkaaaTxnG
namespace Go.Proofs.Ytlcojbodcbjkaaa
open Go Go.Ev
set_option maxRecDepth 100000
set_option linter.unusedVariables false
set_option linter.unusedSimpArgs false

def addP (t : TV) (n pid epoch part : Int) : RV × Bool × Int :=
  if n < 0 ∨ 8 ≤ n then (rv0, false, 1)
  else if part < 0 ∨ 6 ≤ part then (rv0, false, 1)
  else if t.st = 0 ∨ pid ≠ t.pid ∨ epoch ≠ t.ep then (rv0, false, 10)
  else if t.st = 3 then (rv0, false, 16)
  else if epoch ≥ 999 then (rv0, false, 17)
  else if part ∈ t.parts then (rv0, false, 0)
  else (⟨2, n, 0, 0, 0, [part], false⟩, true, 0)

def endP (t : TV) (n pid epoch : Int) (com : Bool) : RV × Bool × Int :=
  if n < 0 ∨ 8 ≤ n then (rv0, false, 1)
  else if t.st = 0 ∨ pid ≠ t.pid then (rv0, false, 10)
  else if epoch = t.last ∧ pid = t.lpid ∧ t.com ≠ com then (rv0, false, 14)
  else if epoch = t.last ∧ pid = t.lpid ∧ t.st = 3 then (rv0, false, 16)
  else if epoch = t.last ∧ pid = t.lpid then (rv0, false, 0)
  else if epoch ≠ t.ep then (rv0, false, 10)
  else if t.st ≠ 2 then (rv0, false, 14)
  else (⟨3, n, 0, 0, 0, [], com⟩, true, 0)

section
variable {w : World} {D : Nat → Prop} {b : Nat} {A : List (Int × TV)}

theorem add16 (h : Tb w D b A) (n pid epoch part : Int) (hp : ∀ v, kget A n = some v → v.parts.length ≤ 1000000000) :
    ∃ q w', callF Try.prog 16 #[.pointer (some ⟨b, 0, none⟩), .int .i64 n, .int .u64 pid, .int .i64 epoch, .int .i64 part] w = some (.tuple #[(addP (tvOf A n) n pid epoch part).1.arg q, .bool (addP (tvOf A n) n pid epoch part).2.1, .int .i64 (addP (tvOf A n) n pid epoch part).2.2], w') ∧ Fr [] w w' ∧
      SlC w' 1 q (intsV' (addP (tvOf A n) n pid epoch part).1.parts) ∧ (∀ y ∈ blkOf q, w.heap.size ≤ y) := by
  obtain ⟨q, w1, w2, w3, hw1, e2, s3, b1, f1, b3, bt, f3, lt, ow⟩ := begins h n hp
  have e34 := bad34 w1 b n
  have hpl : (tvOf A n).parts.length ≤ 1000000000 := by
    unfold tvOf
    cases hk : kget A n with
    | none => simp [tv0]
    | some v => exact hp v hk
  generalize tvOf A n = t at *
  suffices H : ∃ q w', g16 (some ⟨b, 0, none⟩) n pid epoch part w = some (.tuple #[(addP t n pid epoch part).1.arg q, .bool (addP t n pid epoch part).2.1, .int .i64 (addP t n pid epoch part).2.2], w') ∧ Fr [] w w' ∧
      SlC w' 1 q (intsV' (addP t n pid epoch part).1.parts) ∧ (∀ y ∈ blkOf q, w.heap.size ≤ y) by
    obtain ⟨q, w', e, f⟩ := H
    exact ⟨q, w', g16_call e, f⟩
  have nil : ∀ w', SlC w' 1 (none, 0, 0) (intsV' []) ∧ (∀ y ∈ blkOf ((none, 0, 0) : Option Addr × Nat × Nat), w.heap.size ≤ y) := fun w' => ⟨⟨rfl, by simp⟩, by simp [blkOf]⟩
  by_cases hn : n < 0 ∨ 8 ≤ n
  · obtain ⟨w', r1, r2, r3, _⟩ := retR b1 rfl f1 (Nat.le_refl _) rv0 (none, 0, 0)
    rw [if_pos hn] at e34
    have ei : addP t n pid epoch part = (rv0, false, 1) := by unfold addP; rw [if_pos hn]
    rw [ei]
    refine ⟨(none, 0, 0), w', ?_, r3, nil w'⟩
    simp only [rv0] at r1 r2
    have k0 : ((1 : Int) != 0) = true := rfl
    unfold g16
    rw [hw1]
    simp only [e34, k0, r1, r2, obs, asP_pointer, asB_bool, asI_int, asS_string, asSl_slice, asM_map, asTup0, asTup1, asTup2, asTup3, asTup4, asTup5, asTup6, asTup7, asTup8, asTup9, asAgg2, asAgg3, asAgg4, asAgg5, asAgg6, asAgg7, asAgg8, asAgg9, asAgg12, getD0, getD1, getD2, getD3, getD4, getD5, getD6, getD7, getD8, getD9, getD10, getD11, getD12, getD13, getD14, getD15, getD16, getD17, getD18, getD19, Bool.not_true, Bool.not_false, Bool.false_eq_true, Bool.true_eq_false, ↓reduceIte, decide_true, decide_false, Option.isNone_some, Option.isNone_none, Option.isSome_some, Option.isSome_none, beq_self_eq_true, bne_self_eq_false, Bool.and_true, Bool.true_and, Bool.and_false, Bool.false_and, not_true_eq_false, not_false_eq_true]
    rfl
  · rw [if_neg hn] at e34
    have c0 : w3.cell? ⟨w2.heap.size, 0, none⟩ = some (.int .i64 t.st) := bt.cell 0
    have c2 : w3.cell? ⟨w2.heap.size, 2, none⟩ = some (.int .u64 t.pid) := bt.cell 2
    have c3 : w3.cell? ⟨w2.heap.size, 3, none⟩ = some (.int .i64 t.ep) := bt.cell 3
    have c4 : w3.cell? ⟨w2.heap.size, 4, none⟩ = some (.slice q.1 q.2.1 q.2.2) := bt.cell 4
    have fin := retR b3 rfl f3 (Nat.le_refl _)
    have e2' : callF Try.prog 21 #[.pointer (some ⟨b, 0, none⟩), .int .i64 n] w1 = some (.agg #[.int .i64 t.st, .int .i64 t.inc, .int .u64 t.pid, .int .i64 t.ep, .slice q.1 q.2.1 q.2.2, .int .i64 t.last, .int .u64 t.lpid, .bool t.com], w2) := e2
    have ec := contains32 (w := w3) ow.slC (by omega) part
    have k0 : ((0 : Int) != 0) = false := rfl
    unfold g16
    rw [hw1]
    simp only [e34, k0, e2', s3, addr_add, Nat.zero_add, c0, c2, c3, c4, ec, obs, asP_pointer, asB_bool, asI_int, asS_string, asSl_slice, asM_map, asTup0, asTup1, asTup2, asTup3, asTup4, asTup5, asTup6, asTup7, asTup8, asTup9, asAgg2, asAgg3, asAgg4, asAgg5, asAgg6, asAgg7, asAgg8, asAgg9, asAgg12, getD0, getD1, getD2, getD3, getD4, getD5, getD6, getD7, getD8, getD9, getD10, getD11, getD12, getD13, getD14, getD15, getD16, getD17, getD18, getD19, Bool.not_true, Bool.not_false, Bool.false_eq_true, Bool.true_eq_false, ↓reduceIte, decide_true, decide_false, Option.isNone_some, Option.isNone_none, Option.isSome_some, Option.isSome_none, beq_self_eq_true, bne_self_eq_false, Bool.and_true, Bool.true_and, Bool.and_false, Bool.false_and, not_true_eq_false, not_false_eq_true]
    have leaf : ∀ (ok : Bool) (e : Int), ∃ w', (stL w3 ⟨w.heap.size, 0, none⟩ [.int .i64 0, .int .i64 0, .int .i64 0, .int .u64 0, .int .i64 0, .slice none 0 0, .bool false] 0 = some w' ∧ ldN w' ⟨w.heap.size, 0, none⟩ 0 7 = some [.int .i64 0, .int .i64 0, .int .i64 0, .int .u64 0, .int .i64 0, .slice none 0 0, .bool false]) ∧ Fr [] w w' := by
      intro ok e
      obtain ⟨w', r1, r2, r3, _⟩ := fin rv0 (none, 0, 0)
      exact ⟨w', ⟨r1, r2⟩, r3⟩
    obtain ⟨w', ⟨r1, r2⟩, r3⟩ := leaf false 0
    by_cases p0 : part < 0
    · have ei : addP t n pid epoch part = (rv0, false, 1) := by unfold addP; rw [if_neg hn, if_pos (.inl p0)]
      have k1 : decide (part < 0) = true := by simp [p0]
      rw [ei]
      refine ⟨(none, 0, 0), w', ?_, r3, nil w'⟩
      simp only [k1, r1, r2, obs, asP_pointer, asB_bool, asI_int, asS_string, asSl_slice, asM_map, asTup0, asTup1, asTup2, asTup3, asTup4, asTup5, asTup6, asTup7, asTup8, asTup9, asAgg2, asAgg3, asAgg4, asAgg5, asAgg6, asAgg7, asAgg8, asAgg9, asAgg12, getD0, getD1, getD2, getD3, getD4, getD5, getD6, getD7, getD8, getD9, getD10, getD11, getD12, getD13, getD14, getD15, getD16, getD17, getD18, getD19, Bool.not_true, Bool.not_false, Bool.false_eq_true, Bool.true_eq_false, ↓reduceIte, decide_true, decide_false, Option.isNone_some, Option.isNone_none, Option.isSome_some, Option.isSome_none, beq_self_eq_true, bne_self_eq_false, Bool.and_true, Bool.true_and, Bool.and_false, Bool.false_and, not_true_eq_false, not_false_eq_true]
      rfl
    have k1 : decide (part < 0) = false := by simp; omega
    by_cases p6 : 6 ≤ part
    · have ei : addP t n pid epoch part = (rv0, false, 1) := by unfold addP; rw [if_neg hn, if_pos (.inr p6)]
      have k2 : decide (part ≥ 6) = true := by simp; omega
      rw [ei]
      refine ⟨(none, 0, 0), w', ?_, r3, nil w'⟩
      simp only [k1, k2, r1, r2, obs, asP_pointer, asB_bool, asI_int, asS_string, asSl_slice, asM_map, asTup0, asTup1, asTup2, asTup3, asTup4, asTup5, asTup6, asTup7, asTup8, asTup9, asAgg2, asAgg3, asAgg4, asAgg5, asAgg6, asAgg7, asAgg8, asAgg9, asAgg12, getD0, getD1, getD2, getD3, getD4, getD5, getD6, getD7, getD8, getD9, getD10, getD11, getD12, getD13, getD14, getD15, getD16, getD17, getD18, getD19, Bool.not_true, Bool.not_false, Bool.false_eq_true, Bool.true_eq_false, ↓reduceIte, decide_true, decide_false, Option.isNone_some, Option.isNone_none, Option.isSome_some, Option.isSome_none, beq_self_eq_true, bne_self_eq_false, Bool.and_true, Bool.true_and, Bool.and_false, Bool.false_and, not_true_eq_false, not_false_eq_true]
      rfl
    have k2 : decide (part ≥ 6) = false := by simp; omega
    by_cases s0 : t.st = 0
    · have ei : addP t n pid epoch part = (rv0, false, 10) := by unfold addP; rw [if_neg hn, if_neg (by omega), if_pos (.inl s0)]
      have k3 : (t.st == 0) = true := by simp [s0]
      rw [ei]
      refine ⟨(none, 0, 0), w', ?_, r3, nil w'⟩
      simp only [k1, k2, k3, r1, r2, obs, asP_pointer, asB_bool, asI_int, asS_string, asSl_slice, asM_map, asTup0, asTup1, asTup2, asTup3, asTup4, asTup5, asTup6, asTup7, asTup8, asTup9, asAgg2, asAgg3, asAgg4, asAgg5, asAgg6, asAgg7, asAgg8, asAgg9, asAgg12, getD0, getD1, getD2, getD3, getD4, getD5, getD6, getD7, getD8, getD9, getD10, getD11, getD12, getD13, getD14, getD15, getD16, getD17, getD18, getD19, Bool.not_true, Bool.not_false, Bool.false_eq_true, Bool.true_eq_false, ↓reduceIte, decide_true, decide_false, Option.isNone_some, Option.isNone_none, Option.isSome_some, Option.isSome_none, beq_self_eq_true, bne_self_eq_false, Bool.and_true, Bool.true_and, Bool.and_false, Bool.false_and, not_true_eq_false, not_false_eq_true]
      rfl
    have k3 : (t.st == 0) = false := by simp [s0]
    by_cases hpd : ¬ pid = t.pid
    · have ei : addP t n pid epoch part = (rv0, false, 10) := by unfold addP; rw [if_neg hn, if_neg (by omega), if_pos (.inr (.inl hpd))]
      have k4 : (pid != t.pid) = true := by simp [hpd]
      rw [ei]
      refine ⟨(none, 0, 0), w', ?_, r3, nil w'⟩
      simp only [k1, k2, k3, k4, r1, r2, obs, asP_pointer, asB_bool, asI_int, asS_string, asSl_slice, asM_map, asTup0, asTup1, asTup2, asTup3, asTup4, asTup5, asTup6, asTup7, asTup8, asTup9, asAgg2, asAgg3, asAgg4, asAgg5, asAgg6, asAgg7, asAgg8, asAgg9, asAgg12, getD0, getD1, getD2, getD3, getD4, getD5, getD6, getD7, getD8, getD9, getD10, getD11, getD12, getD13, getD14, getD15, getD16, getD17, getD18, getD19, Bool.not_true, Bool.not_false, Bool.false_eq_true, Bool.true_eq_false, ↓reduceIte, decide_true, decide_false, Option.isNone_some, Option.isNone_none, Option.isSome_some, Option.isSome_none, beq_self_eq_true, bne_self_eq_false, Bool.and_true, Bool.true_and, Bool.and_false, Bool.false_and, not_true_eq_false, not_false_eq_true]
      rfl
    replace hpd := Decidable.not_not.mp hpd
    have k4 : (pid != t.pid) = false := by simp [hpd]
    by_cases hep : ¬ epoch = t.ep
    · have ei : addP t n pid epoch part = (rv0, false, 10) := by unfold addP; rw [if_neg hn, if_neg (by omega), if_pos (.inr (.inr hep))]
      have k5 : (epoch != t.ep) = true := by simp [hep]
      rw [ei]
      refine ⟨(none, 0, 0), w', ?_, r3, nil w'⟩
      simp only [k1, k2, k3, k4, k5, r1, r2, obs, asP_pointer, asB_bool, asI_int, asS_string, asSl_slice, asM_map, asTup0, asTup1, asTup2, asTup3, asTup4, asTup5, asTup6, asTup7, asTup8, asTup9, asAgg2, asAgg3, asAgg4, asAgg5, asAgg6, asAgg7, asAgg8, asAgg9, asAgg12, getD0, getD1, getD2, getD3, getD4, getD5, getD6, getD7, getD8, getD9, getD10, getD11, getD12, getD13, getD14, getD15, getD16, getD17, getD18, getD19, Bool.not_true, Bool.not_false, Bool.false_eq_true, Bool.true_eq_false, ↓reduceIte, decide_true, decide_false, Option.isNone_some, Option.isNone_none, Option.isSome_some, Option.isSome_none, beq_self_eq_true, bne_self_eq_false, Bool.and_true, Bool.true_and, Bool.and_false, Bool.false_and, not_true_eq_false, not_false_eq_true]
      rfl
    replace hep := Decidable.not_not.mp hep
    have k5 : (epoch != t.ep) = false := by simp [hep]
    have g3 : ¬ (t.st = 0 ∨ pid ≠ t.pid ∨ epoch ≠ t.ep) := by omega
    by_cases s3' : t.st = 3
    · have ei : addP t n pid epoch part = (rv0, false, 16) := by unfold addP; rw [if_neg hn, if_neg (by omega), if_neg g3, if_pos s3']
      have k6 : (t.st == 3) = true := by simp [s3']
      rw [ei]
      refine ⟨(none, 0, 0), w', ?_, r3, nil w'⟩
      simp only [k1, k2, k3, k4, k5, k6, r1, r2, obs, asP_pointer, asB_bool, asI_int, asS_string, asSl_slice, asM_map, asTup0, asTup1, asTup2, asTup3, asTup4, asTup5, asTup6, asTup7, asTup8, asTup9, asAgg2, asAgg3, asAgg4, asAgg5, asAgg6, asAgg7, asAgg8, asAgg9, asAgg12, getD0, getD1, getD2, getD3, getD4, getD5, getD6, getD7, getD8, getD9, getD10, getD11, getD12, getD13, getD14, getD15, getD16, getD17, getD18, getD19, Bool.not_true, Bool.not_false, Bool.false_eq_true, Bool.true_eq_false, ↓reduceIte, decide_true, decide_false, Option.isNone_some, Option.isNone_none, Option.isSome_some, Option.isSome_none, beq_self_eq_true, bne_self_eq_false, Bool.and_true, Bool.true_and, Bool.and_false, Bool.false_and, not_true_eq_false, not_false_eq_true]
      rfl
    have k6 : (t.st == 3) = false := by simp [s3']
    by_cases h9 : epoch ≥ 999
    · have ei : addP t n pid epoch part = (rv0, false, 17) := by unfold addP; rw [if_neg hn, if_neg (by omega), if_neg g3, if_neg s3', if_pos h9]
      have k7 : decide (epoch ≥ 999) = true := by simp; omega
      rw [ei]
      refine ⟨(none, 0, 0), w', ?_, r3, nil w'⟩
      simp only [k1, k2, k3, k4, k5, k6, k7, r1, r2, obs, asP_pointer, asB_bool, asI_int, asS_string, asSl_slice, asM_map, asTup0, asTup1, asTup2, asTup3, asTup4, asTup5, asTup6, asTup7, asTup8, asTup9, asAgg2, asAgg3, asAgg4, asAgg5, asAgg6, asAgg7, asAgg8, asAgg9, asAgg12, getD0, getD1, getD2, getD3, getD4, getD5, getD6, getD7, getD8, getD9, getD10, getD11, getD12, getD13, getD14, getD15, getD16, getD17, getD18, getD19, Bool.not_true, Bool.not_false, Bool.false_eq_true, Bool.true_eq_false, ↓reduceIte, decide_true, decide_false, Option.isNone_some, Option.isNone_none, Option.isSome_some, Option.isSome_none, beq_self_eq_true, bne_self_eq_false, Bool.and_true, Bool.true_and, Bool.and_false, Bool.false_and, not_true_eq_false, not_false_eq_true]
      rfl
    have k7 : decide (epoch ≥ 999) = false := by simp; omega
    by_cases hm : part ∈ t.parts
    · have ei : addP t n pid epoch part = (rv0, false, 0) := by unfold addP; rw [if_neg hn, if_neg (by omega), if_neg g3, if_neg s3', if_neg h9, if_pos hm]
      have k8 : decide (part ∈ t.parts) = true := by simp [hm]
      rw [ei]
      refine ⟨(none, 0, 0), w', ?_, r3, nil w'⟩
      simp only [k1, k2, k3, k4, k5, k6, k7, k8, r1, r2, obs, asP_pointer, asB_bool, asI_int, asS_string, asSl_slice, asM_map, asTup0, asTup1, asTup2, asTup3, asTup4, asTup5, asTup6, asTup7, asTup8, asTup9, asAgg2, asAgg3, asAgg4, asAgg5, asAgg6, asAgg7, asAgg8, asAgg9, asAgg12, getD0, getD1, getD2, getD3, getD4, getD5, getD6, getD7, getD8, getD9, getD10, getD11, getD12, getD13, getD14, getD15, getD16, getD17, getD18, getD19, Bool.not_true, Bool.not_false, Bool.false_eq_true, Bool.true_eq_false, ↓reduceIte, decide_true, decide_false, Option.isNone_some, Option.isNone_none, Option.isSome_some, Option.isSome_none, beq_self_eq_true, bne_self_eq_false, Bool.and_true, Bool.true_and, Bool.and_false, Bool.false_and, not_true_eq_false, not_false_eq_true]
      rfl
    have k8 : decide (part ∈ t.parts) = false := by simp [hm]
    have ei : addP t n pid epoch part = (⟨2, n, 0, 0, 0, [part], false⟩, true, 0) := by unfold addP; rw [if_neg hn, if_neg (by omega), if_neg g3, if_neg s3', if_neg h9, if_neg hm]
    rw [ei]
    have fa : Fr [] w3 (w3.alloc (.cells #[.int .i64 part] 3)) := Fr.alloc _
    have ba := Blk.new w3 [.int .i64 part] 3
    obtain ⟨x, hx⟩ : ∃ x, w3.alloc (.cells #[.int .i64 part] 3) = x := ⟨_, rfl⟩
    rw [hx] at fa
    have ba' : Blk x w3.heap.size [.int .i64 part] 3 := by rw [← hx]; exact ba
    have z3 := f3.size
    have lb := b3.lt
    obtain ⟨x', a1, a2, a3, a4⟩ := retR (b3.fr fa (by simp)) rfl ((Fr.mono (Fr.app f3 fa) (by have z0_ := Fr.size f3; have z1_ := Fr.size fa; intro y_ hy_ hl_; grind [blkOf]))) (Nat.le_refl _) ⟨2, n, 0, 0, 0, [part], false⟩ (some ⟨w3.heap.size, 0, none⟩, 1, 1)
    have ba2 := ba'.fr a4 (by simp; omega)
    refine ⟨(some ⟨w3.heap.size, 0, none⟩, 1, 1), x', ?_, a3, ⟨rfl, fun _ => ⟨w3.heap.size, 0, rfl, ba2.lt, fun j hj => ?_⟩⟩, fun y hy => by simp [blkOf] at hy; omega⟩
    · simp only [k1, k2, k3, k4, k5, k6, k7, k8, hx, a1, a2, obs, asP_pointer, asB_bool, asI_int, asS_string, asSl_slice, asM_map, asTup0, asTup1, asTup2, asTup3, asTup4, asTup5, asTup6, asTup7, asTup8, asTup9, asAgg2, asAgg3, asAgg4, asAgg5, asAgg6, asAgg7, asAgg8, asAgg9, asAgg12, getD0, getD1, getD2, getD3, getD4, getD5, getD6, getD7, getD8, getD9, getD10, getD11, getD12, getD13, getD14, getD15, getD16, getD17, getD18, getD19, Bool.not_true, Bool.not_false, Bool.false_eq_true, Bool.true_eq_false, ↓reduceIte, decide_true, decide_false, Option.isNone_some, Option.isNone_none, Option.isSome_some, Option.isSome_none, beq_self_eq_true, bne_self_eq_false, Bool.and_true, Bool.true_and, Bool.and_false, Bool.false_and, not_true_eq_false, not_false_eq_true]
      rfl
    · have : j = 0 := by simp at hj; omega
      subst this
      exact ba2.cell 0

theorem end18 (h : Tb w D b A) (n pid epoch : Int) (com : Bool) (hp : ∀ v, kget A n = some v → v.parts.length ≤ 1000000000) :
    ∃ w', callF Try.prog 18 #[.pointer (some ⟨b, 0, none⟩), .int .i64 n, .int .u64 pid, .int .i64 epoch, .bool com] w = some (.tuple #[(endP (tvOf A n) n pid epoch com).1.arg (none, 0, 0), .bool (endP (tvOf A n) n pid epoch com).2.1, .int .i64 (endP (tvOf A n) n pid epoch com).2.2], w') ∧ Fr [] w w' := by
  obtain ⟨q, w1, w2, w3, hw1, e2, s3, b1, f1, b3, bt, f3, lt, ow⟩ := begins h n hp
  have e34 := bad34 w1 b n
  generalize tvOf A n = t at *
  suffices H : ∃ w', g18 (some ⟨b, 0, none⟩) n pid epoch com w = some (.tuple #[(endP t n pid epoch com).1.arg (none, 0, 0), .bool (endP t n pid epoch com).2.1, .int .i64 (endP t n pid epoch com).2.2], w') ∧ Fr [] w w' by
    obtain ⟨w', e, f⟩ := H
    exact ⟨w', g18_call e, f⟩
  by_cases hn : n < 0 ∨ 8 ≤ n
  · obtain ⟨w', r1, r2, r3, _⟩ := retR b1 rfl f1 (Nat.le_refl _) rv0 (none, 0, 0)
    rw [if_pos hn] at e34
    have ei : endP t n pid epoch com = (rv0, false, 1) := by unfold endP; rw [if_pos hn]
    rw [ei]
    refine ⟨w', ?_, r3⟩
    simp only [rv0] at r1 r2
    have k0 : ((1 : Int) != 0) = true := rfl
    unfold g18
    rw [hw1]
    simp only [e34, k0, r1, r2, obs, asP_pointer, asB_bool, asI_int, asS_string, asSl_slice, asM_map, asTup0, asTup1, asTup2, asTup3, asTup4, asTup5, asTup6, asTup7, asTup8, asTup9, asAgg2, asAgg3, asAgg4, asAgg5, asAgg6, asAgg7, asAgg8, asAgg9, asAgg12, getD0, getD1, getD2, getD3, getD4, getD5, getD6, getD7, getD8, getD9, getD10, getD11, getD12, getD13, getD14, getD15, getD16, getD17, getD18, getD19, Bool.not_true, Bool.not_false, Bool.false_eq_true, Bool.true_eq_false, ↓reduceIte, decide_true, decide_false, Option.isNone_some, Option.isNone_none, Option.isSome_some, Option.isSome_none, beq_self_eq_true, bne_self_eq_false, Bool.and_true, Bool.true_and, Bool.and_false, Bool.false_and, not_true_eq_false, not_false_eq_true]
    rfl
  · rw [if_neg hn] at e34
    have c0 : w3.cell? ⟨w2.heap.size, 0, none⟩ = some (.int .i64 t.st) := bt.cell 0
    have c2 : w3.cell? ⟨w2.heap.size, 2, none⟩ = some (.int .u64 t.pid) := bt.cell 2
    have c3 : w3.cell? ⟨w2.heap.size, 3, none⟩ = some (.int .i64 t.ep) := bt.cell 3
    have c5 : w3.cell? ⟨w2.heap.size, 5, none⟩ = some (.int .i64 t.last) := bt.cell 5
    have c6 : w3.cell? ⟨w2.heap.size, 6, none⟩ = some (.int .u64 t.lpid) := bt.cell 6
    have c7 : w3.cell? ⟨w2.heap.size, 7, none⟩ = some (.bool t.com) := bt.cell 7
    have fin := retR b3 rfl f3 (Nat.le_refl _)
    have e2' : callF Try.prog 21 #[.pointer (some ⟨b, 0, none⟩), .int .i64 n] w1 = some (.agg #[.int .i64 t.st, .int .i64 t.inc, .int .u64 t.pid, .int .i64 t.ep, .slice q.1 q.2.1 q.2.2, .int .i64 t.last, .int .u64 t.lpid, .bool t.com], w2) := e2
    have k0 : ((0 : Int) != 0) = false := rfl
    unfold g18
    rw [hw1]
    simp only [e34, k0, e2', s3, addr_add, Nat.zero_add, c0, c2, c3, c5, c6, c7, obs, asP_pointer, asB_bool, asI_int, asS_string, asSl_slice, asM_map, asTup0, asTup1, asTup2, asTup3, asTup4, asTup5, asTup6, asTup7, asTup8, asTup9, asAgg2, asAgg3, asAgg4, asAgg5, asAgg6, asAgg7, asAgg8, asAgg9, asAgg12, getD0, getD1, getD2, getD3, getD4, getD5, getD6, getD7, getD8, getD9, getD10, getD11, getD12, getD13, getD14, getD15, getD16, getD17, getD18, getD19, Bool.not_true, Bool.not_false, Bool.false_eq_true, Bool.true_eq_false, ↓reduceIte, decide_true, decide_false, Option.isNone_some, Option.isNone_none, Option.isSome_some, Option.isSome_none, beq_self_eq_true, bne_self_eq_false, Bool.and_true, Bool.true_and, Bool.and_false, Bool.false_and, not_true_eq_false, not_false_eq_true]
    obtain ⟨w', r1, r2, r3, _⟩ := fin rv0 (none, 0, 0)
    simp only [rv0] at r1 r2
    by_cases s0 : t.st = 0
    · have ei : endP t n pid epoch com = (rv0, false, 10) := by unfold endP; rw [if_neg hn, if_pos (.inl s0)]
      have k3 : (t.st == 0) = true := by simp [s0]
      rw [ei]
      refine ⟨w', ?_, r3⟩
      simp only [k3, r1, r2, obs, asP_pointer, asB_bool, asI_int, asS_string, asSl_slice, asM_map, asTup0, asTup1, asTup2, asTup3, asTup4, asTup5, asTup6, asTup7, asTup8, asTup9, asAgg2, asAgg3, asAgg4, asAgg5, asAgg6, asAgg7, asAgg8, asAgg9, asAgg12, getD0, getD1, getD2, getD3, getD4, getD5, getD6, getD7, getD8, getD9, getD10, getD11, getD12, getD13, getD14, getD15, getD16, getD17, getD18, getD19, Bool.not_true, Bool.not_false, Bool.false_eq_true, Bool.true_eq_false, ↓reduceIte, decide_true, decide_false, Option.isNone_some, Option.isNone_none, Option.isSome_some, Option.isSome_none, beq_self_eq_true, bne_self_eq_false, Bool.and_true, Bool.true_and, Bool.and_false, Bool.false_and, not_true_eq_false, not_false_eq_true]
      rfl
    have k3 : (t.st == 0) = false := by simp [s0]
    by_cases hpd : ¬ pid = t.pid
    · have ei : endP t n pid epoch com = (rv0, false, 10) := by unfold endP; rw [if_neg hn, if_pos (.inr hpd)]
      have k4 : (pid != t.pid) = true := by simp [hpd]
      rw [ei]
      refine ⟨w', ?_, r3⟩
      simp only [k3, k4, r1, r2, obs, asP_pointer, asB_bool, asI_int, asS_string, asSl_slice, asM_map, asTup0, asTup1, asTup2, asTup3, asTup4, asTup5, asTup6, asTup7, asTup8, asTup9, asAgg2, asAgg3, asAgg4, asAgg5, asAgg6, asAgg7, asAgg8, asAgg9, asAgg12, getD0, getD1, getD2, getD3, getD4, getD5, getD6, getD7, getD8, getD9, getD10, getD11, getD12, getD13, getD14, getD15, getD16, getD17, getD18, getD19, Bool.not_true, Bool.not_false, Bool.false_eq_true, Bool.true_eq_false, ↓reduceIte, decide_true, decide_false, Option.isNone_some, Option.isNone_none, Option.isSome_some, Option.isSome_none, beq_self_eq_true, bne_self_eq_false, Bool.and_true, Bool.true_and, Bool.and_false, Bool.false_and, not_true_eq_false, not_false_eq_true]
      rfl
    replace hpd := Decidable.not_not.mp hpd
    have k4 : (pid != t.pid) = false := by simp [hpd]
    have g1 : ¬ (t.st = 0 ∨ pid ≠ t.pid) := by omega
    have rest : ¬ (epoch = t.last ∧ pid = t.lpid) → endP t n pid epoch com = if epoch ≠ t.ep then (rv0, false, 10) else if t.st ≠ 2 then (rv0, false, 14) else (⟨3, n, 0, 0, 0, [], com⟩, true, 0) := by
      intro hh
      unfold endP
      rw [if_neg hn, if_neg g1, if_neg (fun h => hh ⟨h.1, h.2.1⟩), if_neg (fun h => hh ⟨h.1, h.2.1⟩), if_neg hh]
    obtain ⟨w5, p1, p2, p3, _⟩ := fin ⟨3, n, 0, 0, 0, [], com⟩ (none, 0, 0)
    simp only at p1 p2
    by_cases hel : epoch = t.last
    · have k5 : (epoch == t.last) = true := by simp [hel]
      by_cases hpl : pid = t.lpid
      · have k6 : (pid == t.lpid) = true := by simp [hpl]
        by_cases hcc : t.com = com
        · have k7 : (t.com == com) = true := by simp [hcc]
          by_cases s3' : t.st = 3
          · have ei : endP t n pid epoch com = (rv0, false, 16) := by unfold endP; rw [if_neg hn, if_neg g1, if_neg (fun h => h.2.2 hcc), if_pos ⟨hel, hpl, s3'⟩]
            have k8 : (t.st == 3) = true := by simp [s3']
            rw [ei]
            refine ⟨w', ?_, r3⟩
            simp only [k3, k4, k5, k6, k7, k8, r1, r2, obs, asP_pointer, asB_bool, asI_int, asS_string, asSl_slice, asM_map, asTup0, asTup1, asTup2, asTup3, asTup4, asTup5, asTup6, asTup7, asTup8, asTup9, asAgg2, asAgg3, asAgg4, asAgg5, asAgg6, asAgg7, asAgg8, asAgg9, asAgg12, getD0, getD1, getD2, getD3, getD4, getD5, getD6, getD7, getD8, getD9, getD10, getD11, getD12, getD13, getD14, getD15, getD16, getD17, getD18, getD19, Bool.not_true, Bool.not_false, Bool.false_eq_true, Bool.true_eq_false, ↓reduceIte, decide_true, decide_false, Option.isNone_some, Option.isNone_none, Option.isSome_some, Option.isSome_none, beq_self_eq_true, bne_self_eq_false, Bool.and_true, Bool.true_and, Bool.and_false, Bool.false_and, not_true_eq_false, not_false_eq_true]
            rfl
          · have ei : endP t n pid epoch com = (rv0, false, 0) := by unfold endP; rw [if_neg hn, if_neg g1, if_neg (fun h => h.2.2 hcc), if_neg (fun h => s3' h.2.2), if_pos ⟨hel, hpl⟩]
            have k8 : (t.st == 3) = false := by simp [s3']
            rw [ei]
            refine ⟨w', ?_, r3⟩
            simp only [k3, k4, k5, k6, k7, k8, r1, r2, obs, asP_pointer, asB_bool, asI_int, asS_string, asSl_slice, asM_map, asTup0, asTup1, asTup2, asTup3, asTup4, asTup5, asTup6, asTup7, asTup8, asTup9, asAgg2, asAgg3, asAgg4, asAgg5, asAgg6, asAgg7, asAgg8, asAgg9, asAgg12, getD0, getD1, getD2, getD3, getD4, getD5, getD6, getD7, getD8, getD9, getD10, getD11, getD12, getD13, getD14, getD15, getD16, getD17, getD18, getD19, Bool.not_true, Bool.not_false, Bool.false_eq_true, Bool.true_eq_false, ↓reduceIte, decide_true, decide_false, Option.isNone_some, Option.isNone_none, Option.isSome_some, Option.isSome_none, beq_self_eq_true, bne_self_eq_false, Bool.and_true, Bool.true_and, Bool.and_false, Bool.false_and, not_true_eq_false, not_false_eq_true]
            rfl
        · have ei : endP t n pid epoch com = (rv0, false, 14) := by unfold endP; rw [if_neg hn, if_neg g1, if_pos ⟨hel, hpl, hcc⟩]
          have k7 : (t.com == com) = false := by simp [hcc]
          rw [ei]
          refine ⟨w', ?_, r3⟩
          simp only [k3, k4, k5, k6, k7, r1, r2, obs, asP_pointer, asB_bool, asI_int, asS_string, asSl_slice, asM_map, asTup0, asTup1, asTup2, asTup3, asTup4, asTup5, asTup6, asTup7, asTup8, asTup9, asAgg2, asAgg3, asAgg4, asAgg5, asAgg6, asAgg7, asAgg8, asAgg9, asAgg12, getD0, getD1, getD2, getD3, getD4, getD5, getD6, getD7, getD8, getD9, getD10, getD11, getD12, getD13, getD14, getD15, getD16, getD17, getD18, getD19, Bool.not_true, Bool.not_false, Bool.false_eq_true, Bool.true_eq_false, ↓reduceIte, decide_true, decide_false, Option.isNone_some, Option.isNone_none, Option.isSome_some, Option.isSome_none, beq_self_eq_true, bne_self_eq_false, Bool.and_true, Bool.true_and, Bool.and_false, Bool.false_and, not_true_eq_false, not_false_eq_true]
          rfl
      · have k6 : (pid == t.lpid) = false := by simp [hpl]
        rw [rest (fun h => hpl h.2)]
        by_cases hep : epoch = t.ep
        · have k8 : (epoch != t.ep) = false := by simp [hep]
          by_cases s2 : t.st = 2
          · have k9 : (t.st != 2) = false := by simp [s2]
            rw [if_neg (show ¬ epoch ≠ t.ep from fun h => h hep), if_neg (show ¬ t.st ≠ 2 from fun h => h s2)]
            refine ⟨w5, ?_, p3⟩
            simp only [k3, k4, k5, k6, k8, k9, p1, p2, obs, asP_pointer, asB_bool, asI_int, asS_string, asSl_slice, asM_map, asTup0, asTup1, asTup2, asTup3, asTup4, asTup5, asTup6, asTup7, asTup8, asTup9, asAgg2, asAgg3, asAgg4, asAgg5, asAgg6, asAgg7, asAgg8, asAgg9, asAgg12, getD0, getD1, getD2, getD3, getD4, getD5, getD6, getD7, getD8, getD9, getD10, getD11, getD12, getD13, getD14, getD15, getD16, getD17, getD18, getD19, Bool.not_true, Bool.not_false, Bool.false_eq_true, Bool.true_eq_false, ↓reduceIte, decide_true, decide_false, Option.isNone_some, Option.isNone_none, Option.isSome_some, Option.isSome_none, beq_self_eq_true, bne_self_eq_false, Bool.and_true, Bool.true_and, Bool.and_false, Bool.false_and, not_true_eq_false, not_false_eq_true]
            rfl
          · have k9 : (t.st != 2) = true := by simp [s2]
            rw [if_neg (show ¬ epoch ≠ t.ep from fun h => h hep), if_pos (show t.st ≠ 2 from s2)]
            refine ⟨w', ?_, r3⟩
            simp only [k3, k4, k5, k6, k8, k9, r1, r2, obs, asP_pointer, asB_bool, asI_int, asS_string, asSl_slice, asM_map, asTup0, asTup1, asTup2, asTup3, asTup4, asTup5, asTup6, asTup7, asTup8, asTup9, asAgg2, asAgg3, asAgg4, asAgg5, asAgg6, asAgg7, asAgg8, asAgg9, asAgg12, getD0, getD1, getD2, getD3, getD4, getD5, getD6, getD7, getD8, getD9, getD10, getD11, getD12, getD13, getD14, getD15, getD16, getD17, getD18, getD19, Bool.not_true, Bool.not_false, Bool.false_eq_true, Bool.true_eq_false, ↓reduceIte, decide_true, decide_false, Option.isNone_some, Option.isNone_none, Option.isSome_some, Option.isSome_none, beq_self_eq_true, bne_self_eq_false, Bool.and_true, Bool.true_and, Bool.and_false, Bool.false_and, not_true_eq_false, not_false_eq_true]
            rfl
        · have k8 : (epoch != t.ep) = true := by simp [hep]
          rw [if_pos hep]
          refine ⟨w', ?_, r3⟩
          simp only [k3, k4, k5, k6, k8, r1, r2, obs, asP_pointer, asB_bool, asI_int, asS_string, asSl_slice, asM_map, asTup0, asTup1, asTup2, asTup3, asTup4, asTup5, asTup6, asTup7, asTup8, asTup9, asAgg2, asAgg3, asAgg4, asAgg5, asAgg6, asAgg7, asAgg8, asAgg9, asAgg12, getD0, getD1, getD2, getD3, getD4, getD5, getD6, getD7, getD8, getD9, getD10, getD11, getD12, getD13, getD14, getD15, getD16, getD17, getD18, getD19, Bool.not_true, Bool.not_false, Bool.false_eq_true, Bool.true_eq_false, ↓reduceIte, decide_true, decide_false, Option.isNone_some, Option.isNone_none, Option.isSome_some, Option.isSome_none, beq_self_eq_true, bne_self_eq_false, Bool.and_true, Bool.true_and, Bool.and_false, Bool.false_and, not_true_eq_false, not_false_eq_true]
          rfl
    · have k5 : (epoch == t.last) = false := by simp [hel]
      rw [rest (fun h => hel h.1)]
      by_cases hep : epoch = t.ep
      · have k8 : (epoch != t.ep) = false := by simp [hep]
        by_cases s2 : t.st = 2
        · have k9 : (t.st != 2) = false := by simp [s2]
          rw [if_neg (show ¬ epoch ≠ t.ep from fun h => h hep), if_neg (show ¬ t.st ≠ 2 from fun h => h s2)]
          refine ⟨w5, ?_, p3⟩
          simp only [k3, k4, k5, k8, k9, p1, p2, obs, asP_pointer, asB_bool, asI_int, asS_string, asSl_slice, asM_map, asTup0, asTup1, asTup2, asTup3, asTup4, asTup5, asTup6, asTup7, asTup8, asTup9, asAgg2, asAgg3, asAgg4, asAgg5, asAgg6, asAgg7, asAgg8, asAgg9, asAgg12, getD0, getD1, getD2, getD3, getD4, getD5, getD6, getD7, getD8, getD9, getD10, getD11, getD12, getD13, getD14, getD15, getD16, getD17, getD18, getD19, Bool.not_true, Bool.not_false, Bool.false_eq_true, Bool.true_eq_false, ↓reduceIte, decide_true, decide_false, Option.isNone_some, Option.isNone_none, Option.isSome_some, Option.isSome_none, beq_self_eq_true, bne_self_eq_false, Bool.and_true, Bool.true_and, Bool.and_false, Bool.false_and, not_true_eq_false, not_false_eq_true]
          rfl
        · have k9 : (t.st != 2) = true := by simp [s2]
          rw [if_neg (show ¬ epoch ≠ t.ep from fun h => h hep), if_pos (show t.st ≠ 2 from s2)]
          refine ⟨w', ?_, r3⟩
          simp only [k3, k4, k5, k8, k9, r1, r2, obs, asP_pointer, asB_bool, asI_int, asS_string, asSl_slice, asM_map, asTup0, asTup1, asTup2, asTup3, asTup4, asTup5, asTup6, asTup7, asTup8, asTup9, asAgg2, asAgg3, asAgg4, asAgg5, asAgg6, asAgg7, asAgg8, asAgg9, asAgg12, getD0, getD1, getD2, getD3, getD4, getD5, getD6, getD7, getD8, getD9, getD10, getD11, getD12, getD13, getD14, getD15, getD16, getD17, getD18, getD19, Bool.not_true, Bool.not_false, Bool.false_eq_true, Bool.true_eq_false, ↓reduceIte, decide_true, decide_false, Option.isNone_some, Option.isNone_none, Option.isSome_some, Option.isSome_none, beq_self_eq_true, bne_self_eq_false, Bool.and_true, Bool.true_and, Bool.and_false, Bool.false_and, not_true_eq_false, not_false_eq_true]
          rfl
      · have k8 : (epoch != t.ep) = true := by simp [hep]
        rw [if_pos hep]
        refine ⟨w', ?_, r3⟩
        simp only [k3, k4, k5, k8, r1, r2, obs, asP_pointer, asB_bool, asI_int, asS_string, asSl_slice, asM_map, asTup0, asTup1, asTup2, asTup3, asTup4, asTup5, asTup6, asTup7, asTup8, asTup9, asAgg2, asAgg3, asAgg4, asAgg5, asAgg6, asAgg7, asAgg8, asAgg9, asAgg12, getD0, getD1, getD2, getD3, getD4, getD5, getD6, getD7, getD8, getD9, getD10, getD11, getD12, getD13, getD14, getD15, getD16, getD17, getD18, getD19, Bool.not_true, Bool.not_false, Bool.false_eq_true, Bool.true_eq_false, ↓reduceIte, decide_true, decide_false, Option.isNone_some, Option.isNone_none, Option.isSome_some, Option.isSome_none, beq_self_eq_true, bne_self_eq_false, Bool.and_true, Bool.true_and, Bool.and_false, Bool.false_and, not_true_eq_false, not_false_eq_true]
        rfl
end
end Go.Proofs.Ytlcojbodcbjkaaa
