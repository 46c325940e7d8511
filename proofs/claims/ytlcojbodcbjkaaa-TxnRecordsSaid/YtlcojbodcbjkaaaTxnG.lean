/-
  TxnG: lemmas on what Go functions of this seat come to (for whatever arguments, as each says). No condition but those that stand in each lemma.
-/
import Derived.Test.YtlcojbodcbjkaaaTxnE
namespace Go.Proofs.Ytlcojbodcbjkaaa
open Go Go.Ev
set_option maxRecDepth 100000
set_option linter.unusedVariables false
set_option linter.unusedSimpArgs false

/-- a record: kind, name, incarnation, producer, epoch -/
structure RV where
  k : Int
  tx : Int
  inc : Int
  pid : Int
  ep : Int
  parts : List Int
  com : Bool
def rv0 : RV := ⟨0, 0, 0, 0, 0, [], false⟩
def RV.cs (r : RV) (q : Option Addr × Nat × Nat) : List Value := [.int .i64 r.k, .int .i64 r.tx, .int .i64 r.inc, .int .u64 r.pid, .int .i64 r.ep, .slice q.1 q.2.1 q.2.2, .bool r.com]
def RV.arg (r : RV) (q : Option Addr × Nat × Nat) : Value := .agg #[.int .i64 r.k, .int .i64 r.tx, .int .i64 r.inc, .int .u64 r.pid, .int .i64 r.ep, .slice q.1 q.2.1 q.2.2, .bool r.com]
theorem rvcs_oc (r : RV) (q : Option Addr × Nat × Nat) : ∀ u ∈ r.cs q, u.oneCell' = true := by
  intro u hu
  simp only [RV.cs, List.mem_cons, List.not_mem_nil, or_false] at hu
  rcases hu with rfl | rfl | rfl | rfl | rfl | rfl | rfl <;> rfl
theorem zero30 (w : World) : Blk (w.alloc (.cells #[.int .i64 0, .int .i64 0, .int .i64 0, .int .u64 0, .int .i64 0, .slice none 0 0, .bool false] 30)) w.heap.size (rv0.cs (none, 0, 0)) 30 ∧
    Fr [] w (w.alloc (.cells #[.int .i64 0, .int .i64 0, .int .i64 0, .int .u64 0, .int .i64 0, .slice none 0 0, .bool false] 30)) := ⟨Blk.new w (rv0.cs (none, 0, 0)) 30, Fr.alloc _⟩

/-- a result is written, and read back -/
theorem retR {w x : World} {g : Nat} {cs : List Value} (hb : Blk x g cs 30) (hl : cs.length = 7) (hf : Fr [] w x) (hg : w.heap.size ≤ g) (r : RV) (q : Option Addr × Nat × Nat) :
    ∃ w', stL x ⟨g, 0, none⟩ [.int .i64 r.k, .int .i64 r.tx, .int .i64 r.inc, .int .u64 r.pid, .int .i64 r.ep, .slice q.1 q.2.1 q.2.2, .bool r.com] 0 = some w' ∧
      ldN w' ⟨g, 0, none⟩ 0 7 = some [.int .i64 r.k, .int .i64 r.tx, .int .i64 r.inc, .int .u64 r.pid, .int .i64 r.ep, .slice q.1 q.2.1 q.2.2, .bool r.com] ∧ Fr [] w w' ∧ Fr [g] x w' := by
  obtain ⟨w', h1, h2, h3⟩ := hb.stL (vs := r.cs q) (by rw [hl]; rfl) (rvcs_oc r q)
  exact ⟨w', h1, h2.ldN (n := 7) rfl, (hf.app h3).mono (by intro y hy hl; simp at hy; omega), h3⟩

/-- what Init decides -/
def initP (t : TV) (n inc pid : Int) : RV × Bool × Int :=
  if n < 0 ∨ 8 ≤ n then (rv0, false, 1)
  else if t.st ≠ 0 ∧ inc < t.inc then (rv0, false, 10)
  else if t.st = 3 then (rv0, false, 16)
  else if t.st ≠ 0 ∧ inc = t.inc then (rv0, false, 0)
  else if t.st = 2 then (⟨3, n, 0, 0, 0, [], false⟩, true, 16)
  else if t.st = 0 ∨ IntKind.i64.wrap (t.ep + 2) ≥ 999 then (if pid = 0 then (rv0, false, 16) else (⟨1, n, inc, pid, 0, [], false⟩, true, 0))
  else (⟨1, n, inc, t.pid, IntKind.i64.wrap (t.ep + 2), [], false⟩, true, 0)

theorem bad34 (w : World) (b : Nat) (n : Int) : callF Try.prog 34 #[.pointer (some ⟨b, 0, none⟩), .int .i64 n] w = some (.int .i64 (if n < 0 ∨ 8 ≤ n then 1 else 0), w) := by
  refine g34_call ?_
  unfold g34
  by_cases h1 : n < 0
  · simp only [h1, obs, asP_pointer, asB_bool, asI_int, asS_string, asSl_slice, asM_map, asTup0, asTup1, asTup2, asTup3, asTup4, asTup5, asTup6, asTup7, asTup8, asTup9, asAgg2, asAgg3, asAgg4, asAgg5, asAgg6, asAgg7, asAgg8, asAgg9, asAgg12, getD0, getD1, getD2, getD3, getD4, getD5, getD6, getD7, getD8, getD9, getD10, getD11, getD12, getD13, getD14, getD15, getD16, getD17, getD18, getD19, Bool.not_true, Bool.not_false, Bool.false_eq_true, Bool.true_eq_false, ↓reduceIte, decide_true, decide_false, Option.isNone_some, Option.isNone_none, Option.isSome_some, Option.isSome_none, beq_self_eq_true, bne_self_eq_false, Bool.and_true, Bool.true_and, Bool.and_false, Bool.false_and, not_true_eq_false, not_false_eq_true]; simp
  · by_cases h2 : 8 ≤ n
    · have k1 : decide (n ≥ 8) = true := by simp; omega
      simp only [h1, k1, obs, asP_pointer, asB_bool, asI_int, asS_string, asSl_slice, asM_map, asTup0, asTup1, asTup2, asTup3, asTup4, asTup5, asTup6, asTup7, asTup8, asTup9, asAgg2, asAgg3, asAgg4, asAgg5, asAgg6, asAgg7, asAgg8, asAgg9, asAgg12, getD0, getD1, getD2, getD3, getD4, getD5, getD6, getD7, getD8, getD9, getD10, getD11, getD12, getD13, getD14, getD15, getD16, getD17, getD18, getD19, Bool.not_true, Bool.not_false, Bool.false_eq_true, Bool.true_eq_false, ↓reduceIte, decide_true, decide_false, Option.isNone_some, Option.isNone_none, Option.isSome_some, Option.isSome_none, beq_self_eq_true, bne_self_eq_false, Bool.and_true, Bool.true_and, Bool.and_false, Bool.false_and, not_true_eq_false, not_false_eq_true]; simp [h2]
    · have k1 : decide (n ≥ 8) = false := by simp; omega
      simp only [h1, k1, obs, asP_pointer, asB_bool, asI_int, asS_string, asSl_slice, asM_map, asTup0, asTup1, asTup2, asTup3, asTup4, asTup5, asTup6, asTup7, asTup8, asTup9, asAgg2, asAgg3, asAgg4, asAgg5, asAgg6, asAgg7, asAgg8, asAgg9, asAgg12, getD0, getD1, getD2, getD3, getD4, getD5, getD6, getD7, getD8, getD9, getD10, getD11, getD12, getD13, getD14, getD15, getD16, getD17, getD18, getD19, Bool.not_true, Bool.not_false, Bool.false_eq_true, Bool.true_eq_false, ↓reduceIte, decide_true, decide_false, Option.isNone_some, Option.isNone_none, Option.isSome_some, Option.isSome_none, beq_self_eq_true, bne_self_eq_false, Bool.and_true, Bool.true_and, Bool.and_false, Bool.false_and, not_true_eq_false, not_false_eq_true]; simp [h1, h2]

section
variable {w : World} {D : Nat → Prop} {b : Nat} {A : List (Int × TV)}

/-- the beginning of Init, Add and End -/
theorem begins (h : Tb w D b A) (n : Int) (hp : ∀ v, kget A n = some v → v.parts.length ≤ 1000000000) :
    ∃ (q : Option Addr × Nat × Nat) (w1 w2 w3 : World), w.alloc (.cells #[.int .i64 0, .int .i64 0, .int .i64 0, .int .u64 0, .int .i64 0, .slice none 0 0, .bool false] 30) = w1 ∧ callF Try.prog 21 #[.pointer (some ⟨b, 0, none⟩), .int .i64 n] w1 = some ((tvOf A n).arg q, w2) ∧
      stL (w2.alloc (.cells #[.int .i64 0, .int .i64 0, .int .u64 0, .int .i64 0, .slice none 0 0, .int .i64 0, .int .u64 0, .bool false] 46)) ⟨w2.heap.size, 0, none⟩ [.int .i64 (tvOf A n).st, .int .i64 (tvOf A n).inc, .int .u64 (tvOf A n).pid, .int .i64 (tvOf A n).ep, .slice q.1 q.2.1 q.2.2, .int .i64 (tvOf A n).last, .int .u64 (tvOf A n).lpid, .bool (tvOf A n).com] 0 = some w3 ∧
      Blk w1 w.heap.size (rv0.cs (none, 0, 0)) 30 ∧ Fr [] w w1 ∧ Blk w3 w.heap.size (rv0.cs (none, 0, 0)) 30 ∧ Blk w3 w2.heap.size ((tvOf A n).cs q) 46 ∧ Fr [] w w3 ∧ w.heap.size < w2.heap.size ∧ Own w3 3 1 q (intsV' (tvOf A n).parts) := by
  obtain ⟨b1, f1⟩ := zero30 w
  obtain ⟨w1, hw1⟩ : ∃ w1, w.alloc (.cells #[.int .i64 0, .int .i64 0, .int .i64 0, .int .u64 0, .int .i64 0, .slice none 0 0, .bool false] 30) = w1 := ⟨_, rfl⟩
  rw [hw1] at b1 f1
  obtain ⟨q, w2, e2, f2, o2, n2⟩ := tx21 (h.fr f1 (by simp)) n hp
  obtain ⟨b3, f3⟩ := zero46 w2
  obtain ⟨w3, s3, b4, f4⟩ := b3.stL (vs := (tvOf A n).cs q) rfl (tvcs_oc _ _)
  have z1 := f1.size
  have z2 := f2.size
  have F3 : Fr [] w2 w3 := (f3.app f4).mono (by intro y hy hl; simp at hy; omega)
  have b13 := (b1.fr f2 (by simp)).fr F3 (by simp)
  have l1 := b1.lt
  exact ⟨q, w1, w2, w3, hw1, e2, s3, b1, f1, b13, b4, (Fr.mono (Fr.app (Fr.app f1 f2) F3) (by have z0_ := Fr.size f1; have z1_ := Fr.size f2; have z2_ := Fr.size F3; intro y_ hy_ hl_; grind [blkOf])), by omega, o2.fr F3 (by simp)⟩

theorem init14 (h : Tb w D b A) (n inc pid : Int) (hp : ∀ v, kget A n = some v → v.parts.length ≤ 1000000000) :
    ∃ w', callF Try.prog 14 #[.pointer (some ⟨b, 0, none⟩), .int .i64 n, .int .i64 inc, .int .u64 pid] w = some (.tuple #[(initP (tvOf A n) n inc pid).1.arg (none, 0, 0), .bool (initP (tvOf A n) n inc pid).2.1, .int .i64 (initP (tvOf A n) n inc pid).2.2], w') ∧ Fr [] w w' := by
  obtain ⟨q, w1, w2, w3, hw1, e2, s3, b1, f1, b3, bt, f3, lt, ow⟩ := begins h n hp
  have e34 := bad34 w1 b n
  generalize tvOf A n = t at *
  by_cases hn : n < 0 ∨ 8 ≤ n
  · obtain ⟨w', r1, r2, r3, _⟩ := retR b1 rfl f1 (Nat.le_refl _) rv0 (none, 0, 0)
    rw [if_pos hn] at e34
    refine ⟨w', g14_call ?_, r3⟩
    have : initP t n inc pid = (rv0, false, 1) := by unfold initP; rw [if_pos hn]
    rw [this]
    simp only [rv0] at r1 r2
    unfold g14
    rw [hw1]
    simp only [e34, obs, asP_pointer, asB_bool, asI_int, asS_string, asSl_slice, asM_map, asTup0, asTup1, asTup2, asTup3, asTup4, asTup5, asTup6, asTup7, asTup8, asTup9, asAgg2, asAgg3, asAgg4, asAgg5, asAgg6, asAgg7, asAgg8, asAgg9, asAgg12, getD0, getD1, getD2, getD3, getD4, getD5, getD6, getD7, getD8, getD9, getD10, getD11, getD12, getD13, getD14, getD15, getD16, getD17, getD18, getD19, Bool.not_true, Bool.not_false, Bool.false_eq_true, Bool.true_eq_false, ↓reduceIte, decide_true, decide_false, Option.isNone_some, Option.isNone_none, Option.isSome_some, Option.isSome_none, beq_self_eq_true, bne_self_eq_false, Bool.and_true, Bool.true_and, Bool.and_false, Bool.false_and, not_true_eq_false, not_false_eq_true]
    simp
    rw [r1]
    simp only [r2, obs, asP_pointer, asB_bool, asI_int, asS_string, asSl_slice, asM_map, asTup0, asTup1, asTup2, asTup3, asTup4, asTup5, asTup6, asTup7, asTup8, asTup9, asAgg2, asAgg3, asAgg4, asAgg5, asAgg6, asAgg7, asAgg8, asAgg9, asAgg12, getD0, getD1, getD2, getD3, getD4, getD5, getD6, getD7, getD8, getD9, getD10, getD11, getD12, getD13, getD14, getD15, getD16, getD17, getD18, getD19, Bool.not_true, Bool.not_false, Bool.false_eq_true, Bool.true_eq_false, ↓reduceIte, decide_true, decide_false, Option.isNone_some, Option.isNone_none, Option.isSome_some, Option.isSome_none, beq_self_eq_true, bne_self_eq_false, Bool.and_true, Bool.true_and, Bool.and_false, Bool.false_and, not_true_eq_false, not_false_eq_true]
    rfl
  · rw [if_neg hn] at e34
    have c0 : w3.cell? ⟨w2.heap.size, 0, none⟩ = some (.int .i64 t.st) := bt.cell 0
    have c1 : w3.cell? ⟨w2.heap.size, 1, none⟩ = some (.int .i64 t.inc) := bt.cell 1
    have c2 : w3.cell? ⟨w2.heap.size, 2, none⟩ = some (.int .u64 t.pid) := bt.cell 2
    have c3 : w3.cell? ⟨w2.heap.size, 3, none⟩ = some (.int .i64 t.ep) := bt.cell 3
    have fin := retR b3 rfl f3 (Nat.le_refl _)
    have e2' : callF Try.prog 21 #[.pointer (some ⟨b, 0, none⟩), .int .i64 n] w1 = some (.agg #[.int .i64 t.st, .int .i64 t.inc, .int .u64 t.pid, .int .i64 t.ep, .slice q.1 q.2.1 q.2.2, .int .i64 t.last, .int .u64 t.lpid, .bool t.com], w2) := e2
    have hwz : IntKind.i64.wrap (t.ep + 2) = IntKind.i64.wrap (t.ep + 2) := rfl
    suffices H : ∃ w', g14 (some ⟨b, 0, none⟩) n inc pid w = some (.tuple #[(initP t n inc pid).1.arg (none, 0, 0), .bool (initP t n inc pid).2.1, .int .i64 (initP t n inc pid).2.2], w') ∧ Fr [] w w' by
      obtain ⟨w', e, f⟩ := H
      exact ⟨w', g14_call e, f⟩
    unfold g14
    rw [hw1]
    have k0 : ((0 : Int) != 0) = false := rfl
    simp only [e34, k0, e2', s3, addr_add, Nat.zero_add, c0, c1, c2, c3, obs, asP_pointer, asB_bool, asI_int, asS_string, asSl_slice, asM_map, asTup0, asTup1, asTup2, asTup3, asTup4, asTup5, asTup6, asTup7, asTup8, asTup9, asAgg2, asAgg3, asAgg4, asAgg5, asAgg6, asAgg7, asAgg8, asAgg9, asAgg12, getD0, getD1, getD2, getD3, getD4, getD5, getD6, getD7, getD8, getD9, getD10, getD11, getD12, getD13, getD14, getD15, getD16, getD17, getD18, getD19, Bool.not_true, Bool.not_false, Bool.false_eq_true, Bool.true_eq_false, ↓reduceIte, decide_true, decide_false, Option.isNone_some, Option.isNone_none, Option.isSome_some, Option.isSome_none, beq_self_eq_true, bne_self_eq_false, Bool.and_true, Bool.true_and, Bool.and_false, Bool.false_and, not_true_eq_false, not_false_eq_true]
    have leaf : ∀ (r : RV) (ok : Bool) (e : Int), initP t n inc pid = (r, ok, e) → r.parts = [] →
        ∃ w', (stL w3 ⟨w.heap.size, 0, none⟩ [.int .i64 r.k, .int .i64 r.tx, .int .i64 r.inc, .int .u64 r.pid, .int .i64 r.ep, .slice none 0 0, .bool r.com] 0 = some w' ∧ ldN w' ⟨w.heap.size, 0, none⟩ 0 7 = some [.int .i64 r.k, .int .i64 r.tx, .int .i64 r.inc, .int .u64 r.pid, .int .i64 r.ep, .slice none 0 0, .bool r.com]) ∧ Fr [] w w' := by
      intro r ok e _ _
      obtain ⟨w', r1, r2, r3, _⟩ := fin r (none, 0, 0)
      exact ⟨w', ⟨r1, r2⟩, r3⟩
    by_cases s3' : t.st = 3
    · have k1 : (t.st != 0) = true := by simp [s3']
      have k2 : (t.st == 3) = true := by simp [s3']
      by_cases hi : inc < t.inc
      · have ei : initP t n inc pid = (rv0, false, 10) := by unfold initP; rw [if_neg hn, if_pos ⟨by omega, hi⟩]
        obtain ⟨w', ⟨r1, r2⟩, r3⟩ := leaf _ _ _ ei rfl
        rw [ei]
        simp only [rv0] at r1 r2
        have k3 : decide (inc < t.inc) = true := by simp [hi]
        refine ⟨w', ?_, r3⟩
        simp only [k1, k3, r1, r2, obs, asP_pointer, asB_bool, asI_int, asS_string, asSl_slice, asM_map, asTup0, asTup1, asTup2, asTup3, asTup4, asTup5, asTup6, asTup7, asTup8, asTup9, asAgg2, asAgg3, asAgg4, asAgg5, asAgg6, asAgg7, asAgg8, asAgg9, asAgg12, getD0, getD1, getD2, getD3, getD4, getD5, getD6, getD7, getD8, getD9, getD10, getD11, getD12, getD13, getD14, getD15, getD16, getD17, getD18, getD19, Bool.not_true, Bool.not_false, Bool.false_eq_true, Bool.true_eq_false, ↓reduceIte, decide_true, decide_false, Option.isNone_some, Option.isNone_none, Option.isSome_some, Option.isSome_none, beq_self_eq_true, bne_self_eq_false, Bool.and_true, Bool.true_and, Bool.and_false, Bool.false_and, not_true_eq_false, not_false_eq_true]
        rfl
      · have ei : initP t n inc pid = (rv0, false, 16) := by unfold initP; rw [if_neg hn, if_neg (by omega), if_pos s3']
        obtain ⟨w', ⟨r1, r2⟩, r3⟩ := leaf _ _ _ ei rfl
        rw [ei]
        simp only [rv0] at r1 r2
        have k3 : decide (inc < t.inc) = false := by simp; omega
        refine ⟨w', ?_, r3⟩
        simp only [k1, k3, k2, r1, r2, obs, asP_pointer, asB_bool, asI_int, asS_string, asSl_slice, asM_map, asTup0, asTup1, asTup2, asTup3, asTup4, asTup5, asTup6, asTup7, asTup8, asTup9, asAgg2, asAgg3, asAgg4, asAgg5, asAgg6, asAgg7, asAgg8, asAgg9, asAgg12, getD0, getD1, getD2, getD3, getD4, getD5, getD6, getD7, getD8, getD9, getD10, getD11, getD12, getD13, getD14, getD15, getD16, getD17, getD18, getD19, Bool.not_true, Bool.not_false, Bool.false_eq_true, Bool.true_eq_false, ↓reduceIte, decide_true, decide_false, Option.isNone_some, Option.isNone_none, Option.isSome_some, Option.isSome_none, beq_self_eq_true, bne_self_eq_false, Bool.and_true, Bool.true_and, Bool.and_false, Bool.false_and, not_true_eq_false, not_false_eq_true]
        rfl
    have k2 : (t.st == 3) = false := by simp [s3']
    -- a new producer, or the next epoch
    have newR : ∀ (p e : Int), ∃ w4 w5, stL (w3.alloc (.cells #[.int .i64 0, .int .i64 0, .int .i64 0, .int .u64 0, .int .i64 0, .slice none 0 0, .bool false] 30)) ⟨w3.heap.size, 0, none⟩ [.int .i64 1, .int .i64 n, .int .i64 inc, .int .u64 t.pid, .int .i64 (IntKind.i64.wrap (t.ep + 2)), .slice none 0 0, .bool false] 0 = some w4 ∧
        w4.cell? ⟨w2.heap.size, 0, none⟩ = some (.int .i64 t.st) ∧ w4.cell? ⟨w3.heap.size, 4, none⟩ = some (.int .i64 (IntKind.i64.wrap (t.ep + 2))) ∧
        (stL w4 ⟨w.heap.size, 0, none⟩ [.int .i64 0, .int .i64 0, .int .i64 0, .int .u64 0, .int .i64 0, .slice none 0 0, .bool false] 0 = some w5 ∧ ldN w5 ⟨w.heap.size, 0, none⟩ 0 7 = some [.int .i64 0, .int .i64 0, .int .i64 0, .int .u64 0, .int .i64 0, .slice none 0 0, .bool false] ∧ Fr [] w w5) ∧
        (∃ x1 x2 x3, st1 w4 ⟨w3.heap.size, 3, none⟩ (.int .u64 p) = some x1 ∧ st1 x1 ⟨w3.heap.size, 4, none⟩ (.int .i64 0) = some x2 ∧ ldN x2 ⟨w3.heap.size, 0, none⟩ 0 7 = some [.int .i64 1, .int .i64 n, .int .i64 inc, .int .u64 p, .int .i64 0, .slice none 0 0, .bool false] ∧
          stL x2 ⟨w.heap.size, 0, none⟩ [.int .i64 1, .int .i64 n, .int .i64 inc, .int .u64 p, .int .i64 0, .slice none 0 0, .bool false] 0 = some x3 ∧ ldN x3 ⟨w.heap.size, 0, none⟩ 0 7 = some [.int .i64 1, .int .i64 n, .int .i64 inc, .int .u64 p, .int .i64 0, .slice none 0 0, .bool false] ∧ Fr [] w x3) ∧
        (∃ x3, ldN w4 ⟨w3.heap.size, 0, none⟩ 0 7 = some [.int .i64 1, .int .i64 n, .int .i64 inc, .int .u64 t.pid, .int .i64 (IntKind.i64.wrap (t.ep + 2)), .slice none 0 0, .bool false] ∧
          stL w4 ⟨w.heap.size, 0, none⟩ [.int .i64 1, .int .i64 n, .int .i64 inc, .int .u64 t.pid, .int .i64 (IntKind.i64.wrap (t.ep + 2)), .slice none 0 0, .bool false] 0 = some x3 ∧ ldN x3 ⟨w.heap.size, 0, none⟩ 0 7 = some [.int .i64 1, .int .i64 n, .int .i64 inc, .int .u64 t.pid, .int .i64 (IntKind.i64.wrap (t.ep + 2)), .slice none 0 0, .bool false] ∧ Fr [] w x3) := by
      intro p e
      obtain ⟨z1, z2⟩ := zero30 w3
      obtain ⟨w4, s4, b4, f4⟩ := z1.stL (vs := (⟨1, n, inc, t.pid, IntKind.i64.wrap (t.ep + 2), [], false⟩ : RV).cs (none, 0, 0)) rfl (rvcs_oc _ _)
      have sz := z2.size
      have szf := f3.size
      have lb := b3.lt
      have lbt := bt.lt
      have F4 : Fr [] w3 w4 := (z2.app f4).mono (by intro y hy hl; simp at hy; omega)
      have b34 := b3.fr F4 (by simp)
      have bt4 := bt.fr F4 (by simp)
      have FW4 : Fr [] w w4 := (Fr.mono (Fr.app f3 F4) (by have z0_ := Fr.size f3; have z1_ := Fr.size F4; intro y_ hy_ hl_; grind [blkOf]))
      obtain ⟨w5, r1, r2, r3, _⟩ := retR b34 rfl FW4 (Nat.le_refl _) rv0 (none, 0, 0)
      have t1 : st1 w4 ⟨w3.heap.size, 3, none⟩ (.int .u64 p) = some (w4.setCell ⟨w3.heap.size, 3, none⟩ (.int .u64 p)) := b4.st1 (by simp [RV.cs]) rfl
      have b5 := b4.set 3 (.int .u64 p)
      have fs1 : Fr [w3.heap.size] w4 (w4.setCell ⟨w3.heap.size, 3, none⟩ (.int .u64 p)) := Fr.setCell
      obtain ⟨x1, hx1⟩ : ∃ x1, w4.setCell ⟨w3.heap.size, 3, none⟩ (.int .u64 p) = x1 := ⟨_, rfl⟩
      rw [hx1] at t1 b5 fs1
      have t2 : st1 x1 ⟨w3.heap.size, 4, none⟩ (.int .i64 0) = some (x1.setCell ⟨w3.heap.size, 4, none⟩ (.int .i64 0)) := b5.st1 (by simp [RV.cs]) rfl
      have b6 : Blk (x1.setCell ⟨w3.heap.size, 4, none⟩ (.int .i64 0)) w3.heap.size ((⟨1, n, inc, p, 0, [], false⟩ : RV).cs (none, 0, 0)) 30 := b5.set 4 (.int .i64 0)
      have fs2 : Fr [w3.heap.size] x1 (x1.setCell ⟨w3.heap.size, 4, none⟩ (.int .i64 0)) := Fr.setCell
      obtain ⟨x2, hx2⟩ : ∃ x2, x1.setCell ⟨w3.heap.size, 4, none⟩ (.int .i64 0) = x2 := ⟨_, rfl⟩
      rw [hx2] at t2 b6 fs2
      have FW6 : Fr [] w x2 := ((FW4.app fs1).app fs2).mono (by intro y hy hl; simp at hy; omega)
      have b36 := (b34.fr fs1 (by simp; omega)).fr fs2 (by simp; omega)
      obtain ⟨x3, q1, q2, q3, _⟩ := retR b36 rfl FW6 (Nat.le_refl _) ⟨1, n, inc, p, 0, [], false⟩ (none, 0, 0)
      obtain ⟨x4, p1, p2, p3, _⟩ := retR b34 rfl FW4 (Nat.le_refl _) ⟨1, n, inc, t.pid, IntKind.i64.wrap (t.ep + 2), [], false⟩ (none, 0, 0)
      exact ⟨w4, w5, s4, bt4.cell 0, b4.cell 4, ⟨r1, r2, r3⟩, ⟨x1, x2, x3, t1, t2, b6.ldN (n := 7) rfl, q1, q2, q3⟩, ⟨x4, b4.ldN (n := 7) rfl, p1, p2, p3⟩⟩
    obtain ⟨w4, w5, n1, n2, n4, ⟨n5, n6, n7⟩, ⟨x1, x2, x3, a1, a2, a3, a4, a5, a6⟩, ⟨y3, d1, d2, d3, d4⟩⟩ := newR pid 0
    by_cases s0 : t.st = 0
    · have k1 : (t.st != 0) = false := by simp [s0]
      have k3 : (t.st == 2) = false := by simp [s0]
      have k4 : (t.st == 0) = true := by simp [s0]
      by_cases hp0 : pid = 0
      · have ei : initP t n inc pid = (rv0, false, 16) := by unfold initP; rw [if_neg hn, if_neg (by omega), if_neg s3', if_neg (by omega), if_neg (by omega), if_pos (.inl s0), if_pos hp0]
        have k5 : (pid == 0) = true := by simp [hp0]
        rw [ei]
        refine ⟨w5, ?_, n7⟩
        simp only [k1, k2, k3, n1, n2, k4, k5, n5, n6, obs, asP_pointer, asB_bool, asI_int, asS_string, asSl_slice, asM_map, asTup0, asTup1, asTup2, asTup3, asTup4, asTup5, asTup6, asTup7, asTup8, asTup9, asAgg2, asAgg3, asAgg4, asAgg5, asAgg6, asAgg7, asAgg8, asAgg9, asAgg12, getD0, getD1, getD2, getD3, getD4, getD5, getD6, getD7, getD8, getD9, getD10, getD11, getD12, getD13, getD14, getD15, getD16, getD17, getD18, getD19, Bool.not_true, Bool.not_false, Bool.false_eq_true, Bool.true_eq_false, ↓reduceIte, decide_true, decide_false, Option.isNone_some, Option.isNone_none, Option.isSome_some, Option.isSome_none, beq_self_eq_true, bne_self_eq_false, Bool.and_true, Bool.true_and, Bool.and_false, Bool.false_and, not_true_eq_false, not_false_eq_true]
        rfl
      · have ei : initP t n inc pid = (⟨1, n, inc, pid, 0, [], false⟩, true, 0) := by unfold initP; rw [if_neg hn, if_neg (by omega), if_neg s3', if_neg (by omega), if_neg (by omega), if_pos (.inl s0), if_neg hp0]
        have k5 : (pid == 0) = false := by simp [hp0]
        rw [ei]
        refine ⟨x3, ?_, a6⟩
        simp only [k1, k2, k3, n1, n2, k4, k5, a1, a2, g14_j76, g14_j137, g14_j222, g14_j283, a3, a4, a5, obs, asP_pointer, asB_bool, asI_int, asS_string, asSl_slice, asM_map, asTup0, asTup1, asTup2, asTup3, asTup4, asTup5, asTup6, asTup7, asTup8, asTup9, asAgg2, asAgg3, asAgg4, asAgg5, asAgg6, asAgg7, asAgg8, asAgg9, asAgg12, getD0, getD1, getD2, getD3, getD4, getD5, getD6, getD7, getD8, getD9, getD10, getD11, getD12, getD13, getD14, getD15, getD16, getD17, getD18, getD19, Bool.not_true, Bool.not_false, Bool.false_eq_true, Bool.true_eq_false, ↓reduceIte, decide_true, decide_false, Option.isNone_some, Option.isNone_none, Option.isSome_some, Option.isSome_none, beq_self_eq_true, bne_self_eq_false, Bool.and_true, Bool.true_and, Bool.and_false, Bool.false_and, not_true_eq_false, not_false_eq_true]
        rfl
    have k1 : (t.st != 0) = true := by simp [s0]
    have k4 : (t.st == 0) = false := by simp [s0]
    by_cases hi : inc < t.inc
    · have ei : initP t n inc pid = (rv0, false, 10) := by unfold initP; rw [if_neg hn, if_pos ⟨s0, hi⟩]
      obtain ⟨w', ⟨r1, r2⟩, r3⟩ := leaf _ _ _ ei rfl
      rw [ei]
      simp only [rv0] at r1 r2
      have k3 : decide (inc < t.inc) = true := by simp [hi]
      refine ⟨w', ?_, r3⟩
      simp only [k1, k3, r1, r2, obs, asP_pointer, asB_bool, asI_int, asS_string, asSl_slice, asM_map, asTup0, asTup1, asTup2, asTup3, asTup4, asTup5, asTup6, asTup7, asTup8, asTup9, asAgg2, asAgg3, asAgg4, asAgg5, asAgg6, asAgg7, asAgg8, asAgg9, asAgg12, getD0, getD1, getD2, getD3, getD4, getD5, getD6, getD7, getD8, getD9, getD10, getD11, getD12, getD13, getD14, getD15, getD16, getD17, getD18, getD19, Bool.not_true, Bool.not_false, Bool.false_eq_true, Bool.true_eq_false, ↓reduceIte, decide_true, decide_false, Option.isNone_some, Option.isNone_none, Option.isSome_some, Option.isSome_none, beq_self_eq_true, bne_self_eq_false, Bool.and_true, Bool.true_and, Bool.and_false, Bool.false_and, not_true_eq_false, not_false_eq_true]
      rfl
    have k5 : decide (inc < t.inc) = false := by simp; omega
    by_cases he : inc = t.inc
    · have ei : initP t n inc pid = (rv0, false, 0) := by unfold initP; rw [if_neg hn, if_neg (by omega), if_neg s3', if_pos ⟨s0, he⟩]
      obtain ⟨w', ⟨r1, r2⟩, r3⟩ := leaf _ _ _ ei rfl
      rw [ei]
      simp only [rv0] at r1 r2
      have k3 : (inc == t.inc) = true := by simp [he]
      refine ⟨w', ?_, r3⟩
      simp only [k1, k5, k2, k3, r1, r2, obs, asP_pointer, asB_bool, asI_int, asS_string, asSl_slice, asM_map, asTup0, asTup1, asTup2, asTup3, asTup4, asTup5, asTup6, asTup7, asTup8, asTup9, asAgg2, asAgg3, asAgg4, asAgg5, asAgg6, asAgg7, asAgg8, asAgg9, asAgg12, getD0, getD1, getD2, getD3, getD4, getD5, getD6, getD7, getD8, getD9, getD10, getD11, getD12, getD13, getD14, getD15, getD16, getD17, getD18, getD19, Bool.not_true, Bool.not_false, Bool.false_eq_true, Bool.true_eq_false, ↓reduceIte, decide_true, decide_false, Option.isNone_some, Option.isNone_none, Option.isSome_some, Option.isSome_none, beq_self_eq_true, bne_self_eq_false, Bool.and_true, Bool.true_and, Bool.and_false, Bool.false_and, not_true_eq_false, not_false_eq_true]
      rfl
    have k6 : (inc == t.inc) = false := by simp [he]
    by_cases s2 : t.st = 2
    · have ei : initP t n inc pid = (⟨3, n, 0, 0, 0, [], false⟩, true, 16) := by unfold initP; rw [if_neg hn, if_neg (by omega), if_neg s3', if_neg (by omega), if_pos s2]
      obtain ⟨w', ⟨r1, r2⟩, r3⟩ := leaf _ _ _ ei rfl
      rw [ei]
      have k3 : (t.st == 2) = true := by simp [s2]
      refine ⟨w', ?_, r3⟩
      simp only [k1, k5, k2, k6, k3, r1, r2, obs, asP_pointer, asB_bool, asI_int, asS_string, asSl_slice, asM_map, asTup0, asTup1, asTup2, asTup3, asTup4, asTup5, asTup6, asTup7, asTup8, asTup9, asAgg2, asAgg3, asAgg4, asAgg5, asAgg6, asAgg7, asAgg8, asAgg9, asAgg12, getD0, getD1, getD2, getD3, getD4, getD5, getD6, getD7, getD8, getD9, getD10, getD11, getD12, getD13, getD14, getD15, getD16, getD17, getD18, getD19, Bool.not_true, Bool.not_false, Bool.false_eq_true, Bool.true_eq_false, ↓reduceIte, decide_true, decide_false, Option.isNone_some, Option.isNone_none, Option.isSome_some, Option.isSome_none, beq_self_eq_true, bne_self_eq_false, Bool.and_true, Bool.true_and, Bool.and_false, Bool.false_and, not_true_eq_false, not_false_eq_true]
      rfl
    have k7 : (t.st == 2) = false := by simp [s2]
    by_cases hep : IntKind.i64.wrap (t.ep + 2) ≥ 999
    · have k8 : decide (IntKind.i64.wrap (t.ep + 2) ≥ 999) = true := by simp only [decide_eq_true_eq]; exact hep
      by_cases hp0 : pid = 0
      · have ei : initP t n inc pid = (rv0, false, 16) := by unfold initP; rw [if_neg hn, if_neg (by omega), if_neg s3', if_neg (by omega), if_neg (by omega), if_pos (.inr hep), if_pos hp0]
        have k9 : (pid == 0) = true := by simp [hp0]
        rw [ei]
        refine ⟨w5, ?_, n7⟩
        simp only [k1, k5, k2, k6, k7, n1, n2, k4, n4, k8, k9, n5, n6, obs, asP_pointer, asB_bool, asI_int, asS_string, asSl_slice, asM_map, asTup0, asTup1, asTup2, asTup3, asTup4, asTup5, asTup6, asTup7, asTup8, asTup9, asAgg2, asAgg3, asAgg4, asAgg5, asAgg6, asAgg7, asAgg8, asAgg9, asAgg12, getD0, getD1, getD2, getD3, getD4, getD5, getD6, getD7, getD8, getD9, getD10, getD11, getD12, getD13, getD14, getD15, getD16, getD17, getD18, getD19, Bool.not_true, Bool.not_false, Bool.false_eq_true, Bool.true_eq_false, ↓reduceIte, decide_true, decide_false, Option.isNone_some, Option.isNone_none, Option.isSome_some, Option.isSome_none, beq_self_eq_true, bne_self_eq_false, Bool.and_true, Bool.true_and, Bool.and_false, Bool.false_and, not_true_eq_false, not_false_eq_true]
        rfl
      · have ei : initP t n inc pid = (⟨1, n, inc, pid, 0, [], false⟩, true, 0) := by unfold initP; rw [if_neg hn, if_neg (by omega), if_neg s3', if_neg (by omega), if_neg (by omega), if_pos (.inr hep), if_neg hp0]
        have k9 : (pid == 0) = false := by simp [hp0]
        rw [ei]
        refine ⟨x3, ?_, a6⟩
        simp only [k1, k5, k2, k6, k7, n1, n2, k4, n4, k8, k9, a1, a2, g14_j76, g14_j137, g14_j222, g14_j283, a3, a4, a5, obs, asP_pointer, asB_bool, asI_int, asS_string, asSl_slice, asM_map, asTup0, asTup1, asTup2, asTup3, asTup4, asTup5, asTup6, asTup7, asTup8, asTup9, asAgg2, asAgg3, asAgg4, asAgg5, asAgg6, asAgg7, asAgg8, asAgg9, asAgg12, getD0, getD1, getD2, getD3, getD4, getD5, getD6, getD7, getD8, getD9, getD10, getD11, getD12, getD13, getD14, getD15, getD16, getD17, getD18, getD19, Bool.not_true, Bool.not_false, Bool.false_eq_true, Bool.true_eq_false, ↓reduceIte, decide_true, decide_false, Option.isNone_some, Option.isNone_none, Option.isSome_some, Option.isSome_none, beq_self_eq_true, bne_self_eq_false, Bool.and_true, Bool.true_and, Bool.and_false, Bool.false_and, not_true_eq_false, not_false_eq_true]
        rfl
    · have k8 : decide (IntKind.i64.wrap (t.ep + 2) ≥ 999) = false := by simp only [decide_eq_false_iff_not]; exact hep
      have ei : initP t n inc pid = (⟨1, n, inc, t.pid, IntKind.i64.wrap (t.ep + 2), [], false⟩, true, 0) := by unfold initP; rw [if_neg hn, if_neg (by omega), if_neg s3', if_neg (by omega), if_neg (by omega), if_neg (by rintro (h | h); exact s0 h; exact hep h)]
      rw [ei]
      refine ⟨y3, ?_, d4⟩
      simp only [k1, k5, k2, k6, k7, n1, n2, k4, n4, k8, g14_j76, g14_j137, g14_j222, g14_j283, d1, d2, d3, obs, asP_pointer, asB_bool, asI_int, asS_string, asSl_slice, asM_map, asTup0, asTup1, asTup2, asTup3, asTup4, asTup5, asTup6, asTup7, asTup8, asTup9, asAgg2, asAgg3, asAgg4, asAgg5, asAgg6, asAgg7, asAgg8, asAgg9, asAgg12, getD0, getD1, getD2, getD3, getD4, getD5, getD6, getD7, getD8, getD9, getD10, getD11, getD12, getD13, getD14, getD15, getD16, getD17, getD18, getD19, Bool.not_true, Bool.not_false, Bool.false_eq_true, Bool.true_eq_false, ↓reduceIte, decide_true, decide_false, Option.isNone_some, Option.isNone_none, Option.isSome_some, Option.isSome_none, beq_self_eq_true, bne_self_eq_false, Bool.and_true, Bool.true_and, Bool.and_false, Bool.false_and, not_true_eq_false, not_false_eq_true]
      rfl
end
end Go.Proofs.Ytlcojbodcbjkaaa
