/-
  TxnQ: lemmas on what Go functions of this seat come to (for whatever arguments, as each says). No condition but those that stand in each lemma.
-/
import Derived.Test.YtlcojbodcbjkaaaTxnZs
import Derived.Test.YtlcojbodcbjkaaaTxnK
namespace Go.Proofs.Ytlcojbodcbjkaaa
open Go Go.Ev
set_option maxRecDepth 100000
set_option linter.unusedVariables false
set_option linter.unusedSimpArgs false

def I64 (z : Int) : Prop := -9223372036854775808 ≤ z ∧ z ≤ 9223372036854775807
structure RV.Ok (r : RV) : Prop where
  k : -9223372036854775808 ≤ r.k ∧ r.k ≤ 9223372036854775807
  tx : -9223372036854775808 ≤ r.tx ∧ r.tx ≤ 9223372036854775807
  inc : -9223372036854775808 ≤ r.inc ∧ r.inc ≤ 9223372036854775807
  pid : 0 ≤ r.pid ∧ r.pid.toNat < 2 ^ 64
  ep : -9223372036854775808 ≤ r.ep ∧ r.ep ≤ 9223372036854775807
  parts : ∀ z ∈ r.parts, -9223372036854775808 ≤ z ∧ z ≤ 9223372036854775807
def badR (r : RV) : Prop := r.k < 1 ∨ 4 < r.k ∨ r.tx < 0 ∨ 7 < r.tx ∨ 6 < r.parts.length
instance (r : RV) : Decidable (badR r) := by unfold badR; infer_instance
def recB (r : RV) : List Int := encI r.k ++ encI r.tx ++ encI r.inc ++ encI r.ep ++ encU r.pid.toNat ++ encL r.parts ++ encF r.com
def rd7 (s : RS) : RV × RS :=
  (⟨(intS s).1, (intS (intS s).2).1, (intS (intS (intS s).2).2).1, ((uintS (intS (intS (intS (intS s).2).2).2).2).1 : Int), (intS (intS (intS (intS s).2).2).2).1,
    (intsS (uintS (intS (intS (intS (intS s).2).2).2).2).2).1, (flagS (intsS (uintS (intS (intS (intS (intS s).2).2).2).2).2).2).1⟩,
   (flagS (intsS (uintS (intS (intS (intS (intS s).2).2).2).2).2).2).2)
def decR (bs : List Int) : RV × Int := if endS (rd7 ⟨bs, 0, 0⟩).2 ≠ 0 then (rv0, endS (rd7 ⟨bs, 0, 0⟩).2) else if badR (rd7 ⟨bs, 0, 0⟩).1 then (rv0, 1) else ((rd7 ⟨bs, 0, 0⟩).1, 0)

theorem rd7_enc {r : RV} (h : r.Ok) (hl : r.parts.length ≤ 4096) : rd7 ⟨recB r, 0, 0⟩ = (r, ⟨recB r, (recB r).length, 0⟩) := by
  obtain ⟨hk, htx, hinc, hpid, hep, hp⟩ := h
  have hB : recB r = encI r.k ++ (encI r.tx ++ (encI r.inc ++ (encI r.ep ++ (encU r.pid.toNat ++ (encL r.parts ++ (encF r.com ++ [])))))) := by simp [recB]
  obtain ⟨B, hBB⟩ : ∃ B, recB r = B := ⟨_, rfl⟩
  rw [hBB] at hB ⊢
  have d0 : (⟨B, 0, 0⟩ : RS).bs.drop (⟨B, 0, 0⟩ : RS).at_ = encI r.k ++ (encI r.tx ++ (encI r.inc ++ (encI r.ep ++ (encU r.pid.toNat ++ (encL r.parts ++ (encF r.com ++ [])))))) := by simpa using hB
  have e1 := intS_enc rfl d0 hk
  have d1 := drop_on d0
  have e2 := intS_enc (s := ⟨B, 0 + (encI r.k).length, 0⟩) rfl d1 htx
  have d2 := drop_on (s := ⟨B, 0 + (encI r.k).length, 0⟩) d1
  have e3 := intS_enc (s := ⟨B, 0 + (encI r.k).length + (encI r.tx).length, 0⟩) rfl d2 hinc
  have d3 := drop_on (s := ⟨B, 0 + (encI r.k).length + (encI r.tx).length, 0⟩) d2
  have e4 := intS_enc (s := ⟨B, 0 + (encI r.k).length + (encI r.tx).length + (encI r.inc).length, 0⟩) rfl d3 hep
  have d4 := drop_on (s := ⟨B, 0 + (encI r.k).length + (encI r.tx).length + (encI r.inc).length, 0⟩) d3
  have e5 := uintS_enc (s := ⟨B, 0 + (encI r.k).length + (encI r.tx).length + (encI r.inc).length + (encI r.ep).length, 0⟩) rfl d4 hpid.2
  have d5 := drop_on (s := ⟨B, 0 + (encI r.k).length + (encI r.tx).length + (encI r.inc).length + (encI r.ep).length, 0⟩) d4
  have e6 := intsS_enc (s := ⟨B, 0 + (encI r.k).length + (encI r.tx).length + (encI r.inc).length + (encI r.ep).length + (encU r.pid.toNat).length, 0⟩) rfl d5 hl hp
  have d6 := drop_on (s := ⟨B, 0 + (encI r.k).length + (encI r.tx).length + (encI r.inc).length + (encI r.ep).length + (encU r.pid.toNat).length, 0⟩) d5
  have e7 := flagS_enc (s := ⟨B, 0 + (encI r.k).length + (encI r.tx).length + (encI r.inc).length + (encI r.ep).length + (encU r.pid.toNat).length + (encL r.parts).length, 0⟩) rfl d6
  simp only at e1 e2 e3 e4 e5 e6 e7
  unfold rd7
  simp only [e1, e2, e3, e4, e5, e6, e7]
  have hp : ((r.pid.toNat : Nat) : Int) = r.pid := by have := hpid.1; omega
  rw [hp]
  congr 2
  rw [hB]
  simp [Nat.add_assoc]
theorem decR_enc {r : RV} (h : r.Ok) (hb : ¬ badR r) : decR (recB r) = (r, 0) := by
  have hl : r.parts.length ≤ 6 := by unfold badR at hb; omega
  unfold decR
  rw [rd7_enc h (by omega)]
  have : endS ⟨recB r, (recB r).length, 0⟩ = 0 := by unfold endS; rw [if_neg (by simp)]
  simp only [this, ne_eq, not_true_eq_false, if_false, if_neg hb]

theorem rd7_ok {s : RS} (h : s.Ok) : (rd7 s).1.Ok ∧ (rd7 s).2.Ok ∧ (rd7 s).1.parts.length ≤ 4096 := by
  have h1 := h.int
  have h2 := h1.2.1.int
  have h3 := h2.2.1.int
  have h4 := h3.2.1.int
  have h5 := h4.2.1.uint
  have h6 := h5.2.1.ints
  have h7 := h6.2.1.flag
  exact ⟨⟨h1.1, h2.1, h3.1, ⟨by unfold rd7; simp only; omega, by unfold rd7; simpa using h5.1⟩, h4.1, h6.1⟩, h7.1, h6.2.2.2⟩

section
variable {w : World} {q : ShT} {r : RV}

theorem bad40 (w : World) (r : RV) {q : ShT} (hq : q.2.1 = r.parts.length) : ∃ w', callF Try.prog 40 #[r.arg q] w = some (.bool (decide (badR r)), w') ∧ Fr [] w w' := by
  have fa : Fr [] w (w.alloc (.cells #[.int .i64 r.k, .int .i64 r.tx, .int .i64 r.inc, .int .u64 r.pid, .int .i64 r.ep, .slice q.1 q.2.1 q.2.2, .bool r.com] 30)) := Fr.alloc _
  have ba := Blk.new w (r.cs q) 30
  change Blk (w.alloc (.cells #[.int .i64 r.k, .int .i64 r.tx, .int .i64 r.inc, .int .u64 r.pid, .int .i64 r.ep, .slice q.1 q.2.1 q.2.2, .bool r.com] 30)) _ _ _ at ba
  obtain ⟨w1, hw1⟩ : ∃ w1, w.alloc (.cells #[.int .i64 r.k, .int .i64 r.tx, .int .i64 r.inc, .int .u64 r.pid, .int .i64 r.ep, .slice q.1 q.2.1 q.2.2, .bool r.com] 30) = w1 := ⟨_, rfl⟩
  rw [hw1] at fa ba
  have c0 : w1.cell? ⟨w.heap.size, 0, none⟩ = some (.int .i64 r.k) := ba.cell 0
  have c1 : w1.cell? ⟨w.heap.size, 1, none⟩ = some (.int .i64 r.tx) := ba.cell 1
  have c5 : w1.cell? ⟨w.heap.size, 5, none⟩ = some (.slice q.1 q.2.1 q.2.2) := ba.cell 5
  refine ⟨w1, g40_call ?_, fa⟩
  unfold g40
  rw [hw1]
  by_cases h1 : r.k < 1
  · have hb : decide (badR r) = true := by simp [badR, h1]
    have k1 : decide (r.k < 1) = true := by simp [h1]
    rw [hb]
    simp only [c0, k1, obs, asP_pointer, asB_bool, asI_int, asS_string, asSl_slice, asM_map, asTup0, asTup1, asTup2, asTup3, asTup4, asTup5, asTup6, asTup7, asTup8, asTup9, asAgg2, asAgg3, asAgg4, asAgg5, asAgg6, asAgg7, asAgg8, asAgg9, asAgg12, getD0, getD1, getD2, getD3, getD4, getD5, getD6, getD7, getD8, getD9, getD10, getD11, getD12, getD13, getD14, getD15, getD16, getD17, getD18, getD19, Bool.not_true, Bool.not_false, Bool.false_eq_true, Bool.true_eq_false, ↓reduceIte, decide_true, decide_false, Option.isNone_some, Option.isNone_none, Option.isSome_some, Option.isSome_none, beq_self_eq_true, bne_self_eq_false, Bool.and_true, Bool.true_and, Bool.and_false, Bool.false_and, not_true_eq_false, not_false_eq_true]
  · have k1 : decide (r.k < 1) = false := by simp; omega
    by_cases h2 : 4 < r.k
    · have hb : decide (badR r) = true := by simp [badR, h2]
      have k2 : decide (r.k > 4) = true := by simp [h2]
      rw [hb]
      simp only [c0, k1, k2, obs, asP_pointer, asB_bool, asI_int, asS_string, asSl_slice, asM_map, asTup0, asTup1, asTup2, asTup3, asTup4, asTup5, asTup6, asTup7, asTup8, asTup9, asAgg2, asAgg3, asAgg4, asAgg5, asAgg6, asAgg7, asAgg8, asAgg9, asAgg12, getD0, getD1, getD2, getD3, getD4, getD5, getD6, getD7, getD8, getD9, getD10, getD11, getD12, getD13, getD14, getD15, getD16, getD17, getD18, getD19, Bool.not_true, Bool.not_false, Bool.false_eq_true, Bool.true_eq_false, ↓reduceIte, decide_true, decide_false, Option.isNone_some, Option.isNone_none, Option.isSome_some, Option.isSome_none, beq_self_eq_true, bne_self_eq_false, Bool.and_true, Bool.true_and, Bool.and_false, Bool.false_and, not_true_eq_false, not_false_eq_true]
    · have k2 : decide (r.k > 4) = false := by simp; omega
      by_cases h3 : r.tx < 0
      · have hb : decide (badR r) = true := by simp [badR, h3]
        have k3 : decide (r.tx < 0) = true := by simp [h3]
        rw [hb]
        simp only [c0, k1, k2, addr_add, Nat.zero_add, c1, k3, obs, asP_pointer, asB_bool, asI_int, asS_string, asSl_slice, asM_map, asTup0, asTup1, asTup2, asTup3, asTup4, asTup5, asTup6, asTup7, asTup8, asTup9, asAgg2, asAgg3, asAgg4, asAgg5, asAgg6, asAgg7, asAgg8, asAgg9, asAgg12, getD0, getD1, getD2, getD3, getD4, getD5, getD6, getD7, getD8, getD9, getD10, getD11, getD12, getD13, getD14, getD15, getD16, getD17, getD18, getD19, Bool.not_true, Bool.not_false, Bool.false_eq_true, Bool.true_eq_false, ↓reduceIte, decide_true, decide_false, Option.isNone_some, Option.isNone_none, Option.isSome_some, Option.isSome_none, beq_self_eq_true, bne_self_eq_false, Bool.and_true, Bool.true_and, Bool.and_false, Bool.false_and, not_true_eq_false, not_false_eq_true]
      · have k3 : decide (r.tx < 0) = false := by simp; omega
        by_cases h4 : 7 < r.tx
        · have hb : decide (badR r) = true := by simp [badR, h4]
          have k4 : decide (r.tx > 7) = true := by simp [h4]
          rw [hb]
          simp only [c0, k1, k2, addr_add, Nat.zero_add, c1, k3, k4, obs, asP_pointer, asB_bool, asI_int, asS_string, asSl_slice, asM_map, asTup0, asTup1, asTup2, asTup3, asTup4, asTup5, asTup6, asTup7, asTup8, asTup9, asAgg2, asAgg3, asAgg4, asAgg5, asAgg6, asAgg7, asAgg8, asAgg9, asAgg12, getD0, getD1, getD2, getD3, getD4, getD5, getD6, getD7, getD8, getD9, getD10, getD11, getD12, getD13, getD14, getD15, getD16, getD17, getD18, getD19, Bool.not_true, Bool.not_false, Bool.false_eq_true, Bool.true_eq_false, ↓reduceIte, decide_true, decide_false, Option.isNone_some, Option.isNone_none, Option.isSome_some, Option.isSome_none, beq_self_eq_true, bne_self_eq_false, Bool.and_true, Bool.true_and, Bool.and_false, Bool.false_and, not_true_eq_false, not_false_eq_true]
        · have k4 : decide (r.tx > 7) = false := by simp; omega
          have hb : decide (badR r) = decide ((q.2.1 : Int) > 6) := by
            rw [decide_eq_decide]; unfold badR; omega
          rw [hb]
          simp only [c0, k1, k2, addr_add, Nat.zero_add, c1, k3, k4, c5, obs, asP_pointer, asB_bool, asI_int, asS_string, asSl_slice, asM_map, asTup0, asTup1, asTup2, asTup3, asTup4, asTup5, asTup6, asTup7, asTup8, asTup9, asAgg2, asAgg3, asAgg4, asAgg5, asAgg6, asAgg7, asAgg8, asAgg9, asAgg12, getD0, getD1, getD2, getD3, getD4, getD5, getD6, getD7, getD8, getD9, getD10, getD11, getD12, getD13, getD14, getD15, getD16, getD17, getD18, getD19, Bool.not_true, Bool.not_false, Bool.false_eq_true, Bool.true_eq_false, ↓reduceIte, decide_true, decide_false, Option.isNone_some, Option.isNone_none, Option.isSome_some, Option.isSome_none, beq_self_eq_true, bne_self_eq_false, Bool.and_true, Bool.true_and, Bool.and_false, Bool.false_and, not_true_eq_false, not_false_eq_true]

theorem sameRec20 (w : World) (r : RV) {q1 q2 : ShT} (hu : SlI .i64 w q1 r.parts) (hv : SlI .i64 w q2 r.parts) (hl : r.parts.length ≤ 4611686018427387904) : ∃ w', callF Try.prog 20 #[r.arg q1, r.arg q2] w = some (.bool true, w') ∧ Fr [] w w' := by
  have fa : Fr [] w (w.alloc (.cells #[.int .i64 r.k, .int .i64 r.tx, .int .i64 r.inc, .int .u64 r.pid, .int .i64 r.ep, .slice q1.1 q1.2.1 q1.2.2, .bool r.com] 30)) := Fr.alloc _
  have ba := Blk.new w (r.cs q1) 30
  change Blk (w.alloc (.cells #[.int .i64 r.k, .int .i64 r.tx, .int .i64 r.inc, .int .u64 r.pid, .int .i64 r.ep, .slice q1.1 q1.2.1 q1.2.2, .bool r.com] 30)) _ _ _ at ba
  obtain ⟨w1, hw1⟩ : ∃ w1, w.alloc (.cells #[.int .i64 r.k, .int .i64 r.tx, .int .i64 r.inc, .int .u64 r.pid, .int .i64 r.ep, .slice q1.1 q1.2.1 q1.2.2, .bool r.com] 30) = w1 := ⟨_, rfl⟩
  rw [hw1] at fa ba
  have fb : Fr [] w1 (w1.alloc (.cells #[.int .i64 r.k, .int .i64 r.tx, .int .i64 r.inc, .int .u64 r.pid, .int .i64 r.ep, .slice q2.1 q2.2.1 q2.2.2, .bool r.com] 30)) := Fr.alloc _
  have bb := Blk.new w1 (r.cs q2) 30
  change Blk (w1.alloc (.cells #[.int .i64 r.k, .int .i64 r.tx, .int .i64 r.inc, .int .u64 r.pid, .int .i64 r.ep, .slice q2.1 q2.2.1 q2.2.2, .bool r.com] 30)) _ _ _ at bb
  obtain ⟨w2, hw2⟩ : ∃ w2, w1.alloc (.cells #[.int .i64 r.k, .int .i64 r.tx, .int .i64 r.inc, .int .u64 r.pid, .int .i64 r.ep, .slice q2.1 q2.2.1 q2.2.2, .bool r.com] 30) = w2 := ⟨_, rfl⟩
  rw [hw2] at fb bb
  have ba2 := ba.fr fb (by simp)
  have F : Fr [] w w2 := (Fr.mono (Fr.app fa fb) (by have z0_ := Fr.size fa; have z1_ := Fr.size fb; intro y_ hy_ hl_; grind [blkOf]))
  obtain ⟨w3, e3, f3⟩ := same35 (hu.fr3 F (by simp)) (hv.fr3 F (by simp)) hl
  have a0 : w2.cell? ⟨w.heap.size, 0, none⟩ = some (.int .i64 r.k) := ba2.cell 0
  have a1 : w2.cell? ⟨w.heap.size, 1, none⟩ = some (.int .i64 r.tx) := ba2.cell 1
  have a2 : w2.cell? ⟨w.heap.size, 2, none⟩ = some (.int .i64 r.inc) := ba2.cell 2
  have a3 : w2.cell? ⟨w.heap.size, 3, none⟩ = some (.int .u64 r.pid) := ba2.cell 3
  have a4 : w2.cell? ⟨w.heap.size, 4, none⟩ = some (.int .i64 r.ep) := ba2.cell 4
  have a5 : w2.cell? ⟨w.heap.size, 5, none⟩ = some (.slice q1.1 q1.2.1 q1.2.2) := ba2.cell 5
  have a6 : w2.cell? ⟨w.heap.size, 6, none⟩ = some (.bool r.com) := ba2.cell 6
  have b0 : w2.cell? ⟨w1.heap.size, 0, none⟩ = some (.int .i64 r.k) := bb.cell 0
  have b1 : w2.cell? ⟨w1.heap.size, 1, none⟩ = some (.int .i64 r.tx) := bb.cell 1
  have b2 : w2.cell? ⟨w1.heap.size, 2, none⟩ = some (.int .i64 r.inc) := bb.cell 2
  have b3 : w2.cell? ⟨w1.heap.size, 3, none⟩ = some (.int .u64 r.pid) := bb.cell 3
  have b4 : w2.cell? ⟨w1.heap.size, 4, none⟩ = some (.int .i64 r.ep) := bb.cell 4
  have b5 : w2.cell? ⟨w1.heap.size, 5, none⟩ = some (.slice q2.1 q2.2.1 q2.2.2) := bb.cell 5
  have b6 : w2.cell? ⟨w1.heap.size, 6, none⟩ = some (.bool r.com) := bb.cell 6
  have s1 : ∀ z : Int, (z == z) = true := fun z => by simp
  have s2 : ∀ z : Bool, (z == z) = true := fun z => by simp
  refine ⟨w3, g20_call ?_, (Fr.mono (Fr.app F f3) (by have z0_ := Fr.size F; have z1_ := Fr.size f3; intro y_ hy_ hl_; grind [blkOf]))⟩
  unfold g20
  rw [hw1, hw2]
  simp only [a0, b0, s1, addr_add, Nat.zero_add, a1, b1, a2, b2, a3, b3, a4, b4, a5, b5, a6, b6, s2, e3, obs, asP_pointer, asB_bool, asI_int, asS_string, asSl_slice, asM_map, asTup0, asTup1, asTup2, asTup3, asTup4, asTup5, asTup6, asTup7, asTup8, asTup9, asAgg2, asAgg3, asAgg4, asAgg5, asAgg6, asAgg7, asAgg8, asAgg9, asAgg12, getD0, getD1, getD2, getD3, getD4, getD5, getD6, getD7, getD8, getD9, getD10, getD11, getD12, getD13, getD14, getD15, getD16, getD17, getD18, getD19, Bool.not_true, Bool.not_false, Bool.false_eq_true, Bool.true_eq_false, ↓reduceIte, decide_true, decide_false, Option.isNone_some, Option.isNone_none, Option.isSome_some, Option.isSome_none, beq_self_eq_true, bne_self_eq_false, Bool.and_true, Bool.true_and, Bool.and_false, Bool.false_and, not_true_eq_false, not_false_eq_true]

theorem own12 (w : World) (r : RV) {q : ShT} (hu : SlI .i64 w q r.parts) (hl : r.parts.length ≤ 17592186043904) : ∃ v w', callF Try.prog 12 #[r.arg q] w = some (r.arg v, w') ∧ Own w' 3 1 v (numsV r.parts) ∧ Fr [] w w' ∧ ∀ y ∈ blkOf v, w.heap.size ≤ y := by
  have fa : Fr [] w (w.alloc (.cells #[.int .i64 r.k, .int .i64 r.tx, .int .i64 r.inc, .int .u64 r.pid, .int .i64 r.ep, .slice q.1 q.2.1 q.2.2, .bool r.com] 30)) := Fr.alloc _
  have ba := Blk.new w (r.cs q) 30
  change Blk (w.alloc (.cells #[.int .i64 r.k, .int .i64 r.tx, .int .i64 r.inc, .int .u64 r.pid, .int .i64 r.ep, .slice q.1 q.2.1 q.2.2, .bool r.com] 30)) _ _ _ at ba
  obtain ⟨w1, hw1⟩ : ∃ w1, w.alloc (.cells #[.int .i64 r.k, .int .i64 r.tx, .int .i64 r.inc, .int .u64 r.pid, .int .i64 r.ep, .slice q.1 q.2.1 q.2.2, .bool r.com] 30) = w1 := ⟨_, rfl⟩
  rw [hw1] at fa ba
  obtain ⟨bz, fz⟩ := zero30 w1
  obtain ⟨w2, hw2⟩ : ∃ w2, w1.alloc (.cells #[.int .i64 0, .int .i64 0, .int .i64 0, .int .u64 0, .int .i64 0, .slice none 0 0, .bool false] 30) = w2 := ⟨_, rfl⟩
  rw [hw2] at bz fz
  have F2 : Fr [] w w2 := (Fr.mono (Fr.app fa fz) (by have z0_ := Fr.size fa; have z1_ := Fr.size fz; intro y_ hy_ hl_; grind [blkOf]))
  obtain ⟨v, w3, e3, o3, f3, n3⟩ := copyN (hu.fr3 F2 (by simp)) hl
  have fe : Fr [] w2 (w2.alloc (.cells #[] 3)) := Fr.alloc _
  have c5 : (w2.alloc (.cells #[] 3)).cell? ⟨w.heap.size, 5, none⟩ = some (.slice q.1 q.2.1 q.2.2) := ((ba.fr fz (by simp)).fr fe (by simp)).cell 5
  have b3 := (ba.fr fz (by simp)).fr f3 (by simp)
  have z3 := bz.fr f3 (by simp)
  have z1 := fa.size
  have z2 := fz.size
  obtain ⟨w4, hw4⟩ : ∃ w4, w3.setCell ⟨w.heap.size, 5, none⟩ (.slice v.1 v.2.1 v.2.2) = w4 := ⟨_, rfl⟩
  have s4 : st1 w3 ⟨w.heap.size, 5, none⟩ (.slice v.1 v.2.1 v.2.2) = some w4 := by rw [← hw4]; exact b3.st1 (by simp [RV.cs]) rfl
  have b4 : Blk w4 w.heap.size (r.cs v) 30 := by rw [← hw4]; exact b3.set 5 _
  have f4 : Fr [w.heap.size] w3 w4 := by rw [← hw4]; exact Fr.setCell
  have l4 := b4.ldN (n := 7) rfl
  have lb := ba.lt
  have z4 := z3.fr f4 (by simp; omega)
  have F4 : Fr [] w w4 := ((Fr.mono (Fr.app F2 f3) (by have z0_ := Fr.size F2; have z1_ := Fr.size f3; intro y_ hy_ hl_; grind [blkOf])) : Fr [] w w3).app f4 |>.mono (by intro y hy hl; simp at hy; omega)
  obtain ⟨w', r1, r2, r3, r4⟩ := retR z4 rfl F4 z1 r v
  have o4 := (o3.fr f4 (by intro y hy hm; simp at hm; have := n3 y hy; omega)).fr r4 (by intro y hy hm; simp at hm; have := n3 y hy; have := bz.lt; omega)
  refine ⟨v, w', g12_call ?_, o4, r3, fun y hy => by have := n3 y hy; omega⟩
  unfold g12
  simp only [hw1, hw2]
  simp only [RV.cs] at l4
  simp only [addr_add, Nat.zero_add, c5, e3, s4, l4, r1, r2, obs, asP_pointer, asB_bool, asI_int, asS_string, asSl_slice, asM_map, asTup0, asTup1, asTup2, asTup3, asTup4, asTup5, asTup6, asTup7, asTup8, asTup9, asAgg2, asAgg3, asAgg4, asAgg5, asAgg6, asAgg7, asAgg8, asAgg9, asAgg12, getD0, getD1, getD2, getD3, getD4, getD5, getD6, getD7, getD8, getD9, getD10, getD11, getD12, getD13, getD14, getD15, getD16, getD17, getD18, getD19, Bool.not_true, Bool.not_false, Bool.false_eq_true, Bool.true_eq_false, ↓reduceIte, decide_true, decide_false, Option.isNone_some, Option.isNone_none, Option.isSome_some, Option.isSome_none, beq_self_eq_true, bne_self_eq_false, Bool.and_true, Bool.true_and, Bool.and_false, Bool.false_and, not_true_eq_false, not_false_eq_true]
  rfl
end
end Go.Proofs.Ytlcojbodcbjkaaa
