/-
  ImageH: lemmas on what Go functions of this seat come to (for whatever arguments, as each says). No condition but those that stand in each lemma.
-/
import Derived.Test.YtjcenfgmpbeldaaImageG
namespace Go.Proofs.Ytjcenfgmpbeldaa
open Go Go.Ev
set_option maxRecDepth 100000
set_option linter.unusedVariables false
set_option linter.unusedSimpArgs false

def isort (l : List Int) : List Int := l.mergeSort
theorem isort_of {l l' : List Int} (h : l'.Perm l) (hs : l'.Pairwise (· ≤ ·)) : l' = isort l := by
  have h1 : (isort l).Pairwise (· ≤ ·) := by
    have := List.pairwise_mergeSort (le := fun a b : Int => decide (a ≤ b)) (by intro a b c; simp; omega) (by intro a b; simp; omega) l
    unfold isort
    exact this.imp (by intro a b; simp)
  exact List.Perm.eq_of_pairwise (by intro a b _ _ h1 h2; omega) hs h1 (h.trans (List.mergeSort_perm l _).symm)
theorem isort_perm (l : List Int) : (isort l).Perm l := List.mergeSort_perm l _
theorem isort_up (l : List Int) : (isort l).Pairwise (· ≤ ·) := by
  have := List.pairwise_mergeSort (le := fun a b : Int => decide (a ≤ b)) (by intro a b c; simp; omega) (by intro a b; simp; omega) l
  unfold isort
  exact this.imp (by intro a b; simp)

section
variable {w : World} {D : Nat → Prop} {b c : Nat} {nq pq : Sh} {ns : List NV} {es : List PE} {next count : Int}

theorem node16 (h : Raw w D b c nq pq ns es next count) (n : Int) :
    ∃ w', callF Try.prog 16 #[.pointer (some ⟨b, 0, none⟩), .int .i64 n] w = some ((if h : 0 ≤ n ∧ n.toNat < ns.length then .tuple #[.bool (ns[n.toNat]'h.2).al, .int .i64 (ns[n.toNat]'h.2).cm, .int .u64 (ns[n.toNat]'h.2).bk] else .tuple #[.bool false, .int .i64 0, .int .u64 0]), w') ∧ Fr [] w w' := by
  have c0 : w.cell? ⟨b, 0, none⟩ = some (.slice nq.1 nq.2.1 nq.2.2) := h.tbl.cell 0
  have hl := h.nlen
  by_cases hn : n < 0
  · refine ⟨w, g16_call ?_, Fr.refl _ _⟩
    rw [dif_neg (by omega)]
    have k1 : decide (n < 0) = true := by simp [hn]
    unfold g16
    simp only [k1, obs, asP_pointer, asB_bool, asI_int, asS_string, asSl_slice, asM_map, asTup0, asTup1, asTup2, asTup3, asTup4, asTup5, asTup6, asTup7, asTup8, asTup9, asAgg2, asAgg3, asAgg4, asAgg5, asAgg6, asAgg7, asAgg8, asAgg9, asAgg12, getD0, getD1, getD2, getD3, getD4, getD5, getD6, getD7, getD8, getD9, getD10, getD11, getD12, getD13, getD14, getD15, getD16, getD17, getD18, getD19, Bool.not_true, Bool.not_false, Bool.false_eq_true, Bool.true_eq_false, ↓reduceIte, decide_true, decide_false, Option.isNone_some, Option.isNone_none, Option.isSome_some, Option.isSome_none, beq_self_eq_true, bne_self_eq_false, Bool.and_true, Bool.true_and, Bool.and_false, Bool.false_and, not_true_eq_false, not_false_eq_true]
  · have k1 : decide (n < 0) = false := by simp; omega
    by_cases hn2 : n.toNat < ns.length
    · have k2 : decide (n ≥ (nq.2.1 : Int)) = false := by simp; omega
      have hd := h.fr (Fr.drew [] w) (by simp)
      obtain ⟨a, i1, r0, r1, r2⟩ := hd.node_at hn2
      have hnn : ((n.toNat : Nat) : Int) = n := by omega
      rw [hnn] at i1
      have c0' : w.drew.cell? ⟨b, 0, none⟩ = some (.slice nq.1 nq.2.1 nq.2.2) := hd.tbl.cell 0
      refine ⟨w.drew, g16_call ?_, Fr.drew _ _⟩
      rw [dif_pos ⟨by omega, hn2⟩]
      unfold g16
      simp only [k1, c0, k2, c0', i1, r0, r1, r2, obs, asP_pointer, asB_bool, asI_int, asS_string, asSl_slice, asM_map, asTup0, asTup1, asTup2, asTup3, asTup4, asTup5, asTup6, asTup7, asTup8, asTup9, asAgg2, asAgg3, asAgg4, asAgg5, asAgg6, asAgg7, asAgg8, asAgg9, asAgg12, getD0, getD1, getD2, getD3, getD4, getD5, getD6, getD7, getD8, getD9, getD10, getD11, getD12, getD13, getD14, getD15, getD16, getD17, getD18, getD19, Bool.not_true, Bool.not_false, Bool.false_eq_true, Bool.true_eq_false, ↓reduceIte, decide_true, decide_false, Option.isNone_some, Option.isNone_none, Option.isSome_some, Option.isSome_none, beq_self_eq_true, bne_self_eq_false, Bool.and_true, Bool.true_and, Bool.and_false, Bool.false_and, not_true_eq_false, not_false_eq_true]
    · have k2 : decide (n ≥ (nq.2.1 : Int)) = true := by simp; omega
      refine ⟨w, g16_call ?_, Fr.refl _ _⟩
      rw [dif_neg (by omega)]
      unfold g16
      simp only [k1, c0, k2, obs, asP_pointer, asB_bool, asI_int, asS_string, asSl_slice, asM_map, asTup0, asTup1, asTup2, asTup3, asTup4, asTup5, asTup6, asTup7, asTup8, asTup9, asAgg2, asAgg3, asAgg4, asAgg5, asAgg6, asAgg7, asAgg8, asAgg9, asAgg12, getD0, getD1, getD2, getD3, getD4, getD5, getD6, getD7, getD8, getD9, getD10, getD11, getD12, getD13, getD14, getD15, getD16, getD17, getD18, getD19, Bool.not_true, Bool.not_false, Bool.false_eq_true, Bool.true_eq_false, ↓reduceIte, decide_true, decide_false, Option.isNone_some, Option.isNone_none, Option.isSome_some, Option.isSome_none, beq_self_eq_true, bne_self_eq_false, Bool.and_true, Bool.true_and, Bool.and_false, Bool.false_and, not_true_eq_false, not_false_eq_true]

theorem pids20 (h : Raw w D b c nq pq ns es next count) (h0 : 0 ≤ next ∧ next ≤ 1001) :
    ∃ w', callF Try.prog 20 #[.pointer (some ⟨b, 0, none⟩)] w = some (.tuple #[.int .u64 next, .int .u64 (1001 - next)], w') ∧ Fr [] w w' := by
  have c2 : w.cell? ⟨b, 2, none⟩ = some (.pointer (some ⟨c, 0, none⟩)) := h.tbl.cell 2
  have e := left42 h.ct h0.1 h0.2 (by decide)
  refine ⟨w.drew, g20_call ?_, Fr.drew _ _⟩
  unfold g20
  simp only [addr_add, Nat.zero_add, c2, e, obs, asP_pointer, asB_bool, asI_int, asS_string, asSl_slice, asM_map, asTup0, asTup1, asTup2, asTup3, asTup4, asTup5, asTup6, asTup7, asTup8, asTup9, asAgg2, asAgg3, asAgg4, asAgg5, asAgg6, asAgg7, asAgg8, asAgg9, asAgg12, getD0, getD1, getD2, getD3, getD4, getD5, getD6, getD7, getD8, getD9, getD10, getD11, getD12, getD13, getD14, getD15, getD16, getD17, getD18, getD19, Bool.not_true, Bool.not_false, Bool.false_eq_true, Bool.true_eq_false, ↓reduceIte, decide_true, decide_false, Option.isNone_some, Option.isNone_none, Option.isSome_some, Option.isSome_none, beq_self_eq_true, bne_self_eq_false, Bool.and_true, Bool.true_and, Bool.and_false, Bool.false_and, not_true_eq_false, not_false_eq_true]

theorem counts23 (h : Raw w D b c nq pq ns es next count) :
    ∃ w', callF Try.prog 23 #[.pointer (some ⟨b, 0, none⟩)] w = some (.tuple #[.int .i64 (ns.length : Int), .int .i64 (es.length : Int), .int .i64 count], w') ∧ Fr [] w w' := by
  have hd := h.fr (Fr.drew [] w) (by simp)
  have c0 : w.drew.cell? ⟨b, 0, none⟩ = some (.slice nq.1 nq.2.1 nq.2.2) := hd.tbl.cell 0
  have c1 : w.drew.cell? ⟨b, 1, none⟩ = some (.slice pq.1 pq.2.1 pq.2.2) := hd.tbl.cell 1
  have c3 : w.drew.cell? ⟨b, 3, none⟩ = some (.int .i64 count) := hd.tbl.cell 3
  have h1 := h.nlen
  have h2 := h.plen
  refine ⟨w.drew, g23_call ?_, Fr.drew _ _⟩
  unfold g23
  simp only [addr_add, Nat.zero_add, c0, c1, c3, h1, h2, obs, asP_pointer, asB_bool, asI_int, asS_string, asSl_slice, asM_map, asTup0, asTup1, asTup2, asTup3, asTup4, asTup5, asTup6, asTup7, asTup8, asTup9, asAgg2, asAgg3, asAgg4, asAgg5, asAgg6, asAgg7, asAgg8, asAgg9, asAgg12, getD0, getD1, getD2, getD3, getD4, getD5, getD6, getD7, getD8, getD9, getD10, getD11, getD12, getD13, getD14, getD15, getD16, getD17, getD18, getD19, Bool.not_true, Bool.not_false, Bool.false_eq_true, Bool.true_eq_false, ↓reduceIte, decide_true, decide_false, Option.isNone_some, Option.isNone_none, Option.isSome_some, Option.isSome_none, beq_self_eq_true, bne_self_eq_false, Bool.and_true, Bool.true_and, Bool.and_false, Bool.false_and, not_true_eq_false, not_false_eq_true]

/-- what grant answers -/
theorem grant41 (h : Raw w D b c nq pq ns es next count) (h0 : 0 ≤ next ∧ next ≤ 1001) {k : Nat} (hk : k < ns.length) :
    ∃ w', callF Try.prog 41 #[.pointer (some ⟨b, 0, none⟩), .int .i64 (k : Int)] w = some (.int .i64 (if 1001 - next < 10 then 17 else 0), w') ∧
      Raw w' D b c nq pq (if 1001 - next < 10 then ns else ns.set k { ns[k] with bk := next }) es (if 1001 - next < 10 then next else next + 10) count ∧ (∃ S, Fr S w w' ∧ ∀ y ∈ S, D y) := by
  have c2 : w.cell? ⟨b, 2, none⟩ = some (.pointer (some ⟨c, 0, none⟩)) := h.tbl.cell 2
  obtain ⟨w1, e1, t1, f1⟩ := block77 (n := 10) h.ct h0.1 h0.2 (by decide) (by decide) (by decide)
  have hcb := h.ct.ne_blk h.tbl (by decide)
  have b1 := h.tbl.fr f1 (by simp; exact fun e => hcb e.symm)
  have R1 : Raw w1 D b c nq pq ns es (blockOf next 1001 10).2.2 count := by
    refine ⟨b1, h.nd.fr f1 (fun y hy hm => by simp at hm; subst hm; exact h.ct.notin h.nd (by decide) hy), h.pt.fr f1 (fun y hy hm => by simp at hm; subst hm; exact h.ct.notin h.pt (by decide) hy), t1, fun e he => (h.ok e he).fr f1 (fun y hy => by
      simp at hy; subst hy
      exact ⟨h.ct.notin (h.ok e he).oi (by decide), h.ct.notin (h.ok e he).or_ (by decide), h.ct.notin (h.ok e he).ot (by decide)⟩) (fun _ => id), h.rb, h.rc, h.rn, h.rp, fun y hy => by have := h.lt y hy; have := f1.size; omega⟩
  by_cases hs : 1001 - next < 10
  · have hb : blockOf next 1001 10 = (0, false, next) := by unfold blockOf; rw [if_pos (by omega)]
    rw [hb] at e1 R1
    rw [if_pos hs, if_pos hs, if_pos hs]
    refine ⟨w1, g41_call ?_, R1, ⟨[c], f1, by intro y hy; simp at hy; subst hy; exact h.rc⟩⟩
    unfold g41
    simp only [addr_add, Nat.zero_add, c2, e1, obs, asP_pointer, asB_bool, asI_int, asS_string, asSl_slice, asM_map, asTup0, asTup1, asTup2, asTup3, asTup4, asTup5, asTup6, asTup7, asTup8, asTup9, asAgg2, asAgg3, asAgg4, asAgg5, asAgg6, asAgg7, asAgg8, asAgg9, asAgg12, getD0, getD1, getD2, getD3, getD4, getD5, getD6, getD7, getD8, getD9, getD10, getD11, getD12, getD13, getD14, getD15, getD16, getD17, getD18, getD19, Bool.not_true, Bool.not_false, Bool.false_eq_true, Bool.true_eq_false, ↓reduceIte, decide_true, decide_false, Option.isNone_some, Option.isNone_none, Option.isSome_some, Option.isSome_none, beq_self_eq_true, bne_self_eq_false, Bool.and_true, Bool.true_and, Bool.and_false, Bool.false_and, not_true_eq_false, not_false_eq_true]
  · have hb : blockOf next 1001 10 = (next, true, next + 10) := by unfold blockOf; rw [if_neg (by omega)]
    rw [hb] at e1 R1
    rw [if_neg hs, if_neg hs, if_neg hs]
    have c0 : w1.cell? ⟨b, 0, none⟩ = some (.slice nq.1 nq.2.1 nq.2.2) := R1.tbl.cell 0
    obtain ⟨a, w2, i2, s2, R2, f2⟩ := R1.setN hk (j := 2) (by decide) { ns[k] with bk := next } (.int .u64 next) rfl rfl
    refine ⟨w2, g41_call ?_, R2, ⟨c :: blkOf nq, (f1.app f2).mono (by intro y hy _; simpa using hy), by intro y hy; simp at hy; rcases hy with rfl | hy; exact h.rc; exact h.rn y hy⟩⟩
    unfold g41
    simp only [addr_add, Nat.zero_add, c2, e1, c0, i2, s2, obs, asP_pointer, asB_bool, asI_int, asS_string, asSl_slice, asM_map, asTup0, asTup1, asTup2, asTup3, asTup4, asTup5, asTup6, asTup7, asTup8, asTup9, asAgg2, asAgg3, asAgg4, asAgg5, asAgg6, asAgg7, asAgg8, asAgg9, asAgg12, getD0, getD1, getD2, getD3, getD4, getD5, getD6, getD7, getD8, getD9, getD10, getD11, getD12, getD13, getD14, getD15, getD16, getD17, getD18, getD19, Bool.not_true, Bool.not_false, Bool.false_eq_true, Bool.true_eq_false, ↓reduceIte, decide_true, decide_false, Option.isNone_some, Option.isNone_none, Option.isSome_some, Option.isSome_none, beq_self_eq_true, bne_self_eq_false, Bool.and_true, Bool.true_and, Bool.and_false, Bool.false_and, not_true_eq_false, not_false_eq_true]
end
end Go.Proofs.Ytjcenfgmpbeldaa
