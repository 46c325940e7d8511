/-
  ImageY: lemmas on what Go functions of this seat come to (for whatever arguments, as each says). No condition but those that stand in each lemma.
-/
import Derived.Test.YtjcenfgmpbeldaaImageX
namespace Go.Proofs.Ytjcenfgmpbeldaa
open Go Go.Ev
set_option maxRecDepth 100000
set_option linter.unusedVariables false
set_option linter.unusedSimpArgs false
section
variable {T : TypeId} {w : World} {p : Nat} {q : ShT} {s : RS}

theorem uint58 (h : Rdr 134 w p q s) : ∃ w', callF Try.prog 62 #[.pointer (some ⟨p, 0, none⟩)] w = some (.int .u64 ((uintS s).1 : Int), w') ∧ Rdr 134 w' p q (uintS s).2 ∧ Fr [p] w w' := by
  have c2 : w.cell? ⟨p, 2, none⟩ = some (.int .i64 s.e) := h.blk.cell 2
  have c1 : w.cell? ⟨p, 1, none⟩ = some (.int .i64 (s.at_ : Int)) := h.blk.cell 1
  by_cases he : s.e = 0
  · have k0 : (s.e != 0) = false := by simp [he]
    obtain ⟨e, t, w1, g1, rfl, ht, R, F⟩ := loopS_rule (b := g62_l7_b (some ⟨p, 0, none⟩) (s.at_ : Int)) (n := 10)
      (I := fun k st x => ∃ acc : Nat, st = (0, (acc : Int), ((7 * k : Nat) : Int)) ∧ RdI 134 w p q s (s.at_ + k) k acc x)
      (Q := fun e st x => e = .ret ∧ st.1 = ((uintS s).1 : Int) ∧ Rdr 134 x p q (uintS s).2 ∧ Fr [p] w x)
      (fun k st x hk ⟨acc, hs, hI⟩ => by
        subst hs
        obtain ⟨e, st, w', g, ho⟩ := uint58_round he hI
        exact ⟨e, st, w', g, ho⟩)
      (fun st x ⟨acc, hs, hI⟩ => absurd hI.1 (by decide)) (k := 0) (s := (0, 0, 0)) (w := w) (by omega)
      ⟨0, rfl, by omega, by simp, h.ok.at_, h, Fr.refl _ _, by
        cases rdU (s.bs.drop s.at_) 0 with
        | eof => simp [comb]
        | bad => simp [comb]
        | ok n l => simp [comb]⟩
    refine ⟨w1, g62_call ?_, R, F⟩
    unfold g62
    simp only [addr_add, Nat.zero_add, c2, k0, c1, obs, asP_pointer, asB_bool, asI_int, asS_string, asSl_slice, asM_map, asTup0, asTup1, asTup2, asTup3, asTup4, asTup5, asTup6, asTup7, asTup8, asTup9, asAgg2, asAgg3, asAgg4, asAgg5, asAgg6, asAgg7, asAgg8, asAgg9, asAgg12, getD0, getD1, getD2, getD3, getD4, getD5, getD6, getD7, getD8, getD9, getD10, getD11, getD12, getD13, getD14, getD15, getD16, getD17, getD18, getD19, Bool.not_true, Bool.not_false, Bool.false_eq_true, Bool.true_eq_false, ↓reduceIte, decide_true, decide_false, Option.isNone_some, Option.isNone_none, Option.isSome_some, Option.isSome_none, beq_self_eq_true, bne_self_eq_false, Bool.and_true, Bool.true_and, Bool.and_false, Bool.false_and, not_true_eq_false, not_false_eq_true]
    rw [g62_l7_ret_of g1, g62_l7_ret, ht]
  · have k0 : (s.e != 0) = true := by simp [he]
    have hu : uintS s = (0, s) := by unfold uintS; rw [if_pos he]
    refine ⟨w, g62_call ?_, by rw [hu]; exact h, Fr.refl _ _⟩
    rw [hu]
    unfold g62
    simp only [addr_add, Nat.zero_add, c2, k0, obs, asP_pointer, asB_bool, asI_int, asS_string, asSl_slice, asM_map, asTup0, asTup1, asTup2, asTup3, asTup4, asTup5, asTup6, asTup7, asTup8, asTup9, asAgg2, asAgg3, asAgg4, asAgg5, asAgg6, asAgg7, asAgg8, asAgg9, asAgg12, getD0, getD1, getD2, getD3, getD4, getD5, getD6, getD7, getD8, getD9, getD10, getD11, getD12, getD13, getD14, getD15, getD16, getD17, getD18, getD19, Bool.not_true, Bool.not_false, Bool.false_eq_true, Bool.true_eq_false, ↓reduceIte, decide_true, decide_false, Option.isNone_some, Option.isNone_none, Option.isSome_some, Option.isSome_none, beq_self_eq_true, bne_self_eq_false, Bool.and_true, Bool.true_and, Bool.and_false, Bool.false_and, not_true_eq_false, not_false_eq_true]
    rfl

theorem uint46_round {W : World} {k acc : Nat} (he : s.e = 0) (h : RdI 101 W p q s s.at_ k acc w) :
    ∃ e st w', g59_l4_b (some ⟨p, 0, none⟩) (0, (acc : Int), (k : Int)) w = some (e, st, w') ∧
      (e = .normal ∧ (∃ acc' : Nat, st = (0, (acc' : Int), ((k + 1 : Nat) : Int)) ∧ RdI 101 W p q s s.at_ (k + 1) acc' w') ∨
       e ≠ .normal ∧ e = .ret ∧ st.1 = ((uintS s).1 : Int) ∧ Rdr 101 w' p q (uintS s).2 ∧ Fr [p] W w') := by
  obtain ⟨hk, ha, hat, hR, hF, hr⟩ := h
  have hlen := hR.txt.1
  simp only at hlen
  have hok := hR.ok
  have hol := hok.len
  simp only at hol
  have fd := Fr.drew [p] w
  have fd2 := Fr.drew [p] w.drew
  have h1 := hR.drew
  have h2 := h1.drew
  have k10 : decide ((k : Int) < 10) = true := by simp; omega
  have c1 : w.drew.cell? ⟨p, 1, none⟩ = some (.int .i64 (s.at_ : Int)) := h1.blk.cell 1
  have c0 : w.drew.cell? ⟨p, 0, none⟩ = some (.slice q.1 q.2.1 q.2.2) := h1.blk.cell 0
  have kw : IntKind.i64.wrap ((s.at_ : Int) + (k : Int)) = ((s.at_ + k : Nat) : Int) := by
    rw [wrap_i64 (by omega) (by omega)]; omega
  by_cases hend : s.at_ + k = s.bs.length
  · have k1 : decide (((s.at_ + k : Nat) : Int) ≥ (q.2.1 : Int)) = true := by simp; omega
    obtain ⟨w2, e2, R2, f2⟩ := fail69 h1 6
    have hd : s.bs.drop (s.at_ + k) = [] := List.drop_eq_nil_of_le (by omega)
    have hu : uintS s = (0, { s with e := 6 }) := by
      rw [uintS_of he, hr, hd]; rfl
    refine ⟨.ret, (0, (acc : Int), (k : Int)), w2, ?_, .inr ⟨by simp, rfl, by rw [hu]; rfl, ?_, fr1 (fr1 hF fd) f2⟩⟩
    · unfold g59_l4_b
      simp only [addr_add, Nat.zero_add, k10, c1, c0, kw, k1, e2, obs, asP_pointer, asB_bool, asI_int, asS_string, asSl_slice, asM_map, asTup0, asTup1, asTup2, asTup3, asTup4, asTup5, asTup6, asTup7, asTup8, asTup9, asAgg2, asAgg3, asAgg4, asAgg5, asAgg6, asAgg7, asAgg8, asAgg9, asAgg12, getD0, getD1, getD2, getD3, getD4, getD5, getD6, getD7, getD8, getD9, getD10, getD11, getD12, getD13, getD14, getD15, getD16, getD17, getD18, getD19, Bool.not_true, Bool.not_false, Bool.false_eq_true, Bool.true_eq_false, ↓reduceIte, decide_true, decide_false, Option.isNone_some, Option.isNone_none, Option.isSome_some, Option.isSome_none, beq_self_eq_true, bne_self_eq_false, Bool.and_true, Bool.true_and, Bool.and_false, Bool.false_and, not_true_eq_false, not_false_eq_true]
    · rw [hu]
      have : ({ s with at_ := s.at_ } : RS).fail 6 = { s with e := 6 } := by unfold RS.fail; rw [if_pos he]
      rw [← this]; exact R2
  · have k1 : decide (((s.at_ + k : Nat) : Int) ≥ (q.2.1 : Int)) = false := by simp; omega
    have hlt : s.at_ + k < s.bs.length := by omega
    obtain ⟨a, i1, cb⟩ := h2.txt.get hlt
    obtain ⟨b, hb⟩ : ∃ b, s.bs[s.at_ + k] = b := ⟨_, rfl⟩
    have hb255 : 0 ≤ b ∧ b ≤ 255 := hb ▸ hok.byte _ (List.getElem_mem hlt)
    have cb' : w.drew.drew.cell? a = some (.int .u8 b) := by rw [cb]; simp only [hb]
    have d1 : w.drew.drew.cell? ⟨p, 1, none⟩ = some (.int .i64 (s.at_ : Int)) := h2.blk.cell 1
    have d0 : w.drew.drew.cell? ⟨p, 0, none⟩ = some (.slice q.1 q.2.1 q.2.2) := h2.blk.cell 0
    have hd : s.bs.drop (s.at_ + k) = b :: s.bs.drop (s.at_ + (k + 1)) := by rw [List.drop_eq_getElem_cons hlt, hb]; rfl
    have F3 : Fr [p] W w.drew.drew := fr1 hF (fr1 fd fd2)
    have hm : b.toNat % 128 < 128 := Nat.mod_lt _ (by decide)
    have wb : IntKind.u64.wrap b = b := wrap_u64 (by omega) (by omega)
    have k9 : (((k : Nat) : Int) == 9) = decide (k = 9) := by
      by_cases h9 : k = 9
      · subst h9; rfl
      · simp only [h9, decide_false]; simp; omega
    have nsg : ¬ (IntKind.u64.wrap (IntKind.i64.wrap (7 * (k : Int))) < 0) := by rw [wrap_i64 (by omega) (by omega), wrap_u64 (by omega) (by omega)]; omega
    by_cases hc : (k = 9 ∧ 1 < b) ∨ (0 < k ∧ b = 0)
    · obtain ⟨w5, e5, R5, f5⟩ := fail69 h2 7
      have hu : uintS s = (0, { s with e := 7 }) := by
        rw [uintS_of he, hr, hd]; simp only [rdU, if_pos hc, comb]
      refine ⟨.ret, (0, (acc : Int), (k : Int)), w5, ?_, .inr ⟨by simp, rfl, by rw [hu]; rfl, ?_, fr1 F3 f5⟩⟩
      · unfold g59_l4_b
        by_cases h9 : k = 9
        · subst h9
          by_cases hb1 : 1 < b
          · have q1 : decide (b > 1) = true := by simp; omega
            simp only [addr_add, Nat.zero_add, k10, c1, c0, k1, d0, d1, kw, i1, cb', wb, k9, decide_true, q1, e5, obs, asP_pointer, asB_bool, asI_int, asS_string, asSl_slice, asM_map, asTup0, asTup1, asTup2, asTup3, asTup4, asTup5, asTup6, asTup7, asTup8, asTup9, asAgg2, asAgg3, asAgg4, asAgg5, asAgg6, asAgg7, asAgg8, asAgg9, asAgg12, getD0, getD1, getD2, getD3, getD4, getD5, getD6, getD7, getD8, getD9, getD10, getD11, getD12, getD13, getD14, getD15, getD16, getD17, getD18, getD19, Bool.not_true, Bool.not_false, Bool.false_eq_true, Bool.true_eq_false, ↓reduceIte, decide_true, decide_false, Option.isNone_some, Option.isNone_none, Option.isSome_some, Option.isSome_none, beq_self_eq_true, bne_self_eq_false, Bool.and_true, Bool.true_and, Bool.and_false, Bool.false_and, not_true_eq_false, not_false_eq_true]
          · have hb0 : b = 0 := by omega
            have q1 : decide (b > 1) = false := by simp; omega
            have q2 : (b == 0) = true := by simp [hb0]
            have q3 : decide (((9 : Nat) : Int) > 0) = true := by decide
            simp only [addr_add, Nat.zero_add, k10, c1, c0, k1, d0, d1, kw, i1, cb', wb, k9, decide_true, q1, q2, q3, e5, obs, asP_pointer, asB_bool, asI_int, asS_string, asSl_slice, asM_map, asTup0, asTup1, asTup2, asTup3, asTup4, asTup5, asTup6, asTup7, asTup8, asTup9, asAgg2, asAgg3, asAgg4, asAgg5, asAgg6, asAgg7, asAgg8, asAgg9, asAgg12, getD0, getD1, getD2, getD3, getD4, getD5, getD6, getD7, getD8, getD9, getD10, getD11, getD12, getD13, getD14, getD15, getD16, getD17, getD18, getD19, Bool.not_true, Bool.not_false, Bool.false_eq_true, Bool.true_eq_false, ↓reduceIte, decide_true, decide_false, Option.isNone_some, Option.isNone_none, Option.isSome_some, Option.isSome_none, beq_self_eq_true, bne_self_eq_false, Bool.and_true, Bool.true_and, Bool.and_false, Bool.false_and, not_true_eq_false, not_false_eq_true]
        · have hb0 : 0 < k ∧ b = 0 := by rcases hc with hc | hc; exact absurd hc.1 h9; exact hc
          have q2 : (b == 0) = true := by simp [hb0.2]
          have q3 : decide ((k : Int) > 0) = true := by simp; omega
          simp only [addr_add, Nat.zero_add, k10, c1, c0, k1, d0, d1, kw, i1, cb', wb, k9, h9, decide_false, q2, q3, e5, obs, asP_pointer, asB_bool, asI_int, asS_string, asSl_slice, asM_map, asTup0, asTup1, asTup2, asTup3, asTup4, asTup5, asTup6, asTup7, asTup8, asTup9, asAgg2, asAgg3, asAgg4, asAgg5, asAgg6, asAgg7, asAgg8, asAgg9, asAgg12, getD0, getD1, getD2, getD3, getD4, getD5, getD6, getD7, getD8, getD9, getD10, getD11, getD12, getD13, getD14, getD15, getD16, getD17, getD18, getD19, Bool.not_true, Bool.not_false, Bool.false_eq_true, Bool.true_eq_false, ↓reduceIte, decide_true, decide_false, Option.isNone_some, Option.isNone_none, Option.isSome_some, Option.isSome_none, beq_self_eq_true, bne_self_eq_false, Bool.and_true, Bool.true_and, Bool.and_false, Bool.false_and, not_true_eq_false, not_false_eq_true]
      · rw [hu]
        have : ({ s with at_ := s.at_ } : RS).fail 7 = { s with e := 7 } := by unfold RS.fail; rw [if_pos he]
        rw [← this]; exact R5
    · have hb9 : k = 9 → b.toNat % 128 ≤ 1 := fun h9 => by
        have : ¬ 1 < b := fun hh => hc (.inl ⟨h9, hh⟩)
        omega
      obtain ⟨v1, v2⟩ := shl_bound ha hk hm hb9
      have hv := add_val hb255 hk v1
      rw [wb] at hv
      have q0 : (k = 9 → decide (b > 1) = false) := fun h9 => by
        have : ¬ 1 < b := fun hh => hc (.inl ⟨h9, hh⟩)
        simp; omega
      have q2 : 0 < k → (b == 0) = false := fun h0 => by
        have : ¬ b = 0 := fun hh => hc (.inr ⟨h0, hh⟩)
        simp [this]
      by_cases h128 : b < 128
      · have q5 : decide (b < 128) = true := by simp [h128]
        obtain ⟨w3, s3, R3, f3⟩ := h2.put_at (n := s.at_ + (k + 1)) (by simp only; omega)
        have kw1 : IntKind.i64.wrap (((s.at_ + k : Nat) : Int) + 1) = ((s.at_ + (k + 1) : Nat) : Int) := by
          rw [wrap_i64 (by omega) (by omega)]; omega
        have hu : uintS s = (acc + 2 ^ (7 * k) * (b.toNat % 128), { s with at_ := s.at_ + (k + 1) }) := by
          rw [uintS_of he, hr, hd]
          simp only [rdU, if_neg hc, if_pos h128, comb]
          rw [Nat.mod_eq_of_lt (by omega), Nat.add_comm 1 k]
        refine ⟨.ret, (((acc + 2 ^ (7 * k) * (b.toNat % 128) : Nat) : Int), ((acc + 2 ^ (7 * k) * (b.toNat % 128) : Nat) : Int), (k : Int)), w3, ?_, .inr ⟨by simp, rfl, by rw [hu], by rw [hu]; exact R3, fr1 F3 f3⟩⟩
        unfold g59_l4_b
        by_cases h9 : k = 9
        · have q0' := q0 h9
          have q2' := q2 (by omega)
          subst h9
          have q3 : decide (((9 : Nat) : Int) > 0) = true := by decide
          simp only [addr_add, Nat.zero_add, k10, c1, c0, k1, d0, d1, kw, i1, cb', wb, k9, decide_true, q0', q2', q3, nsg, q5, hv, kw1, s3, obs, asP_pointer, asB_bool, asI_int, asS_string, asSl_slice, asM_map, asTup0, asTup1, asTup2, asTup3, asTup4, asTup5, asTup6, asTup7, asTup8, asTup9, asAgg2, asAgg3, asAgg4, asAgg5, asAgg6, asAgg7, asAgg8, asAgg9, asAgg12, getD0, getD1, getD2, getD3, getD4, getD5, getD6, getD7, getD8, getD9, getD10, getD11, getD12, getD13, getD14, getD15, getD16, getD17, getD18, getD19, Bool.not_true, Bool.not_false, Bool.false_eq_true, Bool.true_eq_false, ↓reduceIte, decide_true, decide_false, Option.isNone_some, Option.isNone_none, Option.isSome_some, Option.isSome_none, beq_self_eq_true, bne_self_eq_false, Bool.and_true, Bool.true_and, Bool.and_false, Bool.false_and, not_true_eq_false, not_false_eq_true]
        · by_cases h0 : 0 < k
          · have q2' := q2 h0
            have q3 : decide ((k : Int) > 0) = true := by simp; omega
            simp only [addr_add, Nat.zero_add, k10, c1, c0, k1, d0, d1, kw, i1, cb', wb, k9, h9, decide_false, q2', q3, nsg, q5, hv, kw1, s3, obs, asP_pointer, asB_bool, asI_int, asS_string, asSl_slice, asM_map, asTup0, asTup1, asTup2, asTup3, asTup4, asTup5, asTup6, asTup7, asTup8, asTup9, asAgg2, asAgg3, asAgg4, asAgg5, asAgg6, asAgg7, asAgg8, asAgg9, asAgg12, getD0, getD1, getD2, getD3, getD4, getD5, getD6, getD7, getD8, getD9, getD10, getD11, getD12, getD13, getD14, getD15, getD16, getD17, getD18, getD19, Bool.not_true, Bool.not_false, Bool.false_eq_true, Bool.true_eq_false, ↓reduceIte, decide_true, decide_false, Option.isNone_some, Option.isNone_none, Option.isSome_some, Option.isSome_none, beq_self_eq_true, bne_self_eq_false, Bool.and_true, Bool.true_and, Bool.and_false, Bool.false_and, not_true_eq_false, not_false_eq_true]
          · have q3 : decide ((k : Int) > 0) = false := by simp; omega
            simp only [addr_add, Nat.zero_add, k10, c1, c0, k1, d0, d1, kw, i1, cb', wb, k9, h9, decide_false, q3, nsg, q5, hv, kw1, s3, obs, asP_pointer, asB_bool, asI_int, asS_string, asSl_slice, asM_map, asTup0, asTup1, asTup2, asTup3, asTup4, asTup5, asTup6, asTup7, asTup8, asTup9, asAgg2, asAgg3, asAgg4, asAgg5, asAgg6, asAgg7, asAgg8, asAgg9, asAgg12, getD0, getD1, getD2, getD3, getD4, getD5, getD6, getD7, getD8, getD9, getD10, getD11, getD12, getD13, getD14, getD15, getD16, getD17, getD18, getD19, Bool.not_true, Bool.not_false, Bool.false_eq_true, Bool.true_eq_false, ↓reduceIte, decide_true, decide_false, Option.isNone_some, Option.isNone_none, Option.isSome_some, Option.isSome_none, beq_self_eq_true, bne_self_eq_false, Bool.and_true, Bool.true_and, Bool.and_false, Bool.false_and, not_true_eq_false, not_false_eq_true]
      · have h9 : k ≠ 9 := fun h9 => hc (.inl ⟨h9, by omega⟩)
        have q5 : decide (b < 128) = false := by simp; omega
        have kw7 := wrap_succ (n := k) (by omega)
        refine ⟨.normal, (0, ((acc + 2 ^ (7 * k) * (b.toNat % 128) : Nat) : Int), ((k + 1 : Nat) : Int)), w.drew.drew, ?_, .inl ⟨rfl, _, rfl, by omega, v2 (by omega), by omega, h2, F3, ?_⟩⟩
        · unfold g59_l4_b
          by_cases h0 : 0 < k
          · have q2' := q2 h0
            have q3 : decide ((k : Int) > 0) = true := by simp; omega
            simp only [addr_add, Nat.zero_add, k10, c1, c0, k1, d0, d1, kw, i1, cb', wb, k9, h9, decide_false, q2', q3, nsg, q5, hv, kw7, obs, asP_pointer, asB_bool, asI_int, asS_string, asSl_slice, asM_map, asTup0, asTup1, asTup2, asTup3, asTup4, asTup5, asTup6, asTup7, asTup8, asTup9, asAgg2, asAgg3, asAgg4, asAgg5, asAgg6, asAgg7, asAgg8, asAgg9, asAgg12, getD0, getD1, getD2, getD3, getD4, getD5, getD6, getD7, getD8, getD9, getD10, getD11, getD12, getD13, getD14, getD15, getD16, getD17, getD18, getD19, Bool.not_true, Bool.not_false, Bool.false_eq_true, Bool.true_eq_false, ↓reduceIte, decide_true, decide_false, Option.isNone_some, Option.isNone_none, Option.isSome_some, Option.isSome_none, beq_self_eq_true, bne_self_eq_false, Bool.and_true, Bool.true_and, Bool.and_false, Bool.false_and, not_true_eq_false, not_false_eq_true]
          · have q3 : decide ((k : Int) > 0) = false := by simp; omega
            simp only [addr_add, Nat.zero_add, k10, c1, c0, k1, d0, d1, kw, i1, cb', wb, k9, h9, decide_false, q3, nsg, q5, hv, kw7, obs, asP_pointer, asB_bool, asI_int, asS_string, asSl_slice, asM_map, asTup0, asTup1, asTup2, asTup3, asTup4, asTup5, asTup6, asTup7, asTup8, asTup9, asAgg2, asAgg3, asAgg4, asAgg5, asAgg6, asAgg7, asAgg8, asAgg9, asAgg12, getD0, getD1, getD2, getD3, getD4, getD5, getD6, getD7, getD8, getD9, getD10, getD11, getD12, getD13, getD14, getD15, getD16, getD17, getD18, getD19, Bool.not_true, Bool.not_false, Bool.false_eq_true, Bool.true_eq_false, ↓reduceIte, decide_true, decide_false, Option.isNone_some, Option.isNone_none, Option.isSome_some, Option.isSome_none, beq_self_eq_true, bne_self_eq_false, Bool.and_true, Bool.true_and, Bool.and_false, Bool.false_and, not_true_eq_false, not_false_eq_true]
        · rw [hr, hd, comb_step hb255 hc h128]

theorem uint46 (h : Rdr 101 w p q s) : ∃ w', callF Try.prog 59 #[.pointer (some ⟨p, 0, none⟩)] w = some (.int .u64 ((uintS s).1 : Int), w') ∧ Rdr 101 w' p q (uintS s).2 ∧ Fr [p] w w' := by
  have c2 : w.cell? ⟨p, 2, none⟩ = some (.int .i64 s.e) := h.blk.cell 2
  by_cases he : s.e = 0
  · have k0 : (s.e != 0) = false := by simp [he]
    obtain ⟨e, t, w1, g1, rfl, ht, R, F⟩ := loopS_rule (b := g59_l4_b (some ⟨p, 0, none⟩)) (n := 10)
      (I := fun k st x => ∃ acc : Nat, st = (0, (acc : Int), (k : Int)) ∧ RdI 101 w p q s s.at_ k acc x)
      (Q := fun e st x => e = .ret ∧ st.1 = ((uintS s).1 : Int) ∧ Rdr 101 x p q (uintS s).2 ∧ Fr [p] w x)
      (fun k st x hk ⟨acc, hs, hI⟩ => by
        subst hs
        obtain ⟨e, st, w', g, ho⟩ := uint46_round he hI
        exact ⟨e, st, w', g, ho⟩)
      (fun st x ⟨acc, hs, hI⟩ => absurd hI.1 (by decide)) (k := 0) (s := (0, 0, 0)) (w := w) (by omega)
      ⟨0, rfl, by omega, by simp, h.ok.at_, h, Fr.refl _ _, by
        cases rdU (s.bs.drop s.at_) 0 with
        | eof => simp [comb]
        | bad => simp [comb]
        | ok n l => simp [comb]⟩
    refine ⟨w1, g59_call ?_, R, F⟩
    unfold g59
    simp only [addr_add, Nat.zero_add, c2, k0, obs, asP_pointer, asB_bool, asI_int, asS_string, asSl_slice, asM_map, asTup0, asTup1, asTup2, asTup3, asTup4, asTup5, asTup6, asTup7, asTup8, asTup9, asAgg2, asAgg3, asAgg4, asAgg5, asAgg6, asAgg7, asAgg8, asAgg9, asAgg12, getD0, getD1, getD2, getD3, getD4, getD5, getD6, getD7, getD8, getD9, getD10, getD11, getD12, getD13, getD14, getD15, getD16, getD17, getD18, getD19, Bool.not_true, Bool.not_false, Bool.false_eq_true, Bool.true_eq_false, ↓reduceIte, decide_true, decide_false, Option.isNone_some, Option.isNone_none, Option.isSome_some, Option.isSome_none, beq_self_eq_true, bne_self_eq_false, Bool.and_true, Bool.true_and, Bool.and_false, Bool.false_and, not_true_eq_false, not_false_eq_true]
    rw [g59_l4_ret_of g1, g59_l4_ret, ht]
  · have k0 : (s.e != 0) = true := by simp [he]
    have hu : uintS s = (0, s) := by unfold uintS; rw [if_pos he]
    refine ⟨w, g59_call ?_, by rw [hu]; exact h, Fr.refl _ _⟩
    rw [hu]
    unfold g59
    simp only [addr_add, Nat.zero_add, c2, k0, obs, asP_pointer, asB_bool, asI_int, asS_string, asSl_slice, asM_map, asTup0, asTup1, asTup2, asTup3, asTup4, asTup5, asTup6, asTup7, asTup8, asTup9, asAgg2, asAgg3, asAgg4, asAgg5, asAgg6, asAgg7, asAgg8, asAgg9, asAgg12, getD0, getD1, getD2, getD3, getD4, getD5, getD6, getD7, getD8, getD9, getD10, getD11, getD12, getD13, getD14, getD15, getD16, getD17, getD18, getD19, Bool.not_true, Bool.not_false, Bool.false_eq_true, Bool.true_eq_false, ↓reduceIte, decide_true, decide_false, Option.isNone_some, Option.isNone_none, Option.isSome_some, Option.isSome_none, beq_self_eq_true, bne_self_eq_false, Bool.and_true, Bool.true_and, Bool.and_false, Bool.false_and, not_true_eq_false, not_false_eq_true]
    rfl

theorem int57 (h : Rdr 134 w p q s) : ∃ w', callF Try.prog 56 #[.pointer (some ⟨p, 0, none⟩)] w = some (.int .i64 (intS s).1, w') ∧ Rdr 134 w' p q (intS s).2 ∧ Fr [p] w w' := by
  obtain ⟨w', e, R, F⟩ := uint58 h
  refine ⟨w', g56_call ?_, R, F⟩
  unfold g56
  simp only [e, obs, asP_pointer, asB_bool, asI_int, asS_string, asSl_slice, asM_map, asTup0, asTup1, asTup2, asTup3, asTup4, asTup5, asTup6, asTup7, asTup8, asTup9, asAgg2, asAgg3, asAgg4, asAgg5, asAgg6, asAgg7, asAgg8, asAgg9, asAgg12, getD0, getD1, getD2, getD3, getD4, getD5, getD6, getD7, getD8, getD9, getD10, getD11, getD12, getD13, getD14, getD15, getD16, getD17, getD18, getD19, Bool.not_true, Bool.not_false, Bool.false_eq_true, Bool.true_eq_false, ↓reduceIte, decide_true, decide_false, Option.isNone_some, Option.isNone_none, Option.isSome_some, Option.isSome_none, beq_self_eq_true, bne_self_eq_false, Bool.and_true, Bool.true_and, Bool.and_false, Bool.false_and, not_true_eq_false, not_false_eq_true]
  rw [zag_bits h.ok.uint.1]; rfl
theorem zag68 (w : World) {n : Nat} (hn : n < 2 ^ 64) : callF Try.prog 80 #[.int .u64 (n : Int)] w = some (.int .i64 (zag n), w) := by
  refine g80_call ?_
  have e1 : Int.tmod (n : Int) 2 = ((n % 2 : Nat) : Int) := by rw [Int.tmod_eq_emod_of_nonneg (by omega)]; omega
  have e2 : Int.tdiv (n : Int) 2 = ((n / 2 : Nat) : Int) := by rw [Int.tdiv_eq_ediv_of_nonneg (by omega)]; omega
  unfold g80 zag
  rw [e1, e2, wrap_u64 (n := ((n / 2 : Nat) : Int)) (by omega) (by omega), wrap_i64 (n := ((n / 2 : Nat) : Int)) (by omega) (by omega), wrap_i64 (n := 0 - ((n / 2 : Nat) : Int)) (by omega) (by omega), wrap_i64 (by omega) (by omega)]
  by_cases h0 : n % 2 = 0
  · rw [if_pos h0, if_pos (by simp; omega)]
  · rw [if_neg h0, if_neg (by simp; omega), Int.zero_sub]
theorem int45 (h : Rdr 101 w p q s) : ∃ w', callF Try.prog 52 #[.pointer (some ⟨p, 0, none⟩)] w = some (.int .i64 (intS s).1, w') ∧ Rdr 101 w' p q (intS s).2 ∧ Fr [p] w w' := by
  obtain ⟨w', e, R, F⟩ := uint46 h
  have e2 := zag68 w' h.ok.uint.1
  refine ⟨w', g52_call ?_, R, F⟩
  unfold g52
  simp only [e, e2, obs, asP_pointer, asB_bool, asI_int, asS_string, asSl_slice, asM_map, asTup0, asTup1, asTup2, asTup3, asTup4, asTup5, asTup6, asTup7, asTup8, asTup9, asAgg2, asAgg3, asAgg4, asAgg5, asAgg6, asAgg7, asAgg8, asAgg9, asAgg12, getD0, getD1, getD2, getD3, getD4, getD5, getD6, getD7, getD8, getD9, getD10, getD11, getD12, getD13, getD14, getD15, getD16, getD17, getD18, getD19, Bool.not_true, Bool.not_false, Bool.false_eq_true, Bool.true_eq_false, ↓reduceIte, decide_true, decide_false, Option.isNone_some, Option.isNone_none, Option.isSome_some, Option.isSome_none, beq_self_eq_true, bne_self_eq_false, Bool.and_true, Bool.true_and, Bool.and_false, Bool.false_and, not_true_eq_false, not_false_eq_true]
  rfl
theorem flag60 (h : Rdr 134 w p q s) : ∃ w', callF Try.prog 63 #[.pointer (some ⟨p, 0, none⟩)] w = some (.bool (flagS s).1, w') ∧ Rdr 134 w' p q (flagS s).2 ∧ Fr [p] w w' := by
  obtain ⟨w1, e, R, F⟩ := uint58 h
  by_cases h1 : 1 < (uintS s).1
  · obtain ⟨w2, e2, R2, f2⟩ := fail70 R 7
    have k1 : decide (((uintS s).1 : Int) > 1) = true := by simp; omega
    have hu : flagS s = (false, (uintS s).2.fail 7) := by unfold flagS; rw [if_pos h1]
    rw [hu]
    refine ⟨w2, g63_call ?_, R2, fr1 F f2⟩
    unfold g63
    simp only [e, k1, e2, obs, asP_pointer, asB_bool, asI_int, asS_string, asSl_slice, asM_map, asTup0, asTup1, asTup2, asTup3, asTup4, asTup5, asTup6, asTup7, asTup8, asTup9, asAgg2, asAgg3, asAgg4, asAgg5, asAgg6, asAgg7, asAgg8, asAgg9, asAgg12, getD0, getD1, getD2, getD3, getD4, getD5, getD6, getD7, getD8, getD9, getD10, getD11, getD12, getD13, getD14, getD15, getD16, getD17, getD18, getD19, Bool.not_true, Bool.not_false, Bool.false_eq_true, Bool.true_eq_false, ↓reduceIte, decide_true, decide_false, Option.isNone_some, Option.isNone_none, Option.isSome_some, Option.isSome_none, beq_self_eq_true, bne_self_eq_false, Bool.and_true, Bool.true_and, Bool.and_false, Bool.false_and, not_true_eq_false, not_false_eq_true]
  · have k1 : decide (((uintS s).1 : Int) > 1) = false := by simp; omega
    have hu : flagS s = ((uintS s).1 == 1, (uintS s).2) := by unfold flagS; rw [if_neg h1]
    have k2 : (((uintS s).1 : Int) == 1) = ((uintS s).1 == 1) := by
      rw [Bool.eq_iff_iff]; simp; omega
    rw [hu]
    refine ⟨w1, g63_call ?_, R, F⟩
    unfold g63
    simp only [e, k1, k2, obs, asP_pointer, asB_bool, asI_int, asS_string, asSl_slice, asM_map, asTup0, asTup1, asTup2, asTup3, asTup4, asTup5, asTup6, asTup7, asTup8, asTup9, asAgg2, asAgg3, asAgg4, asAgg5, asAgg6, asAgg7, asAgg8, asAgg9, asAgg12, getD0, getD1, getD2, getD3, getD4, getD5, getD6, getD7, getD8, getD9, getD10, getD11, getD12, getD13, getD14, getD15, getD16, getD17, getD18, getD19, Bool.not_true, Bool.not_false, Bool.false_eq_true, Bool.true_eq_false, ↓reduceIte, decide_true, decide_false, Option.isNone_some, Option.isNone_none, Option.isSome_some, Option.isSome_none, beq_self_eq_true, bne_self_eq_false, Bool.and_true, Bool.true_and, Bool.and_false, Bool.false_and, not_true_eq_false, not_false_eq_true]
theorem flag48 (h : Rdr 101 w p q s) : ∃ w', callF Try.prog 60 #[.pointer (some ⟨p, 0, none⟩)] w = some (.bool (flagS s).1, w') ∧ Rdr 101 w' p q (flagS s).2 ∧ Fr [p] w w' := by
  obtain ⟨w1, e, R, F⟩ := uint46 h
  by_cases h1 : 1 < (uintS s).1
  · obtain ⟨w2, e2, R2, f2⟩ := fail69 R 7
    have k1 : decide (((uintS s).1 : Int) > 1) = true := by simp; omega
    have hu : flagS s = (false, (uintS s).2.fail 7) := by unfold flagS; rw [if_pos h1]
    rw [hu]
    refine ⟨w2, g60_call ?_, R2, fr1 F f2⟩
    unfold g60
    simp only [e, k1, e2, obs, asP_pointer, asB_bool, asI_int, asS_string, asSl_slice, asM_map, asTup0, asTup1, asTup2, asTup3, asTup4, asTup5, asTup6, asTup7, asTup8, asTup9, asAgg2, asAgg3, asAgg4, asAgg5, asAgg6, asAgg7, asAgg8, asAgg9, asAgg12, getD0, getD1, getD2, getD3, getD4, getD5, getD6, getD7, getD8, getD9, getD10, getD11, getD12, getD13, getD14, getD15, getD16, getD17, getD18, getD19, Bool.not_true, Bool.not_false, Bool.false_eq_true, Bool.true_eq_false, ↓reduceIte, decide_true, decide_false, Option.isNone_some, Option.isNone_none, Option.isSome_some, Option.isSome_none, beq_self_eq_true, bne_self_eq_false, Bool.and_true, Bool.true_and, Bool.and_false, Bool.false_and, not_true_eq_false, not_false_eq_true]
  · have k1 : decide (((uintS s).1 : Int) > 1) = false := by simp; omega
    have hu : flagS s = ((uintS s).1 == 1, (uintS s).2) := by unfold flagS; rw [if_neg h1]
    have k2 : (((uintS s).1 : Int) == 1) = ((uintS s).1 == 1) := by
      rw [Bool.eq_iff_iff]; simp; omega
    rw [hu]
    refine ⟨w1, g60_call ?_, R, F⟩
    unfold g60
    simp only [e, k1, k2, obs, asP_pointer, asB_bool, asI_int, asS_string, asSl_slice, asM_map, asTup0, asTup1, asTup2, asTup3, asTup4, asTup5, asTup6, asTup7, asTup8, asTup9, asAgg2, asAgg3, asAgg4, asAgg5, asAgg6, asAgg7, asAgg8, asAgg9, asAgg12, getD0, getD1, getD2, getD3, getD4, getD5, getD6, getD7, getD8, getD9, getD10, getD11, getD12, getD13, getD14, getD15, getD16, getD17, getD18, getD19, Bool.not_true, Bool.not_false, Bool.false_eq_true, Bool.true_eq_false, ↓reduceIte, decide_true, decide_false, Option.isNone_some, Option.isNone_none, Option.isSome_some, Option.isSome_none, beq_self_eq_true, bne_self_eq_false, Bool.and_true, Bool.true_and, Bool.and_false, Bool.false_and, not_true_eq_false, not_false_eq_true]
theorem end61 (h : Rdr 134 w p q s) : callF Try.prog 58 #[.pointer (some ⟨p, 0, none⟩)] w = some (.int .i64 (endS s), w.drew) := by
  have hd := h.drew
  have c0 : w.drew.cell? ⟨p, 0, none⟩ = some (.slice q.1 q.2.1 q.2.2) := hd.blk.cell 0
  have c1 : w.drew.cell? ⟨p, 1, none⟩ = some (.int .i64 (s.at_ : Int)) := hd.blk.cell 1
  have c2 : w.drew.cell? ⟨p, 2, none⟩ = some (.int .i64 s.e) := hd.blk.cell 2
  have hl := h.txt.1
  refine g58_call ?_
  by_cases he : s.e = 0
  · have k0 : (s.e == 0) = true := by simp [he]
    by_cases h1 : s.at_ < s.bs.length
    · have k1 : decide ((s.at_ : Int) < (q.2.1 : Int)) = true := by simp; omega
      have hE : endS s = 6 := by unfold endS; rw [if_pos ⟨he, h1⟩]
      rw [hE]
      unfold g58
      simp only [addr_add, Nat.zero_add, c2, k0, c1, c0, k1, obs, asP_pointer, asB_bool, asI_int, asS_string, asSl_slice, asM_map, asTup0, asTup1, asTup2, asTup3, asTup4, asTup5, asTup6, asTup7, asTup8, asTup9, asAgg2, asAgg3, asAgg4, asAgg5, asAgg6, asAgg7, asAgg8, asAgg9, asAgg12, getD0, getD1, getD2, getD3, getD4, getD5, getD6, getD7, getD8, getD9, getD10, getD11, getD12, getD13, getD14, getD15, getD16, getD17, getD18, getD19, Bool.not_true, Bool.not_false, Bool.false_eq_true, Bool.true_eq_false, ↓reduceIte, decide_true, decide_false, Option.isNone_some, Option.isNone_none, Option.isSome_some, Option.isSome_none, beq_self_eq_true, bne_self_eq_false, Bool.and_true, Bool.true_and, Bool.and_false, Bool.false_and, not_true_eq_false, not_false_eq_true]
    · have k1 : decide ((s.at_ : Int) < (q.2.1 : Int)) = false := by simp; omega
      have hE : endS s = s.e := by unfold endS; rw [if_neg (fun hh => h1 hh.2)]
      rw [hE]
      unfold g58
      simp only [addr_add, Nat.zero_add, c2, k0, c1, c0, k1, obs, asP_pointer, asB_bool, asI_int, asS_string, asSl_slice, asM_map, asTup0, asTup1, asTup2, asTup3, asTup4, asTup5, asTup6, asTup7, asTup8, asTup9, asAgg2, asAgg3, asAgg4, asAgg5, asAgg6, asAgg7, asAgg8, asAgg9, asAgg12, getD0, getD1, getD2, getD3, getD4, getD5, getD6, getD7, getD8, getD9, getD10, getD11, getD12, getD13, getD14, getD15, getD16, getD17, getD18, getD19, Bool.not_true, Bool.not_false, Bool.false_eq_true, Bool.true_eq_false, ↓reduceIte, decide_true, decide_false, Option.isNone_some, Option.isNone_none, Option.isSome_some, Option.isSome_none, beq_self_eq_true, bne_self_eq_false, Bool.and_true, Bool.true_and, Bool.and_false, Bool.false_and, not_true_eq_false, not_false_eq_true]
  · have k0 : (s.e == 0) = false := by simp [he]
    have hE : endS s = s.e := by unfold endS; rw [if_neg (fun hh => he hh.1)]
    rw [hE]
    unfold g58
    simp only [addr_add, Nat.zero_add, c2, k0, obs, asP_pointer, asB_bool, asI_int, asS_string, asSl_slice, asM_map, asTup0, asTup1, asTup2, asTup3, asTup4, asTup5, asTup6, asTup7, asTup8, asTup9, asAgg2, asAgg3, asAgg4, asAgg5, asAgg6, asAgg7, asAgg8, asAgg9, asAgg12, getD0, getD1, getD2, getD3, getD4, getD5, getD6, getD7, getD8, getD9, getD10, getD11, getD12, getD13, getD14, getD15, getD16, getD17, getD18, getD19, Bool.not_true, Bool.not_false, Bool.false_eq_true, Bool.true_eq_false, ↓reduceIte, decide_true, decide_false, Option.isNone_some, Option.isNone_none, Option.isSome_some, Option.isSome_none, beq_self_eq_true, bne_self_eq_false, Bool.and_true, Bool.true_and, Bool.and_false, Bool.false_and, not_true_eq_false, not_false_eq_true]
theorem end49 (h : Rdr 101 w p q s) : callF Try.prog 54 #[.pointer (some ⟨p, 0, none⟩)] w = some (.int .i64 (endS s), w.drew) := by
  have hd := h.drew
  have c0 : w.drew.cell? ⟨p, 0, none⟩ = some (.slice q.1 q.2.1 q.2.2) := hd.blk.cell 0
  have c1 : w.drew.cell? ⟨p, 1, none⟩ = some (.int .i64 (s.at_ : Int)) := hd.blk.cell 1
  have c2 : w.drew.cell? ⟨p, 2, none⟩ = some (.int .i64 s.e) := hd.blk.cell 2
  have hl := h.txt.1
  refine g54_call ?_
  by_cases he : s.e = 0
  · have k0 : (s.e == 0) = true := by simp [he]
    by_cases h1 : s.at_ < s.bs.length
    · have k1 : decide ((s.at_ : Int) < (q.2.1 : Int)) = true := by simp; omega
      have hE : endS s = 6 := by unfold endS; rw [if_pos ⟨he, h1⟩]
      rw [hE]
      unfold g54
      simp only [addr_add, Nat.zero_add, c2, k0, c1, c0, k1, obs, asP_pointer, asB_bool, asI_int, asS_string, asSl_slice, asM_map, asTup0, asTup1, asTup2, asTup3, asTup4, asTup5, asTup6, asTup7, asTup8, asTup9, asAgg2, asAgg3, asAgg4, asAgg5, asAgg6, asAgg7, asAgg8, asAgg9, asAgg12, getD0, getD1, getD2, getD3, getD4, getD5, getD6, getD7, getD8, getD9, getD10, getD11, getD12, getD13, getD14, getD15, getD16, getD17, getD18, getD19, Bool.not_true, Bool.not_false, Bool.false_eq_true, Bool.true_eq_false, ↓reduceIte, decide_true, decide_false, Option.isNone_some, Option.isNone_none, Option.isSome_some, Option.isSome_none, beq_self_eq_true, bne_self_eq_false, Bool.and_true, Bool.true_and, Bool.and_false, Bool.false_and, not_true_eq_false, not_false_eq_true]
    · have k1 : decide ((s.at_ : Int) < (q.2.1 : Int)) = false := by simp; omega
      have hE : endS s = s.e := by unfold endS; rw [if_neg (fun hh => h1 hh.2)]
      rw [hE]
      unfold g54
      simp only [addr_add, Nat.zero_add, c2, k0, c1, c0, k1, obs, asP_pointer, asB_bool, asI_int, asS_string, asSl_slice, asM_map, asTup0, asTup1, asTup2, asTup3, asTup4, asTup5, asTup6, asTup7, asTup8, asTup9, asAgg2, asAgg3, asAgg4, asAgg5, asAgg6, asAgg7, asAgg8, asAgg9, asAgg12, getD0, getD1, getD2, getD3, getD4, getD5, getD6, getD7, getD8, getD9, getD10, getD11, getD12, getD13, getD14, getD15, getD16, getD17, getD18, getD19, Bool.not_true, Bool.not_false, Bool.false_eq_true, Bool.true_eq_false, ↓reduceIte, decide_true, decide_false, Option.isNone_some, Option.isNone_none, Option.isSome_some, Option.isSome_none, beq_self_eq_true, bne_self_eq_false, Bool.and_true, Bool.true_and, Bool.and_false, Bool.false_and, not_true_eq_false, not_false_eq_true]
  · have k0 : (s.e == 0) = false := by simp [he]
    have hE : endS s = s.e := by unfold endS; rw [if_neg (fun hh => he hh.1)]
    rw [hE]
    unfold g54
    simp only [addr_add, Nat.zero_add, c2, k0, obs, asP_pointer, asB_bool, asI_int, asS_string, asSl_slice, asM_map, asTup0, asTup1, asTup2, asTup3, asTup4, asTup5, asTup6, asTup7, asTup8, asTup9, asAgg2, asAgg3, asAgg4, asAgg5, asAgg6, asAgg7, asAgg8, asAgg9, asAgg12, getD0, getD1, getD2, getD3, getD4, getD5, getD6, getD7, getD8, getD9, getD10, getD11, getD12, getD13, getD14, getD15, getD16, getD17, getD18, getD19, Bool.not_true, Bool.not_false, Bool.false_eq_true, Bool.true_eq_false, ↓reduceIte, decide_true, decide_false, Option.isNone_some, Option.isNone_none, Option.isSome_some, Option.isSome_none, beq_self_eq_true, bne_self_eq_false, Bool.and_true, Bool.true_and, Bool.and_false, Bool.false_and, not_true_eq_false, not_false_eq_true]
end
end Go.Proofs.Ytjcenfgmpbeldaa
