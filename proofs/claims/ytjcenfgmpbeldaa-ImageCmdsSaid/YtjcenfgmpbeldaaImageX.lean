/-
  ImageX: lemmas on what Go functions of this seat come to (for whatever arguments, as each says). No condition but those that stand in each lemma.
-/
import Derived.Test.YtjcenfgmpbeldaaCodR
import Derived.Test.YtjcenfgmpbeldaaImageW
namespace Go.Proofs.Ytjcenfgmpbeldaa
open Go Go.Ev
set_option maxRecDepth 100000
set_option linter.unusedVariables false
set_option linter.unusedSimpArgs false

/-- a reader at p over q -/
structure Rdr (T : TypeId) (w : World) (p : Nat) (q : ShT) (s : RS) : Prop where
  blk : Blk w p [.slice q.1 q.2.1 q.2.2, .int .i64 (s.at_ : Int), .int .i64 s.e] T
  txt : SlI .u8 w q s.bs
  ap : 0 < q.2.1 → p ∉ blkOf q
  ok : s.Ok

section
variable {T : TypeId} {w : World} {p : Nat} {q : ShT} {s : RS}
theorem Rdr.fr {w' : World} {S : List Nat} (h : Rdr T w p q s) (hf : Fr S w w') (h1 : p ∉ S) (h2 : 0 < q.2.1 → ∀ y ∈ blkOf q, y ∉ S) : Rdr T w' p q s :=
  ⟨h.blk.fr hf h1, h.txt.fr3 hf h2, h.ap, h.ok⟩
theorem Rdr.put_at (h : Rdr T w p q s) {n : Nat} (hn : n ≤ s.bs.length) : ∃ w', st1 w ⟨p, 1, none⟩ (.int .i64 (n : Int)) = some w' ∧ Rdr T w' p q { s with at_ := n } ∧ Fr [p] w w' := by
  refine ⟨_, h.blk.st1 (i := 1) (by simp) rfl, ⟨h.blk.set 1 _, h.txt.fr3 Fr.setCell (fun h0 y hy hm => ?_), h.ap, ⟨h.ok.byte, hn, h.ok.len⟩⟩, Fr.setCell⟩
  simp at hm; subst hm; exact h.ap h0 hy
theorem Rdr.put_e (h : Rdr T w p q s) (e : Int) : ∃ w', st1 w ⟨p, 2, none⟩ (.int .i64 e) = some w' ∧ Rdr T w' p q { s with e := e } ∧ Fr [p] w w' := by
  refine ⟨_, h.blk.st1 (i := 2) (by simp) rfl, ⟨h.blk.set 2 _, h.txt.fr3 Fr.setCell (fun h0 y hy hm => ?_), h.ap, ⟨h.ok.byte, h.ok.at_, h.ok.len⟩⟩, Fr.setCell⟩
  simp at hm; subst hm; exact h.ap h0 hy
theorem Rdr.drew (h : Rdr T w p q s) : Rdr T w.drew p q s := h.fr (Fr.drew [] w) (by simp) (by simp)

theorem fail70 (h : Rdr 134 w p q s) (e : Int) : ∃ w', callF Try.prog 82 #[.pointer (some ⟨p, 0, none⟩), .int .i64 e] w = some (.tuple #[], w') ∧ Rdr 134 w' p q (s.fail e) ∧ Fr [p] w w' := by
  have c2 : w.cell? ⟨p, 2, none⟩ = some (.int .i64 s.e) := h.blk.cell 2
  by_cases h0 : s.e = 0
  · obtain ⟨w', s1, h1, f1⟩ := h.put_e e
    have k0 : (s.e == 0) = true := by simp [h0]
    refine ⟨w', g82_call ?_, by unfold RS.fail; rw [if_pos h0]; exact h1, f1⟩
    unfold g82
    simp only [addr_add, Nat.zero_add, c2, k0, s1, obs, asP_pointer, asB_bool, asI_int, asS_string, asSl_slice, asM_map, asTup0, asTup1, asTup2, asTup3, asTup4, asTup5, asTup6, asTup7, asTup8, asTup9, asAgg2, asAgg3, asAgg4, asAgg5, asAgg6, asAgg7, asAgg8, asAgg9, asAgg12, getD0, getD1, getD2, getD3, getD4, getD5, getD6, getD7, getD8, getD9, getD10, getD11, getD12, getD13, getD14, getD15, getD16, getD17, getD18, getD19, Bool.not_true, Bool.not_false, Bool.false_eq_true, Bool.true_eq_false, ↓reduceIte, decide_true, decide_false, Option.isNone_some, Option.isNone_none, Option.isSome_some, Option.isSome_none, beq_self_eq_true, bne_self_eq_false, Bool.and_true, Bool.true_and, Bool.and_false, Bool.false_and, not_true_eq_false, not_false_eq_true]
  · have k0 : (s.e == 0) = false := by simp [h0]
    refine ⟨w, g82_call ?_, by unfold RS.fail; rw [if_neg h0]; exact h, Fr.refl _ _⟩
    unfold g82
    simp only [addr_add, Nat.zero_add, c2, k0, obs, asP_pointer, asB_bool, asI_int, asS_string, asSl_slice, asM_map, asTup0, asTup1, asTup2, asTup3, asTup4, asTup5, asTup6, asTup7, asTup8, asTup9, asAgg2, asAgg3, asAgg4, asAgg5, asAgg6, asAgg7, asAgg8, asAgg9, asAgg12, getD0, getD1, getD2, getD3, getD4, getD5, getD6, getD7, getD8, getD9, getD10, getD11, getD12, getD13, getD14, getD15, getD16, getD17, getD18, getD19, Bool.not_true, Bool.not_false, Bool.false_eq_true, Bool.true_eq_false, ↓reduceIte, decide_true, decide_false, Option.isNone_some, Option.isNone_none, Option.isSome_some, Option.isSome_none, beq_self_eq_true, bne_self_eq_false, Bool.and_true, Bool.true_and, Bool.and_false, Bool.false_and, not_true_eq_false, not_false_eq_true]
theorem fail69 (h : Rdr 101 w p q s) (e : Int) : ∃ w', callF Try.prog 81 #[.pointer (some ⟨p, 0, none⟩), .int .i64 e] w = some (.tuple #[], w') ∧ Rdr 101 w' p q (s.fail e) ∧ Fr [p] w w' := by
  have c2 : w.cell? ⟨p, 2, none⟩ = some (.int .i64 s.e) := h.blk.cell 2
  by_cases h0 : s.e = 0
  · obtain ⟨w', s1, h1, f1⟩ := h.put_e e
    have k0 : (s.e == 0) = true := by simp [h0]
    refine ⟨w', g81_call ?_, by unfold RS.fail; rw [if_pos h0]; exact h1, f1⟩
    unfold g81
    simp only [addr_add, Nat.zero_add, c2, k0, s1, obs, asP_pointer, asB_bool, asI_int, asS_string, asSl_slice, asM_map, asTup0, asTup1, asTup2, asTup3, asTup4, asTup5, asTup6, asTup7, asTup8, asTup9, asAgg2, asAgg3, asAgg4, asAgg5, asAgg6, asAgg7, asAgg8, asAgg9, asAgg12, getD0, getD1, getD2, getD3, getD4, getD5, getD6, getD7, getD8, getD9, getD10, getD11, getD12, getD13, getD14, getD15, getD16, getD17, getD18, getD19, Bool.not_true, Bool.not_false, Bool.false_eq_true, Bool.true_eq_false, ↓reduceIte, decide_true, decide_false, Option.isNone_some, Option.isNone_none, Option.isSome_some, Option.isSome_none, beq_self_eq_true, bne_self_eq_false, Bool.and_true, Bool.true_and, Bool.and_false, Bool.false_and, not_true_eq_false, not_false_eq_true]
  · have k0 : (s.e == 0) = false := by simp [h0]
    refine ⟨w, g81_call ?_, by unfold RS.fail; rw [if_neg h0]; exact h, Fr.refl _ _⟩
    unfold g81
    simp only [addr_add, Nat.zero_add, c2, k0, obs, asP_pointer, asB_bool, asI_int, asS_string, asSl_slice, asM_map, asTup0, asTup1, asTup2, asTup3, asTup4, asTup5, asTup6, asTup7, asTup8, asTup9, asAgg2, asAgg3, asAgg4, asAgg5, asAgg6, asAgg7, asAgg8, asAgg9, asAgg12, getD0, getD1, getD2, getD3, getD4, getD5, getD6, getD7, getD8, getD9, getD10, getD11, getD12, getD13, getD14, getD15, getD16, getD17, getD18, getD19, Bool.not_true, Bool.not_false, Bool.false_eq_true, Bool.true_eq_false, ↓reduceIte, decide_true, decide_false, Option.isNone_some, Option.isNone_none, Option.isSome_some, Option.isSome_none, beq_self_eq_true, bne_self_eq_false, Bool.and_true, Bool.true_and, Bool.and_false, Bool.false_and, not_true_eq_false, not_false_eq_true]

theorem fr1 {w w1 w2 : World} (f : Fr [p] w w1) (g : Fr [p] w1 w2) : Fr [p] w w2 := (f.app g).mono (by intro y hy _; simpa using hy)

/-- how a number is read so far -/
def RdI (T : TypeId) (W : World) (p : Nat) (q : ShT) (s : RS) (at' : Nat) (k acc : Nat) (w : World) : Prop :=
  k ≤ 9 ∧ acc < 2 ^ (7 * k) ∧ s.at_ + k ≤ s.bs.length ∧ Rdr T w p q { s with at_ := at' } ∧ Fr [p] W w ∧ rdU (s.bs.drop s.at_) 0 = comb acc k (rdU (s.bs.drop (s.at_ + k)) k)

theorem uint58_round {W : World} {k acc : Nat} (he : s.e = 0) (h : RdI 134 W p q s (s.at_ + k) k acc w) :
    ∃ e st w', g62_l7_b (some ⟨p, 0, none⟩) (s.at_ : Int) (0, (acc : Int), ((7 * k : Nat) : Int)) w = some (e, st, w') ∧
      (e = .normal ∧ (∃ acc' : Nat, st = (0, (acc' : Int), ((7 * (k + 1) : Nat) : Int)) ∧ RdI 134 W p q s (s.at_ + (k + 1)) (k + 1) acc' w') ∨
       e ≠ .normal ∧ e = .ret ∧ st.1 = ((uintS s).1 : Int) ∧ Rdr 134 w' p q (uintS s).2 ∧ Fr [p] W w') := by
  obtain ⟨hk, ha, hat, hR, hF, hr⟩ := h
  have hlen := hR.txt.1
  simp only at hlen
  have hok := hR.ok
  have fd := Fr.drew [p] w
  have h1 := hR.drew
  have h2 := h1.drew
  have c1 : w.drew.cell? ⟨p, 1, none⟩ = some (.int .i64 ((s.at_ + k : Nat) : Int)) := h1.blk.cell 1
  have c0 : w.drew.cell? ⟨p, 0, none⟩ = some (.slice q.1 q.2.1 q.2.2) := h1.blk.cell 0
  by_cases hend : s.at_ + k = s.bs.length
  · have k1 : (((s.at_ + k : Nat) : Int) == (q.2.1 : Int)) = true := by simp; omega
    obtain ⟨w1, s1, R1, f1⟩ := h1.put_at (n := s.at_) (by simp only; omega)
    obtain ⟨w2, e2, R2, f2⟩ := fail70 R1 6
    have hd : s.bs.drop (s.at_ + k) = [] := List.drop_eq_nil_of_le (by omega)
    have hu : uintS s = (0, { s with e := 6 }) := by
      rw [uintS_of he, hr, hd]; rfl
    refine ⟨.ret, (0, (acc : Int), ((7 * k : Nat) : Int)), w2, ?_, .inr ⟨by simp, rfl, by rw [hu]; rfl, ?_, fr1 (fr1 (fr1 hF fd) f1) f2⟩⟩
    · unfold g62_l7_b
      simp only [addr_add, Nat.zero_add, c1, c0, k1, s1, e2, obs, asP_pointer, asB_bool, asI_int, asS_string, asSl_slice, asM_map, asTup0, asTup1, asTup2, asTup3, asTup4, asTup5, asTup6, asTup7, asTup8, asTup9, asAgg2, asAgg3, asAgg4, asAgg5, asAgg6, asAgg7, asAgg8, asAgg9, asAgg12, getD0, getD1, getD2, getD3, getD4, getD5, getD6, getD7, getD8, getD9, getD10, getD11, getD12, getD13, getD14, getD15, getD16, getD17, getD18, getD19, Bool.not_true, Bool.not_false, Bool.false_eq_true, Bool.true_eq_false, ↓reduceIte, decide_true, decide_false, Option.isNone_some, Option.isNone_none, Option.isSome_some, Option.isSome_none, beq_self_eq_true, bne_self_eq_false, Bool.and_true, Bool.true_and, Bool.and_false, Bool.false_and, not_true_eq_false, not_false_eq_true]
    · rw [hu]
      have : ({ s with at_ := s.at_ } : RS).fail 6 = { s with e := 6 } := by unfold RS.fail; rw [if_pos he]
      rw [← this]; exact R2
  · have k1 : (((s.at_ + k : Nat) : Int) == (q.2.1 : Int)) = false := by simp; omega
    have hlt : s.at_ + k < s.bs.length := by omega
    obtain ⟨a, i1, cb⟩ := h2.txt.get hlt
    obtain ⟨b, hb⟩ : ∃ b, s.bs[s.at_ + k] = b := ⟨_, rfl⟩
    have hb255 : 0 ≤ b ∧ b ≤ 255 := hb ▸ hok.byte _ (List.getElem_mem hlt)
    have cb' : w.drew.drew.cell? a = some (.int .u8 b) := by rw [cb]; simp only [hb]
    have d1 : w.drew.drew.cell? ⟨p, 1, none⟩ = some (.int .i64 ((s.at_ + k : Nat) : Int)) := h2.blk.cell 1
    have d0 : w.drew.drew.cell? ⟨p, 0, none⟩ = some (.slice q.1 q.2.1 q.2.2) := h2.blk.cell 0
    have hd : s.bs.drop (s.at_ + k) = b :: s.bs.drop (s.at_ + (k + 1)) := by rw [List.drop_eq_getElem_cons hlt, hb]; rfl
    obtain ⟨w3, s3, R3, f3⟩ := h2.put_at (n := s.at_ + (k + 1)) (by simp only; omega)
    have hol := hok.len
    have kw : IntKind.i64.wrap (((s.at_ + k : Nat) : Int) + 1) = ((s.at_ + (k + 1) : Nat) : Int) := by
      simp only at hol
      rw [wrap_i64 (by omega) (by omega)]; omega
    have F3 : Fr [p] W w3 := fr1 (fr1 hF (fr1 fd (Fr.drew [p] w.drew))) f3
    have hm : b.toNat % 128 < 128 := Nat.mod_lt _ (by decide)
    have n63 : (((7 * k : Nat) : Int) == 63) = decide (k = 9) := by
      by_cases h9 : k = 9
      · subst h9; rfl
      · simp only [h9, decide_false]; simp; omega
    have nsg : ¬ (((7 * k : Nat) : Int) < 0) := by omega
    by_cases hc : (k = 9 ∧ 1 < b) ∨ (0 < k ∧ b = 0)
    · obtain ⟨w4, s4, R4, f4⟩ := R3.put_at (n := s.at_) (by simp only; omega)
      obtain ⟨w5, e5, R5, f5⟩ := fail70 R4 7
      have hu : uintS s = (0, { s with e := 7 }) := by
        rw [uintS_of he, hr, hd]; simp only [rdU, if_pos hc, comb]
      refine ⟨.ret, (0, (acc : Int), ((7 * k : Nat) : Int)), w5, ?_, .inr ⟨by simp, rfl, by rw [hu]; rfl, ?_, fr1 (fr1 F3 f4) f5⟩⟩
      · unfold g62_l7_b
        by_cases h9 : k = 9
        · subst h9
          by_cases hb1 : 1 < b
          · have q1 : decide (b > 1) = true := by simp; omega
            simp only [addr_add, Nat.zero_add, c1, c0, k1, d0, d1, i1, cb', kw, s3, n63, decide_true, q1, s4, e5, obs, asP_pointer, asB_bool, asI_int, asS_string, asSl_slice, asM_map, asTup0, asTup1, asTup2, asTup3, asTup4, asTup5, asTup6, asTup7, asTup8, asTup9, asAgg2, asAgg3, asAgg4, asAgg5, asAgg6, asAgg7, asAgg8, asAgg9, asAgg12, getD0, getD1, getD2, getD3, getD4, getD5, getD6, getD7, getD8, getD9, getD10, getD11, getD12, getD13, getD14, getD15, getD16, getD17, getD18, getD19, Bool.not_true, Bool.not_false, Bool.false_eq_true, Bool.true_eq_false, ↓reduceIte, decide_true, decide_false, Option.isNone_some, Option.isNone_none, Option.isSome_some, Option.isSome_none, beq_self_eq_true, bne_self_eq_false, Bool.and_true, Bool.true_and, Bool.and_false, Bool.false_and, not_true_eq_false, not_false_eq_true]
          · have hb0 : b = 0 := by omega
            have q1 : decide (b > 1) = false := by simp; omega
            have q2 : (b == 0) = true := by simp [hb0]
            have q3 : decide (((7 * 9 : Nat) : Int) > 0) = true := by decide
            simp only [addr_add, Nat.zero_add, c1, c0, k1, d0, d1, i1, cb', kw, s3, n63, decide_true, q1, q2, q3, s4, e5, obs, asP_pointer, asB_bool, asI_int, asS_string, asSl_slice, asM_map, asTup0, asTup1, asTup2, asTup3, asTup4, asTup5, asTup6, asTup7, asTup8, asTup9, asAgg2, asAgg3, asAgg4, asAgg5, asAgg6, asAgg7, asAgg8, asAgg9, asAgg12, getD0, getD1, getD2, getD3, getD4, getD5, getD6, getD7, getD8, getD9, getD10, getD11, getD12, getD13, getD14, getD15, getD16, getD17, getD18, getD19, Bool.not_true, Bool.not_false, Bool.false_eq_true, Bool.true_eq_false, ↓reduceIte, decide_true, decide_false, Option.isNone_some, Option.isNone_none, Option.isSome_some, Option.isSome_none, beq_self_eq_true, bne_self_eq_false, Bool.and_true, Bool.true_and, Bool.and_false, Bool.false_and, not_true_eq_false, not_false_eq_true]
        · have hb0 : 0 < k ∧ b = 0 := by rcases hc with hc | hc; exact absurd hc.1 h9; exact hc
          have q2 : (b == 0) = true := by simp [hb0.2]
          have q3 : decide (((7 * k : Nat) : Int) > 0) = true := by simp; omega
          simp only [addr_add, Nat.zero_add, c1, c0, k1, d0, d1, i1, cb', kw, s3, n63, h9, decide_false, q2, q3, s4, e5, obs, asP_pointer, asB_bool, asI_int, asS_string, asSl_slice, asM_map, asTup0, asTup1, asTup2, asTup3, asTup4, asTup5, asTup6, asTup7, asTup8, asTup9, asAgg2, asAgg3, asAgg4, asAgg5, asAgg6, asAgg7, asAgg8, asAgg9, asAgg12, getD0, getD1, getD2, getD3, getD4, getD5, getD6, getD7, getD8, getD9, getD10, getD11, getD12, getD13, getD14, getD15, getD16, getD17, getD18, getD19, Bool.not_true, Bool.not_false, Bool.false_eq_true, Bool.true_eq_false, ↓reduceIte, decide_true, decide_false, Option.isNone_some, Option.isNone_none, Option.isSome_some, Option.isSome_none, beq_self_eq_true, bne_self_eq_false, Bool.and_true, Bool.true_and, Bool.and_false, Bool.false_and, not_true_eq_false, not_false_eq_true]
      · rw [hu]
        have : ({ s with at_ := s.at_ } : RS).fail 7 = { s with e := 7 } := by unfold RS.fail; rw [if_pos he]
        rw [← this]; exact R5
    · have hb9 : k = 9 → b.toNat % 128 ≤ 1 := fun h9 => by
        have : ¬ 1 < b := fun hh => hc (.inl ⟨h9, hh⟩)
        omega
      obtain ⟨v1, v2⟩ := shl_bound ha hk hm hb9
      have hv := or_val hb255 ha hk v1
      have q0 : (k = 9 → decide (b > 1) = false) := fun h9 => by
        have : ¬ 1 < b := fun hh => hc (.inl ⟨h9, hh⟩)
        simp; omega
      by_cases h128 : b < 128
      · have q5 : decide (b < 128) = true := by simp [h128]
        have hu : uintS s = (acc + 2 ^ (7 * k) * (b.toNat % 128), { s with at_ := s.at_ + (k + 1) }) := by
          rw [uintS_of he, hr, hd]
          simp only [rdU, if_neg hc, if_pos h128, comb]
          rw [Nat.mod_eq_of_lt (by omega), Nat.add_comm 1 k]
        refine ⟨.ret, (((acc + 2 ^ (7 * k) * (b.toNat % 128) : Nat) : Int), ((acc + 2 ^ (7 * k) * (b.toNat % 128) : Nat) : Int), ((7 * k : Nat) : Int)), w3, ?_, .inr ⟨by simp, rfl, by rw [hu], by rw [hu]; exact R3, F3⟩⟩
        unfold g62_l7_b
        by_cases h9 : k = 9
        · have q0' := q0 h9
          have q2 : (b == 0) = false := by
            have : ¬ b = 0 := fun hh => hc (.inr ⟨by omega, hh⟩)
            simp [this]
          subst h9
          simp only [addr_add, Nat.zero_add, c1, c0, k1, d0, d1, i1, cb', kw, s3, n63, decide_true, q0', q2, nsg, q5, hv, obs, asP_pointer, asB_bool, asI_int, asS_string, asSl_slice, asM_map, asTup0, asTup1, asTup2, asTup3, asTup4, asTup5, asTup6, asTup7, asTup8, asTup9, asAgg2, asAgg3, asAgg4, asAgg5, asAgg6, asAgg7, asAgg8, asAgg9, asAgg12, getD0, getD1, getD2, getD3, getD4, getD5, getD6, getD7, getD8, getD9, getD10, getD11, getD12, getD13, getD14, getD15, getD16, getD17, getD18, getD19, Bool.not_true, Bool.not_false, Bool.false_eq_true, Bool.true_eq_false, ↓reduceIte, decide_true, decide_false, Option.isNone_some, Option.isNone_none, Option.isSome_some, Option.isSome_none, beq_self_eq_true, bne_self_eq_false, Bool.and_true, Bool.true_and, Bool.and_false, Bool.false_and, not_true_eq_false, not_false_eq_true]
        · by_cases hb0 : b = 0
          · have hk0 : k = 0 := by
              have : ¬ 0 < k := fun hh => hc (.inr ⟨hh, hb0⟩)
              omega
            have q2 : (b == 0) = true := by simp [hb0]
            have q3 : decide (((7 * k : Nat) : Int) > 0) = false := by simp; omega
            simp only [addr_add, Nat.zero_add, c1, c0, k1, d0, d1, i1, cb', kw, s3, n63, h9, decide_false, q2, q3, nsg, q5, hv, obs, asP_pointer, asB_bool, asI_int, asS_string, asSl_slice, asM_map, asTup0, asTup1, asTup2, asTup3, asTup4, asTup5, asTup6, asTup7, asTup8, asTup9, asAgg2, asAgg3, asAgg4, asAgg5, asAgg6, asAgg7, asAgg8, asAgg9, asAgg12, getD0, getD1, getD2, getD3, getD4, getD5, getD6, getD7, getD8, getD9, getD10, getD11, getD12, getD13, getD14, getD15, getD16, getD17, getD18, getD19, Bool.not_true, Bool.not_false, Bool.false_eq_true, Bool.true_eq_false, ↓reduceIte, decide_true, decide_false, Option.isNone_some, Option.isNone_none, Option.isSome_some, Option.isSome_none, beq_self_eq_true, bne_self_eq_false, Bool.and_true, Bool.true_and, Bool.and_false, Bool.false_and, not_true_eq_false, not_false_eq_true]
          · have q2 : (b == 0) = false := by simp [hb0]
            simp only [addr_add, Nat.zero_add, c1, c0, k1, d0, d1, i1, cb', kw, s3, n63, h9, decide_false, q2, nsg, q5, hv, obs, asP_pointer, asB_bool, asI_int, asS_string, asSl_slice, asM_map, asTup0, asTup1, asTup2, asTup3, asTup4, asTup5, asTup6, asTup7, asTup8, asTup9, asAgg2, asAgg3, asAgg4, asAgg5, asAgg6, asAgg7, asAgg8, asAgg9, asAgg12, getD0, getD1, getD2, getD3, getD4, getD5, getD6, getD7, getD8, getD9, getD10, getD11, getD12, getD13, getD14, getD15, getD16, getD17, getD18, getD19, Bool.not_true, Bool.not_false, Bool.false_eq_true, Bool.true_eq_false, ↓reduceIte, decide_true, decide_false, Option.isNone_some, Option.isNone_none, Option.isSome_some, Option.isSome_none, beq_self_eq_true, bne_self_eq_false, Bool.and_true, Bool.true_and, Bool.and_false, Bool.false_and, not_true_eq_false, not_false_eq_true]
      · have h9 : k ≠ 9 := fun h9 => hc (.inl ⟨h9, by omega⟩)
        have q5 : decide (b < 128) = false := by simp; omega
        have q2 : (b == 0) = false := by simp; omega
        have kw7 : IntKind.i64.wrap (((7 * k : Nat) : Int) + 7) = ((7 * (k + 1) : Nat) : Int) := by
          rw [wrap_i64 (by omega) (by omega)]; omega
        refine ⟨.normal, (0, ((acc + 2 ^ (7 * k) * (b.toNat % 128) : Nat) : Int), ((7 * (k + 1) : Nat) : Int)), w3, ?_, .inl ⟨rfl, _, rfl, by omega, v2 (by omega), by omega, R3, F3, ?_⟩⟩
        · unfold g62_l7_b
          simp only [addr_add, Nat.zero_add, c1, c0, k1, d0, d1, i1, cb', kw, s3, n63, h9, decide_false, q2, nsg, q5, hv, kw7, obs, asP_pointer, asB_bool, asI_int, asS_string, asSl_slice, asM_map, asTup0, asTup1, asTup2, asTup3, asTup4, asTup5, asTup6, asTup7, asTup8, asTup9, asAgg2, asAgg3, asAgg4, asAgg5, asAgg6, asAgg7, asAgg8, asAgg9, asAgg12, getD0, getD1, getD2, getD3, getD4, getD5, getD6, getD7, getD8, getD9, getD10, getD11, getD12, getD13, getD14, getD15, getD16, getD17, getD18, getD19, Bool.not_true, Bool.not_false, Bool.false_eq_true, Bool.true_eq_false, ↓reduceIte, decide_true, decide_false, Option.isNone_some, Option.isNone_none, Option.isSome_some, Option.isSome_none, beq_self_eq_true, bne_self_eq_false, Bool.and_true, Bool.true_and, Bool.and_false, Bool.false_and, not_true_eq_false, not_false_eq_true]
        · rw [hr, hd, comb_step hb255 hc h128]
end
end Go.Proofs.Ytjcenfgmpbeldaa
