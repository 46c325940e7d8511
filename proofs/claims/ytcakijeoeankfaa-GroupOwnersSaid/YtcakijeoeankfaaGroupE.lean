/-
  GroupE: lemmas on what Go functions of this seat come to (for whatever arguments, as each says). No condition but those that stand in each lemma.
-/
import Derived.Test.YtcakijeoeankfaaGroupD
namespace Go.Proofs.Ytcakijeoeankfaa
open Go Go.Ev
set_option maxRecDepth 100000
set_option linter.unusedVariables false
set_option linter.unusedSimpArgs false

theorem tmod_nat (k n : Nat) (hn : 0 < n) : Int.tmod (k : Int) (n : Int) = ((k % n : Nat) : Int) := by
  rw [Int.tmod_eq_emod_of_nonneg (by omega)]
  simp

/-- Owner, and the document's, of members that are read -/
theorem owner10 {w : World} {q : Option Addr × Nat × Nat} {l : List Int} (h : SlC w 1 q (intsV' l)) (k : Nat) :
    callF Try.prog 10 #[.slice q.1 q.2.1 q.2.2, .int .i64 (k : Int)] w = some (.int .i64 (if l.length = 0 then -1 else l.getD (k % l.length) 0), w) := by
  have hl := h.1
  simp only [intsV', List.length_map] at hl
  refine g10_call ?_
  unfold g10
  by_cases h0 : l.length = 0
  · have k1 : ((q.2.1 : Int) == 0) = true := by rw [show q.2.1 = 0 by omega]; rfl
    rw [if_pos h0]
    simp only [k1, obs, asP_pointer, asB_bool, asI_int, asS_string, asSl_slice, asM_map, asTup0, asTup1, asTup2, asTup3, asTup4, asTup5, asTup6, asTup7, asTup8, asTup9, asAgg2, asAgg3, asAgg4, asAgg5, asAgg6, asAgg7, asAgg8, asAgg9, asAgg12, getD0, getD1, getD2, getD3, getD4, getD5, getD6, getD7, getD8, getD9, getD10, getD11, getD12, getD13, getD14, getD15, getD16, getD17, getD18, getD19, Bool.not_true, Bool.not_false, Bool.false_eq_true, Bool.true_eq_false, ↓reduceIte, decide_true, decide_false, Option.isNone_some, Option.isNone_none, Option.isSome_some, Option.isSome_none, beq_self_eq_true, bne_self_eq_false, Bool.and_true, Bool.true_and, Bool.and_false, Bool.false_and, not_true_eq_false, not_false_eq_true]
  · have k1 : ((q.2.1 : Int) == 0) = false := by simp; omega
    have k2 : decide ((k : Int) < 0) = false := by simp
    have k3 : ¬ ((q.2.1 : Int) = 0) := by omega
    have hm : k % l.length < l.length := Nat.mod_lt _ (by omega)
    obtain ⟨a, i1, c1⟩ := h.get (i := k % l.length) (by simpa using hm)
    have c1' : w.cell? a = some (.int .i64 (l.getD (k % l.length) 0)) := by rw [c1]; simp [hm]
    have i1' : idxA q.1 q.2.1 1 (Int.tmod (k : Int) (q.2.1 : Int)) = some a := by
      have : q.2.1 = l.length := by omega
      rw [this, tmod_nat _ _ (by omega), ← this]; rw [this] at i1 ⊢; exact i1
    rw [if_neg h0, if_neg (by simp [k1]), if_neg (by simp [k2]), if_neg k3, i1', obs, c1']
    rfl
theorem owner10n (w : World) (q : Option Addr × Nat × Nat) {k : Int} (hk : k < 0) : callF Try.prog 10 #[.slice q.1 q.2.1 q.2.2, .int .i64 k] w = some (.int .i64 (-1), w) := by
  refine g10_call ?_
  unfold g10
  have k2 : decide (k < 0) = true := by simp [hk]
  by_cases h : ((q.2.1 : Int) == 0) = true
  · rw [if_pos h]
  · rw [if_neg h, if_pos k2]

theorem owner11 {w : World} {q : Option Addr × Nat × Nat} {l : List Int} (h : SlC w 1 q (intsV' l)) (k : Nat) :
    callF Try.prog 11 #[.slice q.1 q.2.1 q.2.2, .int .i64 (k : Int)] w = some (.int .i64 (if l.length = 0 then -1 else l.getD (k % l.length) 0), w) := by
  have hl := h.1
  simp only [intsV', List.length_map] at hl
  refine g11_call ?_
  have k2 : decide ((k : Int) < 0) = false := by simp
  unfold g11
  rw [if_neg (by simp [k2])]
  by_cases h0 : l.length = 0
  · have k1 : ((q.2.1 : Int) == 0) = true := by rw [show q.2.1 = 0 by omega]; rfl
    rw [if_pos h0, if_pos k1]
  · have k1 : ((q.2.1 : Int) == 0) = false := by simp; omega
    have k3 : ¬ ((q.2.1 : Int) = 0) := by omega
    have hq1 : q.2.1 = l.length := by omega
    have hm : k % l.length < l.length := Nat.mod_lt _ (by omega)
    rw [if_neg h0, if_neg (by simp [k1])]
    obtain ⟨t, w', g1, rfl, rfl⟩ : ∃ t w', loopS (g11_l2_b q) (k : Int) w = some (.exit 0, t, w') ∧ t = ((k % l.length : Nat) : Int) ∧ w' = w := by
      have fin : ∀ m : Nat, m < l.length → g11_l2_b q (m : Int) w = some (.exit 0, (m : Int), w) := by
        intro m hm
        unfold g11_l2_b
        have : decide ((m : Int) ≥ (q.2.1 : Int)) = false := by simp; omega
        simp only [this, Bool.false_eq_true, if_false]
      by_cases hk : k < l.length
      · obtain ⟨t, w', g1, rfl, rfl⟩ := loopS_countX 0 (b := g11_l2_b q) (I := fun _ s x => s = (k : Int) ∧ x = w) (n := 0) (fun _ _ _ h _ => by omega) (fun s x ⟨hs, hx⟩ => by subst hs hx; exact fin k hk) (k := 0) (s := (k : Int)) (w := w) (Nat.le_refl _) ⟨rfl, rfl⟩
        exact ⟨_, _, g1, by rw [Nat.mod_eq_of_lt hk], rfl⟩
      · obtain ⟨t, w', g1, rfl, rfl⟩ := loopS_countX 0 (b := g11_l2_b q) (I := fun j s x => s = (if j = 0 then (k : Int) else ((k % l.length : Nat) : Int)) ∧ x = w) (n := 1)
          (fun j s x hj ⟨hs, hx⟩ => by
            have : j = 0 := by omega
            subst this
            subst hs hx
            refine ⟨((k % l.length : Nat) : Int), x, ?_, rfl, rfl⟩
            unfold g11_l2_b
            have : decide ((k : Int) ≥ (q.2.1 : Int)) = true := by simp; omega
            simp only [if_true, this]
            rw [if_neg k3, hq1, tmod_nat _ _ (by omega)])
          (fun s x ⟨hs, hx⟩ => by subst hs hx; exact fin _ hm) (k := 0) (s := (k : Int)) (w := w) (by omega) ⟨rfl, rfl⟩
        exact ⟨_, _, g1, rfl, rfl⟩
    obtain ⟨a, i1, c1⟩ := h.get (i := k % l.length) (by simpa using hm)
    have c1' : w'.cell? a = some (.int .i64 (l.getD (k % l.length) 0)) := by rw [c1]; simp [hm]
    rw [g11_l2_x0_of g1]
    unfold g11_l2_x0
    rw [i1, obs, c1']
    rfl
end Go.Proofs.Ytcakijeoeankfaa
