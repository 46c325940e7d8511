/-
  Lb10: lemmas on what Go functions of this seat come to (for whatever arguments, as each says). No condition but those that stand in each lemma.
-/
import Derived.Test.YtjcenfgmpbeldaaLb9
namespace Go.Ev
open Go
set_option linter.unusedSimpArgs false
set_option linter.unusedVariables false
variable {P : Program} {w : World}

theorem Own.take {e : TypeId} {q : Option Addr × Nat × Nat} {xs : List Value} (h : Own w e 1 q xs) {i : Nat} (hi : i ≤ q.2.1) : Own w e 1 (q.1, i, q.2.2) (xs.take i) := by
  have hl := h.len
  have hle := h.le
  refine ⟨by simp; omega, by show i ≤ q.2.2; omega, h.max, ?_⟩
  rcases h.at_ with h1 | ⟨g, off, cur, h1, h2, h3, h4⟩
  · exact .inl h1
  · refine .inr ⟨g, off, cur, h1, h2, h3, ?_⟩
    rw [← h4, List.take_take]
    simp only [Nat.mul_one]
    rw [Nat.min_eq_left hi]

/-- what is behind the first i is made zero -/
theorem clear_tail {t e : TypeId} {ty : TypeId} {cs : Array Bool} {z : Value} (ht : P.underlying t = some (.slice e)) (hzz : zc P e = some z) (hzc : z.cells = #[z]) (hz1 : z.oneCell' = true)
    {q : Option Addr × Nat × Nat} {xs : List Value} (h : Own w e 1 q xs) {k : Nat} (hk : k ≤ q.2.1) :
    ∃ w', callB P .clear #[t] ty cs #[.slice (if q.2.2 = k then q.1 else q.1.map (·.add (k * 1))) (q.2.1 - k) (q.2.2 - k)] w = some (.tuple #[], w') ∧ Own w' e 1 (q.1, k, q.2.2) (xs.take k) ∧ Fr (blkOf q) w w' := by
  have hle := h.le
  have ho := h.take hk
  obtain ⟨i, hi, hz⟩ : ∃ i, P.info? e = some i ∧ i.zero = some z := by
    unfold zc at hzz
    cases hi : P.info? e with
    | none => rw [hi] at hzz; cases hzz
    | some i => rw [hi] at hzz; exact ⟨i, rfl, hzz⟩
  rcases h.at_ with ⟨ha, hc⟩ | ⟨g, off, cur, ha, hg, hfit, htk⟩
  · refine ⟨w, ?_, ho, Fr.refl _ _⟩
    have : q.2.2 = k := by omega
    rw [if_pos this, ha]
    simp [callB, Go.builtin, Builtin.clear_, run_underlying ht, nextR]
  · by_cases hkk : q.2.1 = k
    · refine ⟨w, ?_, ho, Fr.refl _ _⟩
      rw [hkk, Nat.sub_self]
      split
      · rw [ha]; simp [callB, Go.builtin, Builtin.clear_, run_underlying ht, nextR]
      · rw [ha]; simp [callB, Go.builtin, Builtin.clear_, run_underlying ht, nextR]
    · have hne : ¬ q.2.2 = k := by omega
      obtain ⟨m, hm⟩ : ∃ m, q.2.1 - k = m + 1 := ⟨q.2.1 - k - 1, by omega⟩
      rw [if_neg hne, ha]
      simp only [Option.map_some, addr_add, Nat.mul_one]
      have hzl : (Builtin.zeroCells #[z] (q.2.1 - k)).toList.length = q.2.1 - k := by
        rw [Array.length_toList, size_zeroCells]; simp
      have hall : ∀ v ∈ (Builtin.zeroCells #[z] (q.2.1 - k)).toList, v.oneCell' = true := by
        intro v hv
        have : (Builtin.zeroCells #[z] (q.2.1 - k)) = (List.replicate (q.2.1 - k) z).toArray := by
          unfold Builtin.zeroCells
          apply Array.ext
          · simp
          · intro j h1 h2
            simp [Nat.mod_one]
        rw [this] at hv
        simp only [List.mem_replicate] at hv
        rw [hv.2]; exact hz1
      have hst := run_storeCells_at P g (off + k) e (Builtin.zeroCells #[z] (q.2.1 - k)).toList 0 cur w hg (by rw [hzl]; omega) hall
      simp only [Nat.add_zero] at hst
      refine ⟨w.setRow g (List.take (off + k) cur.toList ++ (Builtin.zeroCells #[z] (q.2.1 - k)).toList ++ List.drop (off + k + (Builtin.zeroCells #[z] (q.2.1 - k)).toList.length) cur.toList).toArray, ?_, ?_, ?_⟩
      · rw [hm] at hst ⊢
        simp [callB, Go.builtin, Builtin.clear_, run_underlying ht, zeroValue, typeInfo, hi, hz, hzc, nextR, hst]
      · refine ⟨ho.len, ho.le, ho.max, .inr ⟨g, off, _, rfl, setRow_heap w g cur _ e _ hg, ?_, ?_⟩⟩
        · simp only [List.size_toArray, List.length_append, List.length_take, List.length_drop, Array.length_toList, hzl]; show off + q.2.2 * 1 ≤ _; omega
        · simp only [Nat.mul_one]
          rw [← htk, List.take_take, Nat.min_eq_left (by omega)]
          rw [List.append_assoc, List.drop_append_of_le_length (by simp; omega), List.take_append_of_le_length (by simp; omega)]
          rw [List.drop_take]
          rw [List.take_take]
          congr 1
          omega
      · have : blkOf q = [g] := by simp [blkOf, ha]
        rw [this]; exact fr_setRow
end Go.Ev
