/-
  ImageD: lemmas on what Go functions of this seat come to (for whatever arguments, as each says). No condition but those that stand in each lemma.
-/
import Derived.Test.YtjcenfgmpbeldaaImageC
namespace Go.Proofs.Ytjcenfgmpbeldaa
open Go Go.Ev
set_option maxRecDepth 100000
set_option linter.unusedVariables false
set_option linter.unusedSimpArgs false

theorem index62 {w : World} {q : Option Addr × Nat × Nat} {l : List Int} (h : SlC w 1 q (l.map (Value.int .i64))) (hn : l.length < 9223372036854775807) (v : Int) :
    ∃ n : Int, callF Try.prog 95 #[.slice q.1 q.2.1 q.2.2, .int .i64 v] w = some (.int .i64 n, w) ∧ (0 ≤ n ↔ v ∈ l) := by
  have hl := h.1
  simp only [List.length_map] at hl
  obtain ⟨e, t, w', g1, hQ⟩ := loopS_rule (b := g95_l2_b q v) (I := fun k s x => s = ((0 : Int), (k : Int)) ∧ x = w ∧ v ∉ l.take k)
    (Q := fun e s x => x = w ∧ (e = .ret ∧ 0 ≤ s.1 ∧ v ∈ l ∨ e = .exit 0 ∧ v ∉ l)) (n := l.length)
    (fun k s x hk ⟨hs, hx, hv⟩ => by
      subst hs hx
      obtain ⟨a, i1, c1⟩ := h.get (i := k) (by simpa using hk)
      have k1 : decide ((k : Int) < (q.2.1 : Int)) = true := by simp; omega
      have c1' : x.cell? a = some (.int .i64 l[k]) := by rw [c1]; simp
      have hw := wrap_succ (n := k) (by omega)
      by_cases he : v = l[k]
      · have k2 : (v == l[k]) = true := by simp [he]
        refine ⟨.ret, ((k : Int), (k : Int)), x, ?_, .inr ⟨by simp, rfl, .inl ⟨rfl, by simp, by rw [he]; exact List.getElem_mem hk⟩⟩⟩
        unfold g95_l2_b
        simp only [k1, i1, c1', k2, obs, asP_pointer, asB_bool, asI_int, asS_string, asSl_slice, asM_map, asTup0, asTup1, asTup2, asTup3, asTup4, asTup5, asTup6, asTup7, asTup8, asTup9, asAgg2, asAgg3, asAgg4, asAgg5, asAgg6, asAgg7, asAgg8, asAgg9, asAgg12, getD0, getD1, getD2, getD3, getD4, getD5, getD6, getD7, getD8, getD9, getD10, getD11, getD12, getD13, getD14, getD15, getD16, getD17, getD18, getD19, Bool.not_true, Bool.not_false, Bool.false_eq_true, Bool.true_eq_false, ↓reduceIte, decide_true, decide_false, Option.isNone_some, Option.isNone_none, Option.isSome_some, Option.isSome_none, beq_self_eq_true, bne_self_eq_false, Bool.and_true, Bool.true_and, Bool.and_false, Bool.false_and, not_true_eq_false, not_false_eq_true]
      · have k2 : (v == l[k]) = false := by simp [he]
        refine ⟨.normal, ((0 : Int), ((k + 1 : Nat) : Int)), x, ?_, .inl ⟨rfl, rfl, rfl, ?_⟩⟩
        · unfold g95_l2_b
          simp only [k1, i1, c1', k2, hw, obs, asP_pointer, asB_bool, asI_int, asS_string, asSl_slice, asM_map, asTup0, asTup1, asTup2, asTup3, asTup4, asTup5, asTup6, asTup7, asTup8, asTup9, asAgg2, asAgg3, asAgg4, asAgg5, asAgg6, asAgg7, asAgg8, asAgg9, asAgg12, getD0, getD1, getD2, getD3, getD4, getD5, getD6, getD7, getD8, getD9, getD10, getD11, getD12, getD13, getD14, getD15, getD16, getD17, getD18, getD19, Bool.not_true, Bool.not_false, Bool.false_eq_true, Bool.true_eq_false, ↓reduceIte, decide_true, decide_false, Option.isNone_some, Option.isNone_none, Option.isSome_some, Option.isSome_none, beq_self_eq_true, bne_self_eq_false, Bool.and_true, Bool.true_and, Bool.and_false, Bool.false_and, not_true_eq_false, not_false_eq_true]
        · rw [List.take_succ_eq_append_getElem hk]
          intro hm
          rcases List.mem_append.mp hm with hm | hm
          · exact hv hm
          · simp only [List.mem_singleton] at hm; exact he hm)
    (fun s x ⟨hs, hx, hv⟩ => by
      subst hs hx
      rw [List.take_length] at hv
      refine ⟨.exit 0, ((0 : Int), (l.length : Int)), x, ?_, by simp, rfl, .inr ⟨rfl, hv⟩⟩
      unfold g95_l2_b
      have k1 : decide ((l.length : Int) < (q.2.1 : Int)) = false := by simp; omega
      simp only [k1, Bool.false_eq_true, if_false]) (k := 0) (s := ((0 : Int), (0 : Int))) (w := w) (Nat.zero_le _) ⟨rfl, rfl, by simp⟩
  obtain ⟨rfl, hQ⟩ := hQ
  rcases hQ with ⟨rfl, h0, hv⟩ | ⟨rfl, hv⟩
  · refine ⟨t.1, g95_call ?_, by simp [h0, hv]⟩
    unfold g95
    rw [g95_l2_ret_of g1, g95_l2_ret]
  · refine ⟨-1, g95_call ?_, by simp [hv]⟩
    unfold g95
    rw [g95_l2_x0_of g1, g95_l2_x0]

theorem contains32 {w : World} {q : Option Addr × Nat × Nat} {l : List Int} (h : SlC w 1 q (l.map (Value.int .i64))) (hn : l.length < 9223372036854775807) (v : Int) :
    callF Try.prog 70 #[.slice q.1 q.2.1 q.2.2, .int .i64 v] w = some (.bool (decide (v ∈ l)), w) := by
  obtain ⟨n, e, hv⟩ := index62 h hn v
  refine g70_call ?_
  unfold g70
  simp only [e, obs, asP_pointer, asB_bool, asI_int, asS_string, asSl_slice, asM_map, asTup0, asTup1, asTup2, asTup3, asTup4, asTup5, asTup6, asTup7, asTup8, asTup9, asAgg2, asAgg3, asAgg4, asAgg5, asAgg6, asAgg7, asAgg8, asAgg9, asAgg12, getD0, getD1, getD2, getD3, getD4, getD5, getD6, getD7, getD8, getD9, getD10, getD11, getD12, getD13, getD14, getD15, getD16, getD17, getD18, getD19, Bool.not_true, Bool.not_false, Bool.false_eq_true, Bool.true_eq_false, ↓reduceIte, decide_true, decide_false, Option.isNone_some, Option.isNone_none, Option.isSome_some, Option.isSome_none, beq_self_eq_true, bne_self_eq_false, Bool.and_true, Bool.true_and, Bool.and_false, Bool.false_and, not_true_eq_false, not_false_eq_true]
  by_cases h0 : v ∈ l
  · have := hv.2 h0
    simp [h0]; omega
  · have : ¬ (0 ≤ n) := fun hh => h0 (hv.1 hh)
    simp [h0]; omega

theorem t28 : TSl Try.prog 28 3 1 8 := tsl_of Try.underlying28 (by kernel_rfl)

theorem clone36 {w : World} {q : Option Addr × Nat × Nat} {l : List Int} (h : SlC w 1 q (l.map (Value.int .i64))) (hq : q.1 = none → q.2.1 = 0) (hn : l.length ≤ 1000000000) :
    ∃ q' w', callF Try.prog 36 #[.slice q.1 q.2.1 q.2.2] w = some (.slice q'.1 q'.2.1 q'.2.2, w') ∧ Own w' 3 1 q' (l.map (Value.int .i64)) ∧ Fr [] w w' ∧ ∀ y ∈ blkOf q', w.heap.size ≤ y := by
  have hl := h.1
  simp only [List.length_map] at hl
  have hml : maxLen = 9223372036854775807 := by decide
  cases hq1 : q.1 with
  | none =>
    have := hq hq1
    have : l = [] := List.eq_nil_of_length_eq_zero (by omega)
    subst this
    refine ⟨(none, 0, 0), w, g36_call (u0 := (none, q.2.1, q.2.2)) ?_, Own.nil _ _ _, Fr.refl _ _, by simp [blkOf]⟩
    unfold g36
    simp only [obs, asP_pointer, asB_bool, asI_int, asS_string, asSl_slice, asM_map, asTup0, asTup1, asTup2, asTup3, asTup4, asTup5, asTup6, asTup7, asTup8, asTup9, asAgg2, asAgg3, asAgg4, asAgg5, asAgg6, asAgg7, asAgg8, asAgg9, asAgg12, getD0, getD1, getD2, getD3, getD4, getD5, getD6, getD7, getD8, getD9, getD10, getD11, getD12, getD13, getD14, getD15, getD16, getD17, getD18, getD19, Bool.not_true, Bool.not_false, Bool.false_eq_true, Bool.true_eq_false, ↓reduceIte, decide_true, decide_false, Option.isNone_some, Option.isNone_none, Option.isSome_some, Option.isSome_none, beq_self_eq_true, bne_self_eq_false, Bool.and_true, Bool.true_and, Bool.and_false, Bool.false_and, not_true_eq_false, not_false_eq_true]
  | some a =>
    obtain ⟨q', w', e, o, f, hb, _⟩ := app_empty t28 h (by intro y hy; obtain ⟨z, _, rfl⟩ := List.mem_map.mp hy; rfl) (by omega) (by omega) 28 #[false, false]
    refine ⟨q', w', g36_call (u0 := (some a, q.2.1, q.2.2)) ?_, o, f, hb⟩
    rw [hq1] at e
    unfold g36
    simp only [e, obs, asP_pointer, asB_bool, asI_int, asS_string, asSl_slice, asM_map, asTup0, asTup1, asTup2, asTup3, asTup4, asTup5, asTup6, asTup7, asTup8, asTup9, asAgg2, asAgg3, asAgg4, asAgg5, asAgg6, asAgg7, asAgg8, asAgg9, asAgg12, getD0, getD1, getD2, getD3, getD4, getD5, getD6, getD7, getD8, getD9, getD10, getD11, getD12, getD13, getD14, getD15, getD16, getD17, getD18, getD19, Bool.not_true, Bool.not_false, Bool.false_eq_true, Bool.true_eq_false, ↓reduceIte, decide_true, decide_false, Option.isNone_some, Option.isNone_none, Option.isSome_some, Option.isSome_none, beq_self_eq_true, bne_self_eq_false, Bool.and_true, Bool.true_and, Bool.and_false, Bool.false_and, not_true_eq_false, not_false_eq_true]
end Go.Proofs.Ytjcenfgmpbeldaa
