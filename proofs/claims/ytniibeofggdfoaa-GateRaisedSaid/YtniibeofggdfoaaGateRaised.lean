/-
  GateRaised: lemmas on what Go functions of this seat come to (for whatever arguments, as each says). No condition but those that stand in each lemma.
-/
import Derived.Test.YtniibeofggdfoaaGateC
import Derived.Test.YtniibeofggdfoaaRd
namespace Go.Proofs.Ytniibeofggdfoaa
open Go Go.Ev
set_option maxRecDepth 100000
set_option linter.unusedVariables false
set_option linter.unusedSimpArgs false

theorem u64_range {n : Int} (h : IntKind.u64.min ≤ n ∧ n ≤ IntKind.u64.max) : 0 ≤ n ∧ n < 18446744073709551616 := by
  have h1 : IntKind.u64.min = 0 := by decide
  have h2 : IntKind.u64.max = 18446744073709551615 := by decide
  rw [h1, h2] at h; omega
theorem u8_range {n : Int} (h : IntKind.u8.min ≤ n ∧ n ≤ IntKind.u8.max) : 0 ≤ n ∧ n < 256 := by
  have h1 : IntKind.u8.min = 0 := by decide
  have h2 : IntKind.u8.max = 255 := by decide
  rw [h1, h2] at h; omega

theorem raised_main (W : World) (n0 : Int) (h0 : IntKind.u64.min ≤ n0 ∧ n0 ≤ IntKind.u64.max) (n1 : Int) (h1 : IntKind.u64.min ≤ n1 ∧ n1 ≤ IntKind.u64.max) (n2 : Int) (h2 : IntKind.u64.min ≤ n2 ∧ n2 ≤ IntKind.u64.max) (n3 : Int) (h3 : IntKind.u8.min ≤ n3 ∧ n3 ≤ IntKind.u8.max) :
    ∃ w', callF Try.prog 5 #[.int .u64 n0, .int .u64 n1, .int .u64 n2, .int .u8 n3] W = some (.bool true, w') ∧ Fr [] W w' := by
  replace h0 := u64_range h0
  replace h1 := u64_range h1
  replace h2 := u64_range h2
  replace h3 := u8_range h3
  obtain ⟨w1, e1, c1, f1⟩ := new10 (w := W) n0 n1
  generalize hbeg : (if n1 < n0 then n1 else n0) = beg at c1
  have hb0 : 0 ≤ beg := by rw [← hbeg]; split <;> omega
  have hbl : beg ≤ n1 := by rw [← hbeg]; split <;> omega
  obtain ⟨w2, e2, f2⟩ := awake11 (w := w1)
  have c2 := c1.fr f2 (by simp)
  obtain ⟨w3, e3, c3, f3⟩ := raise17 (t := n2) c2
  have hr0 : beg ≤ raiseOf beg n1 n2 := by
    unfold raiseOf; split
    · omega
    · split <;> omega
  have hr1 : raiseOf beg n1 n2 ≤ n1 := by
    unfold raiseOf; split
    · omega
    · split <;> omega
  have hr2 : n2 ≤ raiseOf beg n1 n2 ∨ n1 ≤ raiseOf beg n1 n2 := by
    unfold raiseOf; split
    · omega
    · split <;> omega
  generalize raiseOf beg n1 n2 = x at c3 hr0 hr1 hr2
  have e4 := left12 c3 (by omega) hr1 h1.2
  obtain ⟨w5, e5, c5, f5⟩ := block13 (n := n3) c3.drew (by omega) hr1 h1.2 h3.1 (by omega)
  have hy0 : x ≤ (blockOf x n1 n3).2.2 := by unfold blockOf; split <;> simp <;> omega
  have hy1 : (blockOf x n1 n3).2.2 ≤ n1 := by unfold blockOf; split <;> simp <;> omega
  have e6 := left12 c5 (by omega) hy1 h1.2
  obtain ⟨w7, e7, c7, f7⟩ := raise17 (t := x) c5.drew
  have hsame : raiseOf (blockOf x n1 n3).2.2 n1 x = (blockOf x n1 n3).2.2 := by unfold raiseOf; rw [if_pos (.inl hy0)]
  rw [hsame] at c7
  have e8 := left12 c7 (by omega) hy1 h1.2
  have hw : IntKind.u64.wrap n3 = n3 := wrap_u64 (by omega) (by omega)
  refine ⟨w7.drew, g5_call ?_, ?_⟩
  · unfold g5
    simp only [e1, e2, e3, e4, Option.bind_some, asP_pointer, asB_bool, asI_int, asS_string, asSl_slice, asM_map, asTup0, asTup1, asTup2, asTup3, asTup4, asTup5, getD0, getD1, getD2, getD3, getD4, Bool.not_true, Bool.not_false, Bool.false_eq_true, Bool.true_eq_false, ↓reduceIte, decide_true, decide_false, Option.isNone_some, Option.isNone_none, Option.isSome_some, Option.isSome_none, beq_self_eq_true, bne_self_eq_false, Bool.and_true, Bool.true_and, Bool.and_false, Bool.false_and, not_true_eq_false, not_false_eq_true]
    by_cases hok : n3 = 0 ∨ n3 > n1 - x
    · have hbo : blockOf x n1 n3 = (0, false, x) := by simp [blockOf, hok]
      rw [hbo] at e5 e6 e8
      simp only [hw, e5, Option.bind_some, asP_pointer, asB_bool, asI_int, asS_string, asSl_slice, asM_map, asTup0, asTup1, asTup2, asTup3, asTup4, asTup5, getD0, getD1, getD2, getD3, getD4, Bool.not_true, Bool.not_false, Bool.false_eq_true, Bool.true_eq_false, ↓reduceIte, decide_true, decide_false, Option.isNone_some, Option.isNone_none, Option.isSome_some, Option.isSome_none, beq_self_eq_true, bne_self_eq_false, Bool.and_true, Bool.true_and, Bool.and_false, Bool.false_and, not_true_eq_false, not_false_eq_true]
      by_cases hp : n3 > 0
      · have hq : ¬ n3 ≤ n1 - x := by omega
        simp only [hp, hq, e6, e7, e8, Option.bind_some, asP_pointer, asB_bool, asI_int, asS_string, asSl_slice, asM_map, asTup0, asTup1, asTup2, asTup3, asTup4, asTup5, getD0, getD1, getD2, getD3, getD4, Bool.not_true, Bool.not_false, Bool.false_eq_true, Bool.true_eq_false, ↓reduceIte, decide_true, decide_false, Option.isNone_some, Option.isNone_none, Option.isSome_some, Option.isSome_none, beq_self_eq_true, bne_self_eq_false, Bool.and_true, Bool.true_and, Bool.and_false, Bool.false_and, not_true_eq_false, not_false_eq_true]
      · simp only [hp, e6, e7, e8, Option.bind_some, asP_pointer, asB_bool, asI_int, asS_string, asSl_slice, asM_map, asTup0, asTup1, asTup2, asTup3, asTup4, asTup5, getD0, getD1, getD2, getD3, getD4, Bool.not_true, Bool.not_false, Bool.false_eq_true, Bool.true_eq_false, ↓reduceIte, decide_true, decide_false, Option.isNone_some, Option.isNone_none, Option.isSome_some, Option.isSome_none, beq_self_eq_true, bne_self_eq_false, Bool.and_true, Bool.true_and, Bool.and_false, Bool.false_and, not_true_eq_false, not_false_eq_true]
    · have hbo : blockOf x n1 n3 = (x, true, x + n3) := by simp [blockOf, hok]
      rw [hbo] at e5 e6 e8
      have hp : 0 < n3 := by omega
      have hle : n3 ≤ n1 - x := by omega
      by_cases hlt : x < n2
      · have hge : ¬ x < n1 := by omega
        simp only [hw, e5, e6, e7, e8, hp, hle, hlt, hge, Option.bind_some, asP_pointer, asB_bool, asI_int, asS_string, asSl_slice, asM_map, asTup0, asTup1, asTup2, asTup3, asTup4, asTup5, getD0, getD1, getD2, getD3, getD4, Bool.not_true, Bool.not_false, Bool.false_eq_true, Bool.true_eq_false, ↓reduceIte, decide_true, decide_false, Option.isNone_some, Option.isNone_none, Option.isSome_some, Option.isSome_none, beq_self_eq_true, bne_self_eq_false, Bool.and_true, Bool.true_and, Bool.and_false, Bool.false_and, not_true_eq_false, not_false_eq_true]
      · simp only [hw, e5, e6, e7, e8, hp, hle, hlt, Option.bind_some, asP_pointer, asB_bool, asI_int, asS_string, asSl_slice, asM_map, asTup0, asTup1, asTup2, asTup3, asTup4, asTup5, getD0, getD1, getD2, getD3, getD4, Bool.not_true, Bool.not_false, Bool.false_eq_true, Bool.true_eq_false, ↓reduceIte, decide_true, decide_false, Option.isNone_some, Option.isNone_none, Option.isSome_some, Option.isSome_none, beq_self_eq_true, bne_self_eq_false, Bool.and_true, Bool.true_and, Bool.and_false, Bool.false_and, not_true_eq_false, not_false_eq_true]
  · refine ((((((f1.nil.trans f2.nil).trans f3).trans (Fr.drew _ _)).trans f5).trans (Fr.drew _ _)).trans (f7.trans (Fr.drew _ _))).mono ?_
    intro x hx hlt
    simp at hx; omega
end Go.Proofs.Ytniibeofggdfoaa
