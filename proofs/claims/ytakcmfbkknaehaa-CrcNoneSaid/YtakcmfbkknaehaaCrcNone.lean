/-
  CrcNone: lemmas on what Go functions of this seat come to (for whatever arguments, as each says). No condition but those that stand in each lemma.
-/
import Derived.Test.YtakcmfbkknaehaaCrcE
namespace Go.Proofs.Ytakcmfbkknaehaa
open Go Go.Ev Go.Crc
set_option maxRecDepth 100000
set_option linter.unusedVariables false
set_option linter.unusedSimpArgs false
theorem CrcNone_main (W : World) (n0 : Int) (h0 : IntKind.u32.min ≤ n0 ∧ n0 ≤ IntKind.u32.max) (x1 : (Ty.slice (.int .u8)).Val) (h1 : (Ty.slice (.int .u8)).At W [.slice x1.1.1 x1.1.2.1 x1.1.2.2] x1) :
    ∃ w', callF Try.prog 8 #[.int .u32 n0, .slice x1.1.1 x1.1.2.1 x1.1.2.2] W = some (.bool true, w') ∧ Fr [] W w' := by
  obtain ⟨w1, e1, f1⟩ := awake10 (w := W)
  have e14 : ∀ n w, callF Try.prog 14 #[.pointer none, .int .u32 n, .slice x1.1.1 x1.1.2.1 x1.1.2.2] w = some (.int .u32 0, w) := fun n w => g14_call (by unfold g14; simp only [Option.bind_some, asP_pointer, asB_bool, asI_int, asS_string, asSl_slice, asM_map, asTup0, asTup1, asTup2, asTup3, asTup4, asTup5, getD0, getD1, getD2, getD3, getD4, Bool.not_true, Bool.not_false, Bool.false_eq_true, Bool.true_eq_false, ↓reduceIte, decide_true, decide_false, Option.isNone_some, Option.isNone_none, Option.isSome_some, Option.isSome_none, beq_self_eq_true, bne_self_eq_false, Bool.and_true, Bool.true_and, Bool.and_false, Bool.false_and, not_true_eq_false, not_false_eq_true])
  have e13 : ∀ w, callF Try.prog 13 #[.pointer none, .slice x1.1.1 x1.1.2.1 x1.1.2.2] w = some (.int .u32 0, w) := fun w => g13_call (by unfold g13; simp only [e14, Option.bind_some, asP_pointer, asB_bool, asI_int, asS_string, asSl_slice, asM_map, asTup0, asTup1, asTup2, asTup3, asTup4, asTup5, getD0, getD1, getD2, getD3, getD4, Bool.not_true, Bool.not_false, Bool.false_eq_true, Bool.true_eq_false, ↓reduceIte, decide_true, decide_false, Option.isNone_some, Option.isNone_none, Option.isSome_some, Option.isSome_none, beq_self_eq_true, bne_self_eq_false, Bool.and_true, Bool.true_and, Bool.and_false, Bool.false_and, not_true_eq_false, not_false_eq_true])
  refine ⟨w1, g8_call ?_, f1⟩
  unfold g8
  simp only [e1, e13, e14, Option.bind_some, asP_pointer, asB_bool, asI_int, asS_string, asSl_slice, asM_map, asTup0, asTup1, asTup2, asTup3, asTup4, asTup5, getD0, getD1, getD2, getD3, getD4, Bool.not_true, Bool.not_false, Bool.false_eq_true, Bool.true_eq_false, ↓reduceIte, decide_true, decide_false, Option.isNone_some, Option.isNone_none, Option.isSome_some, Option.isSome_none, beq_self_eq_true, bne_self_eq_false, Bool.and_true, Bool.true_and, Bool.and_false, Bool.false_and, not_true_eq_false, not_false_eq_true]
end Go.Proofs.Ytakcmfbkknaehaa
