/-
  FrameH: lemmas on what Go functions of this seat come to (for whatever arguments, as each says). No condition but those that stand in each lemma.
-/
import Derived.Test.YteekaakkaogpeaaFrameG
import Derived.Laws.IdiomStrings
namespace Go.Proofs.Yteekaakkaogpeaa
open Go Go.Ev Go.Crc
set_option maxRecDepth 100000
set_option linter.unusedVariables false
set_option linter.unusedSimpArgs false
section
variable {w : World}

theorem new10 : ∃ fb tb w', callF Try.prog 10 #[] w = some (.pointer (some ⟨fb, 0, none⟩), w') ∧ Fm w' fb tb ∧ Fr [] w w' ∧ w.heap.size ≤ tb ∧ w.heap.size ≤ fb := by
  obtain ⟨w1, e1, t1, f1⟩ := new9 (w := w)
  have hb := Blk.new w1 [.pointer (some ⟨w.heap.size, 0, none⟩)] 54
  have f2 : Fr [] w1 (w1.alloc (.cells #[.pointer (some ⟨w.heap.size, 0, none⟩)] 54)) := Fr.alloc _
  refine ⟨w1.heap.size, w.heap.size, w1.alloc (.cells #[.pointer (some ⟨w.heap.size, 0, none⟩)] 54), g10_call ?_, ⟨hb, t1.fr f2 (by simp), ?_⟩, f1.trans f2, Nat.le_refl _, f1.size⟩
  · unfold g10
    simp only [e1, Option.bind_some, asP_pointer, asB_bool, asI_int, asS_string, asSl_slice, asM_map, asTup0, asTup1, asTup2, asTup3, asTup4, asTup5, getD0, getD1, getD2, getD3, getD4, Bool.not_true, Bool.not_false, Bool.false_eq_true, Bool.true_eq_false, ↓reduceIte, decide_true, decide_false, Option.isNone_some, Option.isNone_none, Option.isSome_some, Option.isSome_none, beq_self_eq_true, bne_self_eq_false, Bool.and_true, Bool.true_and, Bool.and_false, Bool.false_and, not_true_eq_false, not_false_eq_true]
  · have := t1.lt; omega

/-- bytes as a text -/
theorem conv_ab {v : Option Addr × Nat × Nat} (o : Own w 5 1 v (([97, 98] : List Int).map (Value.int .u8))) :
    semR Try.prog (convert 22 9 (.slice v.1 v.2.1 v.2.2)) w = some (.string ⟨#[97, 98]⟩, w) := by
  have hl := o.len
  simp only [List.length_map, Nat.mul_one] at hl
  cases ha : v.1 with
  | none => have := (o.empty ha).2.1; rw [this] at hl; cases hl
  | some a =>
    have h2 : v.2.1 = 2 := by rw [← hl]; rfl
    have := run_convert_bytes_back (P := Try.prog) w 22 9 5 a v.2.2 [97, 98] Try.underlying22 (by kernel_rfl) Try.underlying9 (fun j hj => by
      have hc := o.cell ha (j := j) (u := .int .u8 (([97, 98] : List UInt8)[j].toNat : Int)) (by
        match j, hj with
        | 0, _ | 1, _ => rfl)
      exact hc)
    rw [h2]
    unfold semR
    have h3 : ([97, 98] : List UInt8).length = 2 := rfl
    rw [h3] at this
    rw [this]

theorem awake12 : ∃ w', callF Try.prog 12 #[] w = some (.bool true, w') ∧ Fr [] w w' := by
  obtain ⟨fb, tb, w1, e1, m1, f1, ht, hf⟩ := new10 (w := w)
  have hc := Go.Lib.run_convert_bytes_const (P := Try.prog) w1 22 5 #[.int .u8 97, .int .u8 98] 2 2 Try.underlying22 (by kernel_rfl)
  have hb : (w1.alloc (.cells #[.int .u8 97, .int .u8 98] 5 (2, 3))).heap[w1.heap.size]? = some (.cells #[.int .u8 97, .int .u8 98] 5 (2, 3)) := alloc_blk_new _
  have f2 : Fr [] w1 (w1.alloc (.cells #[.int .u8 97, .int .u8 98] 5 (2, 3))) := Fr.alloc _
  have hc2 : semR Try.prog (convert 22 22 (.slice (some ⟨w1.heap.size, 0, none⟩) 2 2)) (w1.alloc (.cells #[.int .u8 97, .int .u8 98] 5)) = some (.slice (some ⟨w1.heap.size, 0, none⟩) 2 2, w1.alloc (.cells #[.int .u8 97, .int .u8 98] 5 (2, 3))) := by
    unfold semR; rw [hc]; rfl
  have hu : Sl8 (w1.alloc (.cells #[.int .u8 97, .int .u8 98] 5 (2, 3))) (some ⟨w1.heap.size, 0, none⟩, 2, 2) [97, 98] := by
    refine ⟨rfl, fun _ => ⟨w1.heap.size, 0, rfl, lt_of_blk hb, fun i hi => ?_⟩⟩
    rw [cell_blk hb, Nat.zero_add]
    simp only [List.length_cons, List.length_nil] at hi
    match i, hi with
    | 0, _ | 1, _ => rfl
  have m2 := m1.fr f2 (by simp) (by simp)
  have htl := m1.tbl.lt
  generalize w1.alloc (.cells #[.int .u8 97, .int .u8 98] 5 (2, 3)) = w2 at *
  obtain ⟨v3, w3, e3, o3, m3, f3, hv3⟩ := encode13 m2 hu (by unfold Zs; decide) (fun _ => by simp [blkOf]; omega) (by decide)
  have ntb : tb ∉ blkOf v3 := fun hm => by have := hv3 _ hm; have := m2.tbl.lt; omega
  obtain ⟨v4, w4, e4, o4, m4, f4, hv4⟩ := decode16 m3 o3.slI (enc_zs (by unfold Zs; decide)) o3.le (fun _ => ntb) (by decide)
  have hv : dec (enc [97, 98]) = ([97, 98], 10, 0) := by decide +kernel
  rw [hv] at e4 o4
  have e5 := conv_ab o4
  have hl3 := o3.len
  simp only [List.length_map, Nat.mul_one] at hl3
  have hl10 : v3.2.1 = 10 := by rw [← hl3]; decide
  refine ⟨w4, g12_call ?_, ?_⟩
  · have h10 : (((10 : Nat) : Int) == 10) = true := by decide
    unfold g12
    simp only [e1, hc2, Option.bind_some, asP_pointer, asB_bool, asI_int, asS_string, asSl_slice, asM_map, asTup0, asTup1, asTup2, asTup3, asTup4, asTup5, getD0, getD1, getD2, getD3, getD4, Bool.not_true, Bool.not_false, Bool.false_eq_true, Bool.true_eq_false, ↓reduceIte, decide_true, decide_false, Option.isNone_some, Option.isNone_none, Option.isSome_some, Option.isSome_none, beq_self_eq_true, bne_self_eq_false, Bool.and_true, Bool.true_and, Bool.and_false, Bool.false_and, not_true_eq_false, not_false_eq_true]
    simp only at e3
    have hl11 : ((v3.2.1 : Int) == 10) = true := by rw [hl10]; decide
    simp only [e3, e4, hl11, h10, e5, Option.bind_some, asP_pointer, asB_bool, asI_int, asS_string, asSl_slice, asM_map, asTup0, asTup1, asTup2, asTup3, asTup4, asTup5, getD0, getD1, getD2, getD3, getD4, Bool.not_true, Bool.not_false, Bool.false_eq_true, Bool.true_eq_false, ↓reduceIte, decide_true, decide_false, Option.isNone_some, Option.isNone_none, Option.isSome_some, Option.isSome_none, beq_self_eq_true, bne_self_eq_false, Bool.and_true, Bool.true_and, Bool.and_false, Bool.false_and, not_true_eq_false, not_false_eq_true]
  · refine (((f1.trans f2).nil.trans f3).trans f4).mono ?_
    intro y hy hlt
    simp at hy; omega
end

theorem FrameNone_main (W : World) (x0 : (Ty.slice (.int .u8)).Val) (h0 : (Ty.slice (.int .u8)).At W [.slice x0.1.1 x0.1.2.1 x0.1.2.2] x0) :
    ∃ w', callF Try.prog 9 #[.slice x0.1.1 x0.1.2.1 x0.1.2.2] W = some (.bool true, w') ∧ Fr [] W w' := by
  obtain ⟨w1, e1, f1⟩ := awake12 (w := W)
  have e13 : ∀ w, callF Try.prog 13 #[.pointer none, .slice x0.1.1 x0.1.2.1 x0.1.2.2] w = some (.tuple #[.slice none 0 0, .int .i64 5], w) := fun w => g13_call (by unfold g13; simp only [Option.bind_some, asP_pointer, asB_bool, asI_int, asS_string, asSl_slice, asM_map, asTup0, asTup1, asTup2, asTup3, asTup4, asTup5, getD0, getD1, getD2, getD3, getD4, Bool.not_true, Bool.not_false, Bool.false_eq_true, Bool.true_eq_false, ↓reduceIte, decide_true, decide_false, Option.isNone_some, Option.isNone_none, Option.isSome_some, Option.isSome_none, beq_self_eq_true, bne_self_eq_false, Bool.and_true, Bool.true_and, Bool.and_false, Bool.false_and, not_true_eq_false, not_false_eq_true])
  have e16 : ∀ w, callF Try.prog 16 #[.pointer none, .slice x0.1.1 x0.1.2.1 x0.1.2.2] w = some (.tuple #[.slice none 0 0, .int .i64 0, .int .i64 5], w) := fun w => g16_call (by unfold g16; simp only [Option.bind_some, asP_pointer, asB_bool, asI_int, asS_string, asSl_slice, asM_map, asTup0, asTup1, asTup2, asTup3, asTup4, asTup5, getD0, getD1, getD2, getD3, getD4, Bool.not_true, Bool.not_false, Bool.false_eq_true, Bool.true_eq_false, ↓reduceIte, decide_true, decide_false, Option.isNone_some, Option.isNone_none, Option.isSome_some, Option.isSome_none, beq_self_eq_true, bne_self_eq_false, Bool.and_true, Bool.true_and, Bool.and_false, Bool.false_and, not_true_eq_false, not_false_eq_true])
  have e18 : ∀ w, callF Try.prog 18 #[.pointer none, .slice x0.1.1 x0.1.2.1 x0.1.2.2] w = some (.tuple #[.slice none 0 0, .int .i64 0, .int .i64 5], w) := fun w => g18_call (by unfold g18; simp only [Option.bind_some, asP_pointer, asB_bool, asI_int, asS_string, asSl_slice, asM_map, asTup0, asTup1, asTup2, asTup3, asTup4, asTup5, getD0, getD1, getD2, getD3, getD4, Bool.not_true, Bool.not_false, Bool.false_eq_true, Bool.true_eq_false, ↓reduceIte, decide_true, decide_false, Option.isNone_some, Option.isNone_none, Option.isSome_some, Option.isSome_none, beq_self_eq_true, bne_self_eq_false, Bool.and_true, Bool.true_and, Bool.and_false, Bool.false_and, not_true_eq_false, not_false_eq_true])
  refine ⟨w1, g9_call ?_, f1⟩
  have h00 : (((0 : Nat) : Int) == 0) = true := by decide
  unfold g9
  simp only [e13, e16, e18, e1, h00, Option.bind_some, asP_pointer, asB_bool, asI_int, asS_string, asSl_slice, asM_map, asTup0, asTup1, asTup2, asTup3, asTup4, asTup5, getD0, getD1, getD2, getD3, getD4, Bool.not_true, Bool.not_false, Bool.false_eq_true, Bool.true_eq_false, ↓reduceIte, decide_true, decide_false, Option.isNone_some, Option.isNone_none, Option.isSome_some, Option.isSome_none, beq_self_eq_true, bne_self_eq_false, Bool.and_true, Bool.true_and, Bool.and_false, Bool.false_and, not_true_eq_false, not_false_eq_true]
end Go.Proofs.Yteekaakkaogpeaa
