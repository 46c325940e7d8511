/-
  TxnNd: lemmas on what Go functions of this seat come to (for whatever arguments, as each says). No condition but those that stand in each lemma.
-/
import Derived.Test.YtlcojbodcbjkaaaTxnNc
namespace Go.Proofs.Ytlcojbodcbjkaaa
open Go Go.Ev
set_option maxRecDepth 100000
set_option linter.unusedVariables false
set_option linter.unusedSimpArgs false

theorem sorted38 {w : World} {u r : Nat} {fs : List (Int × Value)} (hu : Blk w u [.map (some r)] 69) (hm : MapAt (Value.int .i64) w r fs) (hlen : fs.length ≤ 100000000) :
    ∃ (q : Sh) (w' : World), callF Try.prog 38 #[sqV u] w = some (.slice q.1 q.2.1 q.2.2, w') ∧ Own w' 3 1 q (intsV' (isort (fs.map (·.1)))) ∧ Fr [] w w' ∧ ∀ y ∈ blkOf q, w.heap.size ≤ y := by
  obtain ⟨q, ss, w1, e1, o1, hp, f1, n1⟩ := seq82 hu hm hlen
  have e65 : callF Try.prog 65 #[sqV u] w = some (.slice q.1 q.2.1 q.2.2, w1) := by
    refine g65x66_call (u0 := ⟨u, 0, none⟩) ?_
    unfold g65x66
    have e1' : callF Try.prog 82 #[.slice none 0 0, .func (.func 66) #[] #[.pointer (some ⟨u, 0, none⟩)]] w = some (.slice q.1 q.2.1 q.2.2, w1) := e1
    simp only [e1', obs, asP_pointer, asB_bool, asI_int, asS_string, asSl_slice, asM_map, asTup0, asTup1, asTup2, asTup3, asTup4, asTup5, asTup6, asTup7, asTup8, asTup9, asAgg2, asAgg3, asAgg4, asAgg5, asAgg6, asAgg7, asAgg8, asAgg9, asAgg12, getD0, getD1, getD2, getD3, getD4, getD5, getD6, getD7, getD8, getD9, getD10, getD11, getD12, getD13, getD14, getD15, getD16, getD17, getD18, getD19, Bool.not_true, Bool.not_false, Bool.false_eq_true, Bool.true_eq_false, ↓reduceIte, decide_true, decide_false, Option.isNone_some, Option.isNone_none, Option.isSome_some, Option.isSome_none, beq_self_eq_true, bne_self_eq_false, Bool.and_true, Bool.true_and, Bool.and_false, Bool.false_and, not_true_eq_false, not_false_eq_true]
  have ol := o1.len
  simp only [intsV', List.length_map] at ol
  have hl := hp.length_eq
  simp only [List.length_map] at hl
  obtain ⟨w2, e2, o2, f2⟩ := SQ.sort33 o1 (by omega)
  refine ⟨q, w2, g38x66_call (u0 := ⟨u, 0, none⟩) ?_, ?_, (f1.app f2).mono (by intro y hy hl; simp at hy; have := n1 y hy; omega), n1⟩
  · unfold g38x66
    have e65' : callF Try.prog 65 #[.func (.func 66) #[] #[.pointer (some ⟨u, 0, none⟩)]] w = some (.slice q.1 q.2.1 q.2.2, w1) := e65
    simp only [e65', e2, obs, asP_pointer, asB_bool, asI_int, asS_string, asSl_slice, asM_map, asTup0, asTup1, asTup2, asTup3, asTup4, asTup5, asTup6, asTup7, asTup8, asTup9, asAgg2, asAgg3, asAgg4, asAgg5, asAgg6, asAgg7, asAgg8, asAgg9, asAgg12, getD0, getD1, getD2, getD3, getD4, getD5, getD6, getD7, getD8, getD9, getD10, getD11, getD12, getD13, getD14, getD15, getD16, getD17, getD18, getD19, Bool.not_true, Bool.not_false, Bool.false_eq_true, Bool.true_eq_false, ↓reduceIte, decide_true, decide_false, Option.isNone_some, Option.isNone_none, Option.isSome_some, Option.isSome_none, beq_self_eq_true, bne_self_eq_false, Bool.and_true, Bool.true_and, Bool.and_false, Bool.false_and, not_true_eq_false, not_false_eq_true]
  · have : isort (fs.map (·.1)) = ss.mergeSort (fun x y => decide (x ≤ y)) := by
      have h1 : isort ss = ss.mergeSort (fun x y => decide (x ≤ y)) := rfl
      rw [← h1]
      exact (isort_of ((isort_perm ss).trans hp) (isort_up ss)).symm
    rw [this]
    exact o2

theorem names25 {w : World} {D : Nat → Prop} {tb : Nat} {A : List (Int × TV)} (h : Tb w D tb A) (hlen : A.length ≤ 100000000) :
    ∃ (q : Sh) (w' : World), callF Try.prog 25 #[.pointer (some ⟨tb, 0, none⟩)] w = some (.slice q.1 q.2.1 q.2.2, w') ∧ Own w' 3 1 q (intsV' (isort (A.map (·.1)))) ∧ Fr [] w w' ∧ ∀ y ∈ blkOf q, w.heap.size ≤ y := by
  obtain ⟨rm, fs, rfl, h2, h4, h5, h6⟩ := h.ex
  have fa : Fr [] w (w.alloc (.cells #[.map (some rm)] 69)) := Fr.alloc _
  have ba := Blk.new w [.map (some rm)] 69
  obtain ⟨w1, hw1⟩ : ∃ w1, w.alloc (.cells #[.map (some rm)] 69) = w1 := ⟨_, rfl⟩
  have ba' : Blk w1 w.heap.size [.map (some rm)] 69 := by rw [← hw1]; exact ba
  rw [hw1] at fa
  have e39 : callF Try.prog 39 #[.map (some rm)] w = some (sqV w.heap.size, w1) := by
    refine g39_call ?_
    unfold g39
    rw [hw1]
    rfl
  have hk : (keysOf fs).map (·.1) = (fs.map PE.ab).map (·.1) := by simp [keysOf, PE.ab]
  obtain ⟨q, w2, e38, o2, f2, n2⟩ := sorted38 ba' (h4.fr fa (by simp)) (by simpa [keysOf] using hlen)
  rw [hk] at o2
  have c0 : w.cell? ⟨tb, 0, none⟩ = some (.map (some rm)) := h2.cell 0
  have z := fa.size
  refine ⟨q, w2, g25_call ?_, o2, (Fr.mono (Fr.app fa f2) (by have z0_ := Fr.size fa; have z1_ := Fr.size f2; intro y_ hy_ hl_; grind [blkOf])), fun y hy => by have := n2 y hy; omega⟩
  unfold g25
  simp only [c0, e39, e38, obs, asP_pointer, asB_bool, asI_int, asS_string, asSl_slice, asM_map, asTup0, asTup1, asTup2, asTup3, asTup4, asTup5, asTup6, asTup7, asTup8, asTup9, asAgg2, asAgg3, asAgg4, asAgg5, asAgg6, asAgg7, asAgg8, asAgg9, asAgg12, getD0, getD1, getD2, getD3, getD4, getD5, getD6, getD7, getD8, getD9, getD10, getD11, getD12, getD13, getD14, getD15, getD16, getD17, getD18, getD19, Bool.not_true, Bool.not_false, Bool.false_eq_true, Bool.true_eq_false, ↓reduceIte, decide_true, decide_false, Option.isNone_some, Option.isNone_none, Option.isSome_some, Option.isSome_none, beq_self_eq_true, bne_self_eq_false, Bool.and_true, Bool.true_and, Bool.and_false, Bool.false_and, not_true_eq_false, not_false_eq_true]
end Go.Proofs.Ytlcojbodcbjkaaa
