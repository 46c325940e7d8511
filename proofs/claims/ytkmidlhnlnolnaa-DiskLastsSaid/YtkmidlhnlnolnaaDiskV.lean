/-
  DiskV: lemmas on what Go functions of this seat come to (for whatever arguments, as each says). No condition but those that stand in each lemma.
-/
import Derived.Test.YtkmidlhnlnolnaaDiskSu
import Derived.Test.YtkmidlhnlnolnaaDiskJ
namespace Go.Proofs.Ytkmidlhnlnolnaa
open Go Go.Ev
set_option maxRecDepth 100000
set_option linter.unusedVariables false
set_option linter.unusedSimpArgs false

section
variable {w : World} {D : Nat → Prop} {b : Nat} {A : List (ByteArray × FV)} {fuse : Int} {dead : Bool}

/-- Names: there are as many as there are files -/
theorem namesN (h : Dk w D b A fuse dead) : ∃ (q : ShS) (w' : World), callF Try.prog 18 #[.pointer (some ⟨b, 0, none⟩)] w = some (.slice q.1 q.2.1 q.2.2, w') ∧ q.2.1 = A.length ∧ Fr [] w w' := by
  have hml : maxLen = 9223372036854775807 := by decide
  have hAl := h.len
  obtain ⟨r, fs, h1, h2, h3, h4, h5⟩ := h.ex
  have hfl : fs.length = A.length := by rw [h1]; simp
  have c0 : w.cell? ⟨b, 0, none⟩ = some (.map (some r)) := h2.cell 0
  obtain ⟨w1, e1, i1, f1⟩ := iter_range (P := Try.prog) Try.underlying57 h3
  have hne : w.heap.size ≠ r := fun e => by have := h.lt _ h5; omega
  have hkl : (keysOf fs).length = fs.length := by simp [keysOf]
  have z1 := f1.size
  obtain ⟨e, t, w2, g2, rfl, o2, hs2, hl2, f2⟩ := loopS_rule (b := g18_l6_b (some ⟨w.heap.size, 0, none⟩)) (n := fs.length)
    (I := fun k s x => (∃ vis xs, vis.length = k ∧ xs.length = k ∧ Iter Value.string x w.heap.size r (keysOf fs) vis ∧ Own x 9 1 s xs ∧ ∀ v ∈ xs, ∃ s, v = .string s) ∧ (∀ y ∈ blkOf s, w.heap.size < y) ∧ Fr [] w x ∧ w.heap.size < x.heap.size)
    (Q := fun e s x => e = .exit 0 ∧ (∃ xs, Own x 9 1 s xs ∧ ∀ v ∈ xs, ∃ s, v = .string s) ∧ s.2.1 = fs.length ∧ (∀ y ∈ blkOf s, w.heap.size < y) ∧ Fr [] w x)
    (fun k s x hk ⟨⟨vis, xs, hv, hx, hi, ho, hs⟩, hb, hF, hz⟩ => by
      rcases iter_next (P := Try.prog) hi hne 0 with ⟨hh, _⟩ | ⟨_, i, hi', x1, hnv, n1, i2, g1, n2⟩
      · omega
      have oz := ho.fr g1 (fun y hy hm => by simp at hm; subst hm; have := hb _ hy; omega)
      obtain ⟨nm, hnm⟩ : ∃ nm : ByteArray, ((keysOf fs)[i]'hi').1 = nm := ⟨_, rfl⟩
      rw [hnm] at n1 n2
      have hol := ho.len
      obtain ⟨q1, x2, a2, o2, f2, m2, l2⟩ := app_one t37 (w := x1) oz (ys := [.string nm]) rfl (by intro y hy; simp at hy; subst hy; rfl) (by omega) (by omega) 37 #[false, false]
      have zz := g1.size
      have hni : w.heap.size ∉ blkOf s := fun hm => by have := hb _ hm; omega
      have i3 := i2.fr f2 hni (fun hm => by have := hb _ hm; have := h.lt _ h5; omega)
      refine ⟨.normal, q1, x2, ?_, .inl ⟨rfl, ⟨vis ++ [i], xs ++ [.string nm], by simp [hv], by simp [hx], i3, o2, ?_⟩, fun y hy => ?_, ?_, ?_⟩⟩
      · have a2' : callB Try.prog .append #[37, 37] 37 #[false, false] #[.slice s.1 s.2.1 s.2.2, .slice (some ⟨x1.heap.size, 0, none⟩) 1 1] (x1.alloc (.cells #[.string nm] 9)) = some (.slice q1.1 q1.2.1 q1.2.2, x2) := a2
        unfold g18_l6_b
        simp only [n1, asNext_t, onNext_s, n2, a2', obs, asP_pointer, asB_bool, asI_int, asS_string, asSl_slice, asM_map, asTup0, asTup1, asTup2, asTup3, asTup4, asTup5, asTup6, asTup7, asTup8, asTup9, asAgg2, asAgg3, asAgg4, asAgg5, asAgg6, asAgg7, asAgg8, asAgg9, asAgg12, getD0, getD1, getD2, getD3, getD4, getD5, getD6, getD7, getD8, getD9, getD10, getD11, getD12, getD13, getD14, getD15, getD16, getD17, getD18, getD19, Bool.not_true, Bool.not_false, Bool.false_eq_true, Bool.true_eq_false, ↓reduceIte, decide_true, decide_false, Option.isNone_some, Option.isNone_none, Option.isSome_some, Option.isSome_none, beq_self_eq_true, bne_self_eq_false, Bool.and_true, Bool.true_and, Bool.and_false, Bool.false_and, not_true_eq_false, not_false_eq_true]
      · intro v hv'
        rcases List.mem_append.mp hv' with hh | hh
        · exact hs v hh
        · simp at hh; exact ⟨nm, hh⟩
      · rcases m2 y hy with hh | hh
        · exact hb y hh
        · omega
      · refine ((hF.app g1).app f2).mono ?_
        intro y hy hlt
        simp at hy
        rcases hy with hy | hy
        · omega
        · have := hb y hy; omega
      · have := f2.size; omega)
    (fun s x ⟨⟨vis, xs, hv, hx, hi, ho, hs⟩, hb, hF, hz⟩ => by
      rcases iter_next (P := Try.prog) hi hne 0 with ⟨_, n3⟩ | ⟨hh, _⟩
      case inr => omega
      have hol := ho.len
      refine ⟨.exit 0, s, x, ?_, by simp, rfl, ⟨xs, ho, hs⟩, by omega, hb, hF⟩
      unfold g18_l6_b
      simp only [n3, asNext_f, onNext_n, obs, asP_pointer, asB_bool, asI_int, asS_string, asSl_slice, asM_map, asTup0, asTup1, asTup2, asTup3, asTup4, asTup5, asTup6, asTup7, asTup8, asTup9, asAgg2, asAgg3, asAgg4, asAgg5, asAgg6, asAgg7, asAgg8, asAgg9, asAgg12, getD0, getD1, getD2, getD3, getD4, getD5, getD6, getD7, getD8, getD9, getD10, getD11, getD12, getD13, getD14, getD15, getD16, getD17, getD18, getD19, Bool.not_true, Bool.not_false, Bool.false_eq_true, Bool.true_eq_false, ↓reduceIte, decide_true, decide_false, Option.isNone_some, Option.isNone_none, Option.isSome_some, Option.isSome_none, beq_self_eq_true, bne_self_eq_false, Bool.and_true, Bool.true_and, Bool.and_false, Bool.false_and, not_true_eq_false, not_false_eq_true])
    (k := 0) (s := (none, 0, 0)) (w := w1) (Nat.zero_le _) ⟨⟨[], [], rfl, rfl, i1, Own.nil w1 9 1, by simp⟩, by simp [blkOf], f1, (i1.lt).1⟩
  obtain ⟨xs, o, hs⟩ := o2
  obtain ⟨ys, w3, e3, o3, _, f3⟩ := sort27 o hs (by omega)
  refine ⟨t, w3, g18_call ?_, by omega, (f2.app f3).mono ?_⟩
  · unfold g18
    simp only [c0, e1, obs, asP_pointer, asB_bool, asI_int, asS_string, asSl_slice, asM_map, asTup0, asTup1, asTup2, asTup3, asTup4, asTup5, asTup6, asTup7, asTup8, asTup9, asAgg2, asAgg3, asAgg4, asAgg5, asAgg6, asAgg7, asAgg8, asAgg9, asAgg12, getD0, getD1, getD2, getD3, getD4, getD5, getD6, getD7, getD8, getD9, getD10, getD11, getD12, getD13, getD14, getD15, getD16, getD17, getD18, getD19, Bool.not_true, Bool.not_false, Bool.false_eq_true, Bool.true_eq_false, ↓reduceIte, decide_true, decide_false, Option.isNone_some, Option.isNone_none, Option.isSome_some, Option.isSome_none, beq_self_eq_true, bne_self_eq_false, Bool.and_true, Bool.true_and, Bool.and_false, Bool.false_and, not_true_eq_false, not_false_eq_true]
    rw [g18_l6_x0_of g2]
    unfold g18_l6_x0
    simp only [e3, obs, asP_pointer, asB_bool, asI_int, asS_string, asSl_slice, asM_map, asTup0, asTup1, asTup2, asTup3, asTup4, asTup5, asTup6, asTup7, asTup8, asTup9, asAgg2, asAgg3, asAgg4, asAgg5, asAgg6, asAgg7, asAgg8, asAgg9, asAgg12, getD0, getD1, getD2, getD3, getD4, getD5, getD6, getD7, getD8, getD9, getD10, getD11, getD12, getD13, getD14, getD15, getD16, getD17, getD18, getD19, Bool.not_true, Bool.not_false, Bool.false_eq_true, Bool.true_eq_false, ↓reduceIte, decide_true, decide_false, Option.isNone_some, Option.isNone_none, Option.isSome_some, Option.isSome_none, beq_self_eq_true, bne_self_eq_false, Bool.and_true, Bool.true_and, Bool.and_false, Bool.false_and, not_true_eq_false, not_false_eq_true]
  · intro y hy hlt
    simp at hy
    have := hl2 y hy
    omega
end
end Go.Proofs.Ytkmidlhnlnolnaa
