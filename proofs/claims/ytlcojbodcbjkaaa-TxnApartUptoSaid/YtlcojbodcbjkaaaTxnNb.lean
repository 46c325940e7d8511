/-
  TxnNb: lemmas on what Go functions of this seat come to (for whatever arguments, as each says). No condition but those that stand in each lemma.
-/
import Derived.Test.YtlcojbodcbjkaaaTxnNa
namespace Go.Proofs.Ytlcojbodcbjkaaa
open Go Go.Ev
set_option maxRecDepth 100000
set_option linter.unusedVariables false
set_option linter.unusedSimpArgs false

/-- the keys of a map, one round each -/
theorem keys66 {W0 W : World} {sv : Value} {Bs l D : Nat} {q : Sh} (h : RA W0 W sv Bs l D q []) (hl0 : W0.heap.size ≤ l) (hB0 : W0.heap.size ≤ Bs) (hD0 : W0.heap.size ≤ D) {u r : Nat} {fs : List (Int × Value)} (hu : W.cell? ⟨u, 0, none⟩ = some (.map (some r))) (hm : MapAt (Value.int .i64) W r fs) (hr0 : r < W0.heap.size) (hlen : fs.length ≤ 100000000) :
    ∃ q' ss W', callF Try.prog 66 #[.func (.yield l) #[] #[], .pointer (some ⟨u, 0, none⟩)] W = some (.tuple #[], W') ∧ RA W0 W' sv Bs l D q' ss ∧ ss.Perm (fs.map (·.1)) := by
  have hT := Try.underlying69
  obtain ⟨W1, e1, i1, f1⟩ := iter_range (P := Try.prog) hT hm
  have z0 := h.fr.size
  have lW := lt_of_blk h.lrec
  have lD := lt_of_blk h.dfr
  have lB := h.box.lt
  have h1 : RA W0 W1 sv Bs l D q [] := ⟨f1.blk h.lrec (by simp), f1.blk h.dfr (by simp), h.box.fr f1 (by simp), h.own.fr f1 (by simp), (Fr.mono (Fr.app h.fr f1) (by have z0_ := Fr.size h.fr; have z1_ := Fr.size f1; intro y_ hy_ hl_; grind [blkOf])), h.new⟩
  have itne : W.heap.size ≠ r := by omega
  obtain ⟨e, t, W2, g, rfl, vis, q2, hI, hR, hv⟩ := loopS_rule (b := g66_l5_b (some ⟨W.heap.size, 0, none⟩) l) (I := fun k s x => ∃ (vis : List Nat) (q : Sh), Iter (Value.int .i64) x W.heap.size r fs vis ∧ RA W0 x sv Bs l D q (vis.map fun i => ((fs.map (·.1)).getD i 0)) ∧ vis.length = k ∧ ∀ y ∈ blkOf q, y ≠ W.heap.size)
    (Q := fun e s x => e = .exit 0 ∧ ∃ (vis : List Nat) (q : Sh), Iter (Value.int .i64) x W.heap.size r fs vis ∧ RA W0 x sv Bs l D q (vis.map fun i => ((fs.map (·.1)).getD i 0)) ∧ vis.length = fs.length) (n := fs.length)
    (fun k s x hk ⟨vis, q, hI, hR, hv, hq⟩ => by
      rcases iter_next (P := Try.prog) hI itne 0 with ⟨h1, _⟩ | ⟨h1, i, hi, x2, hni, e2, I2, f2, e3⟩
      · omega
      · have zi := hI.lt
        have R2 : RA W0 x2 sv Bs l D q (vis.map fun i => ((fs.map (·.1)).getD i 0)) := by
          have n1 : ∀ {o : Obj} {b : Nat}, x.heap[b]? = some o → (∀ a c d e, o ≠ .mapIter a c d e) → b ∉ [W.heap.size] := by
            intro o b hb hne hm
            simp at hm
            subst hm
            obtain ⟨es, c, g1, g2, g3, g4, g5, _⟩ := hI
            rw [hb] at g5
            exact hne _ _ _ _ (Option.some.inj g5)
          obtain ⟨cb, hcb⟩ := blk_obj hR.box
          refine ⟨f2.blk hR.lrec (n1 hR.lrec (by intros; intro e; cases e)), f2.blk hR.dfr (n1 hR.dfr (by intros; intro e; cases e)), hR.box.fr f2 (n1 hcb (by intros; intro e; cases e)), hR.own.fr f2 (fun y hy => by simp; exact hq y hy), (hR.fr.app f2).mono (by intro y hy hl; simp at hy; omega), hR.new⟩
        obtain ⟨q3, x3, e4, R3, f3⟩ := round82 R2 hl0 hB0 (by simp; omega) fs[i].1
        have z2 := f2.size
        have I3 : Iter (Value.int .i64) x3 W.heap.size r fs (vis ++ [i]) := by
          obtain ⟨es, c, g1, g2, g3, g4, g5, g6⟩ := id I2
          obtain ⟨cb, hcb⟩ := blk_obj R2.box
          refine I2.fr f3 ?_ ?_
          · simp only [List.mem_cons]
            rintro (hh | hh | hh)
            · exact ne_of_obj g5 R2.lrec (by intro e; cases e) hh
            · exact ne_of_obj g5 hcb (by intro e; cases e) hh
            · obtain ⟨c', hc'⟩ := own_obj R2.own _ hh
              exact ne_of_obj g5 hc' (by intro e; cases e) rfl
          · simp only [List.mem_cons]
            rintro (hh | hh | hh)
            · exact ne_of_obj g1 R2.lrec (by intro e; cases e) hh
            · exact ne_of_obj g1 hcb (by intro e; cases e) hh
            · obtain ⟨c', hc'⟩ := own_obj R2.own _ hh
              exact ne_of_obj g1 hc' (by intro e; cases e) rfl
        refine ⟨.normal, s, x3, ?_, .inl ⟨rfl, vis ++ [i], q3, I3, ?_, by simp; omega, fun y hy => ?_⟩⟩
        · unfold g66_l5_b
          simp only [e2, e3, obs, asP_pointer, asB_bool, asI_int, asS_string, asSl_slice, asM_map, asTup0, asTup1, asTup2, asTup3, asTup4, asTup5, asTup6, asTup7, asTup8, asTup9, asAgg2, asAgg3, asAgg4, asAgg5, asAgg6, asAgg7, asAgg8, asAgg9, asAgg12, getD0, getD1, getD2, getD3, getD4, getD5, getD6, getD7, getD8, getD9, getD10, getD11, getD12, getD13, getD14, getD15, getD16, getD17, getD18, getD19, Bool.not_true, Bool.not_false, Bool.false_eq_true, Bool.true_eq_false, ↓reduceIte, decide_true, decide_false, Option.isNone_some, Option.isNone_none, Option.isSome_some, Option.isSome_none, beq_self_eq_true, bne_self_eq_false, Bool.and_true, Bool.true_and, Bool.and_false, Bool.false_and, not_true_eq_false, not_false_eq_true]
          have hn : asNext (.tuple #[.bool true, .int .i64 fs[i].1, fs[i].2]) = some (some (.int .i64 fs[i].1, fs[i].2)) := rfl
          rw [hn]
          simp only [e3, e4, obs, asP_pointer, asB_bool, asI_int, asS_string, asSl_slice, asM_map, asTup0, asTup1, asTup2, asTup3, asTup4, asTup5, asTup6, asTup7, asTup8, asTup9, asAgg2, asAgg3, asAgg4, asAgg5, asAgg6, asAgg7, asAgg8, asAgg9, asAgg12, getD0, getD1, getD2, getD3, getD4, getD5, getD6, getD7, getD8, getD9, getD10, getD11, getD12, getD13, getD14, getD15, getD16, getD17, getD18, getD19, Bool.not_true, Bool.not_false, Bool.false_eq_true, Bool.true_eq_false, ↓reduceIte, decide_true, decide_false, Option.isNone_some, Option.isNone_none, Option.isSome_some, Option.isSome_none, beq_self_eq_true, bne_self_eq_false, Bool.and_true, Bool.true_and, Bool.and_false, Bool.false_and, not_true_eq_false, not_false_eq_true]
          show onNext (some (Value.int .i64 fs[i].1, fs[i].2)) _ _ = _
          unfold onNext
          simp only [e3, e4, obs, asP_pointer, asB_bool, asI_int, asS_string, asSl_slice, asM_map, asTup0, asTup1, asTup2, asTup3, asTup4, asTup5, asTup6, asTup7, asTup8, asTup9, asAgg2, asAgg3, asAgg4, asAgg5, asAgg6, asAgg7, asAgg8, asAgg9, asAgg12, getD0, getD1, getD2, getD3, getD4, getD5, getD6, getD7, getD8, getD9, getD10, getD11, getD12, getD13, getD14, getD15, getD16, getD17, getD18, getD19, Bool.not_true, Bool.not_false, Bool.false_eq_true, Bool.true_eq_false, ↓reduceIte, decide_true, decide_false, Option.isNone_some, Option.isNone_none, Option.isSome_some, Option.isSome_none, beq_self_eq_true, bne_self_eq_false, Bool.and_true, Bool.true_and, Bool.and_false, Bool.false_and, not_true_eq_false, not_false_eq_true]
        · have : ((vis ++ [i]).map fun i => ((fs.map (·.1)).getD i 0)) = (vis.map fun i => ((fs.map (·.1)).getD i 0)) ++ [fs[i].1] := by
            simp [hi]
          rw [this]; exact R3
        · obtain ⟨c', hc'⟩ := own_obj R3.own _ hy
          obtain ⟨es, c, g1, g2, g3, g4, g5, g6⟩ := I3
          exact ne_of_obj hc' g5 (by intro e; cases e))
    (fun s x ⟨vis, q, hI, hR, hv, hq⟩ => by
      rcases iter_next (P := Try.prog) hI itne 0 with ⟨h1, e2⟩ | ⟨h1, _⟩
      · refine ⟨.exit 0, s, x, ?_, by simp, rfl, vis, q, hI, hR, hv⟩
        unfold g66_l5_b
        simp only [e2, obs, asP_pointer, asB_bool, asI_int, asS_string, asSl_slice, asM_map, asTup0, asTup1, asTup2, asTup3, asTup4, asTup5, asTup6, asTup7, asTup8, asTup9, asAgg2, asAgg3, asAgg4, asAgg5, asAgg6, asAgg7, asAgg8, asAgg9, asAgg12, getD0, getD1, getD2, getD3, getD4, getD5, getD6, getD7, getD8, getD9, getD10, getD11, getD12, getD13, getD14, getD15, getD16, getD17, getD18, getD19, Bool.not_true, Bool.not_false, Bool.false_eq_true, Bool.true_eq_false, ↓reduceIte, decide_true, decide_false, Option.isNone_some, Option.isNone_none, Option.isSome_some, Option.isSome_none, beq_self_eq_true, bne_self_eq_false, Bool.and_true, Bool.true_and, Bool.and_false, Bool.false_and, not_true_eq_false, not_false_eq_true]
        rfl
      · omega) (k := 0) (s := ()) (w := W1) (Nat.zero_le _) ⟨[], q, i1, h1, rfl, fun y hy => by have := own_lt h.own y hy; omega⟩
  refine ⟨q2, _, W2, g66_call ?_, hR, ?_⟩
  · unfold g66
    simp only [hu, e1, obs, asP_pointer, asB_bool, asI_int, asS_string, asSl_slice, asM_map, asTup0, asTup1, asTup2, asTup3, asTup4, asTup5, asTup6, asTup7, asTup8, asTup9, asAgg2, asAgg3, asAgg4, asAgg5, asAgg6, asAgg7, asAgg8, asAgg9, asAgg12, getD0, getD1, getD2, getD3, getD4, getD5, getD6, getD7, getD8, getD9, getD10, getD11, getD12, getD13, getD14, getD15, getD16, getD17, getD18, getD19, Bool.not_true, Bool.not_false, Bool.false_eq_true, Bool.true_eq_false, ↓reduceIte, decide_true, decide_false, Option.isNone_some, Option.isNone_none, Option.isSome_some, Option.isSome_none, beq_self_eq_true, bne_self_eq_false, Bool.and_true, Bool.true_and, Bool.and_false, Bool.false_and, not_true_eq_false, not_false_eq_true]
    rw [g66_l5_x0_of g, g66_l5_x0]
  · -- each key once
    have hp : vis.Perm (List.range fs.length) := by
      rw [List.perm_ext_iff_of_nodup (by obtain ⟨_, _, _, _, _, _, _, g6, _⟩ := id hI; exact g6) List.nodup_range]
      intro i
      rw [List.mem_range]
      exact ⟨fun hi => by obtain ⟨_, _, _, _, _, _, _, _, g7⟩ := id hI; exact g7 i hi, fun hi => hI.all hv i hi⟩
    have h2 := hp.map (fun i => ((fs.map (·.1)).getD i 0))
    have h3 : (List.range fs.length).map (fun i => ((fs.map (·.1)).getD i 0)) = fs.map (·.1) := by
      apply List.ext_getElem
      · simp
      · intro i h1 h2
        simp at h1
        simp [h1]
    rw [h3] at h2
    exact h2
end Go.Proofs.Ytlcojbodcbjkaaa
