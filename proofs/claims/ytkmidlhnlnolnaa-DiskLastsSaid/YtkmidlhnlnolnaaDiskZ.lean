/-
  DiskZ: lemmas on what Go functions of this seat come to (for whatever arguments, as each says). No condition but those that stand in each lemma.
-/
import Derived.Test.YtkmidlhnlnolnaaDiskY
namespace Go.Proofs.Ytkmidlhnlnolnaa
open Go Go.Ev
set_option maxRecDepth 100000
set_option linter.unusedVariables false
set_option linter.unusedSimpArgs false

section
variable {w : World} {E : Nat → Prop} {b : Nat} {qf : ShS} {es : List RE} {fuse : Int} {dead : Bool}

theorem abs_get {es : List RE} {i : Nat} (hi : i < es.length) : (es.map RE.ab)[i]'(by simpa using hi) = es[i].ab := by simp

/-- one file is changed in its place -/
theorem RD.upd (h : RD w E b qf es fuse dead) {w' : World} {k : Nat} (hk : k < es.length) (f : RE) {S : List Nat} (F : Fr S w w') (hS : ∀ y ∈ S, y ∈ blkOf qf ∨ y ∈ blkOf es[k].q ∨ w.heap.size ≤ y)
    (o : Own w' 53 3 qf (reCs (es.set k f))) (of : Own w' 5 1 f.q (f.data.map (Value.int .u8))) (hz : Zs f.data) (hn : ∀ y ∈ blkOf f.q, y ∈ blkOf es[k].q ∨ w.heap.size ≤ y) (hus : used ((es.set k f).map RE.ab) ≤ 4194304) :
    RD w' (fun y => E y ∨ w.heap.size ≤ y ∧ y < w'.heap.size) b qf (es.set k f) fuse dead ∧ Chg E w w' (fun y => E y ∨ w.heap.size ≤ y ∧ y < w'.heap.size) := by
  have hpw := List.pairwise_iff_getElem.mp h.ap
  have hdis : ∀ i j (hi : i < es.length) (hj : j < es.length), i ≠ j → Dis es[i] es[j] := by
    intro i j hi hj hij
    rcases Nat.lt_or_gt_of_ne hij with hlt | hgt
    · exact hpw i j hi hj hlt
    · exact (hpw j i hj hi hgt).symm
  have hz' := F.size
  have hE : ∀ y ∈ S, y < w.heap.size → E y := by
    intro y hy hlt
    rcases hS y hy with hh | hh | hh
    · exact h.rq y hh
    · exact (h.ok _ (List.getElem_mem hk)).reg y hh
    · omega
  have hbS : b ∉ S := fun hm => by
    rcases hS b hm with hh | hh | hh
    · exact h.blk.notin h.own (by decide) hh
    · exact h.blk.notin (h.ok _ (List.getElem_mem hk)).own (by decide) hh
    · have := h.lt b h.eb; omega
  have other : ∀ j (hj : j < es.length), j ≠ k → ∀ y ∈ blkOf es[j].q, y ∉ S := by
    intro j hj hjk y hy hm
    have okj := h.ok _ (List.getElem_mem hj)
    rcases hS y hm with hh | hh | hh
    · exact okj.own.apart h.own (by decide) y hy hh
    · exact hdis j k hj hk hjk y hy hh
    · have := okj.own.lt y hy; omega
  refine ⟨⟨h.blk.fr F hbS, o, fun g hg => ?_, ?_, .inl h.eb, fun y hy => .inl (h.rq y hy), fun y hy => ?_, hus, by rw [List.length_set]; exact h.le⟩, ⟨⟨S.filter (· < w.heap.size), fr_old F, fun y hy => by simp at hy; exact hE y hy.1 hy.2⟩, fun y hy => .inl hy, fun y hy => by rcases hy with hy | hy; exact .inl hy; exact .inr hy.1⟩⟩
  · obtain ⟨j, hj, rfl⟩ := List.getElem_of_mem hg
    rw [List.length_set] at hj
    rw [List.getElem_set]
    by_cases hjk : k = j
    · subst hjk
      rw [if_pos rfl]
      refine ⟨of, hz, fun y hy => ?_⟩
      rcases hn y hy with hh | hh
      · exact .inl ((h.ok _ (List.getElem_mem hk)).reg y hh)
      · exact .inr ⟨hh, of.lt y hy⟩
    · rw [if_neg hjk]
      exact (h.ok _ (List.getElem_mem hj)).fr F (other j hj (fun e => hjk e.symm)) (fun y hy => .inl hy)
  · rw [List.pairwise_iff_getElem]
    have key : ∀ j (hj : j < es.length), j ≠ k → Dis f es[j] := by
      intro j hj hjk y hy hy'
      rcases hn y hy with hh | hh
      · exact hdis k j hk hj (fun e => hjk e.symm) y hh hy'
      · have := (h.ok _ (List.getElem_mem hj)).own.lt y hy'; omega
    intro i j hi hj hij
    rw [List.length_set] at hi hj
    rw [List.getElem_set, List.getElem_set]
    by_cases h1 : k = i
    · subst h1
      rw [if_pos rfl, if_neg (by omega)]
      exact key j hj (by omega)
    · by_cases h2 : k = j
      · subst h2
        rw [if_neg h1, if_pos rfl]
        exact (key i hi (fun e => h1 e.symm)).symm
      · rw [if_neg h1, if_neg h2]
        exact hpw i j hi hj hij
  · rcases hy with hy | hy
    · have := h.lt y hy; omega
    · exact hy.2

theorem used_setR {A : List (ByteArray × FV)} {k : Nat} (hk : k < A.length) (x : ByteArray × FV) : used (A.set k x) + A[k].2.1.length = used A + x.2.1.length := by
  have e1 := used_perm (set_perm hk x)
  have e2 := used_perm (get_perm hk)
  unfold used at e1 e2 ⊢
  rw [List.map_cons, List.sum_cons] at e1 e2
  omega

theorem used_cons (p : ByteArray × FV) (A : List (ByteArray × FV)) : used (p :: A) = p.2.1.length + used A := by unfold used; rw [List.map_cons, List.sum_cons]

theorem chg_row {w' : World} (h : RD w E b qf es fuse dead) (F : Fr [b] w w') : Chg E w w' (fun y => E y ∨ w.heap.size ≤ y ∧ y < w'.heap.size) :=
  ⟨⟨[b], F, fun y hy => by simp at hy; subst hy; exact h.eb⟩, fun y hy => .inl hy, fun y hy => by rcases hy with hy | hy; exact .inl hy; exact .inr hy.1⟩

theorem sync29 (h : RD w E b qf es fuse dead) (hk : kone (es.map RE.ab)) (n : ByteArray) :
    ∃ (E' : Nat → Prop) (es' : List RE) (w' : World), callF Try.prog 29 #[.pointer (some ⟨b, 0, none⟩), .string n] w = some (.int .i64 (syncA (es.map RE.ab) dead n).1, w') ∧ RD w' E' b qf es' fuse dead ∧ es'.map RE.ab = (syncA (es.map RE.ab) dead n).2 ∧ Chg E w w' E' := by
  have e1 := find40 h n
  cases dead with
  | true =>
    refine ⟨E, es, w, g29_call ?_, h, rfl, Chg.refl _ _⟩
    have k : ((9 : Int) == 0) = false := rfl
    simp only [if_true] at e1
    unfold g29
    simp only [e1, k, obs, asP_pointer, asB_bool, asI_int, asS_string, asSl_slice, asM_map, asTup0, asTup1, asTup2, asTup3, asTup4, asTup5, asTup6, asTup7, asTup8, asTup9, asAgg2, asAgg3, asAgg4, asAgg5, asAgg6, asAgg7, asAgg8, asAgg9, asAgg12, getD0, getD1, getD2, getD3, getD4, getD5, getD6, getD7, getD8, getD9, getD10, getD11, getD12, getD13, getD14, getD15, getD16, getD17, getD18, getD19, Bool.not_true, Bool.not_false, Bool.false_eq_true, Bool.true_eq_false, ↓reduceIte, decide_true, decide_false, Option.isNone_some, Option.isNone_none, Option.isSome_some, Option.isSome_none, beq_self_eq_true, bne_self_eq_false, Bool.and_true, Bool.true_and, Bool.and_false, Bool.false_and, not_true_eq_false, not_false_eq_true]
    rfl
  | false =>
    simp only [Bool.false_eq_true, if_false] at e1
    rcases atN_cases (es.map RE.ab) hk n with ⟨ha, hg, _⟩ | ⟨i, hi, ha, hn, hg, hu, _⟩
    · have hs : syncA (es.map RE.ab) false n = (4, es.map RE.ab) := by unfold syncA; rw [if_neg (by decide), hg]
      rw [hs]
      rw [ha, if_pos (by decide)] at e1
      refine ⟨E, es, w, g29_call ?_, h, rfl, Chg.refl _ _⟩
      have k : ((4 : Int) == 0) = false := rfl
      unfold g29
      simp only [e1, k, obs, asP_pointer, asB_bool, asI_int, asS_string, asSl_slice, asM_map, asTup0, asTup1, asTup2, asTup3, asTup4, asTup5, asTup6, asTup7, asTup8, asTup9, asAgg2, asAgg3, asAgg4, asAgg5, asAgg6, asAgg7, asAgg8, asAgg9, asAgg12, getD0, getD1, getD2, getD3, getD4, getD5, getD6, getD7, getD8, getD9, getD10, getD11, getD12, getD13, getD14, getD15, getD16, getD17, getD18, getD19, Bool.not_true, Bool.not_false, Bool.false_eq_true, Bool.true_eq_false, ↓reduceIte, decide_true, decide_false, Option.isNone_some, Option.isNone_none, Option.isSome_some, Option.isSome_none, beq_self_eq_true, bne_self_eq_false, Bool.and_true, Bool.true_and, Bool.and_false, Bool.false_and, not_true_eq_false, not_false_eq_true]
    · have hi' : i < es.length := by simpa using hi
      have hs : syncA (es.map RE.ab) false n = (0, kups (es.map RE.ab) n synF) := by unfold syncA; rw [if_neg (by decide), hg]
      rw [hs, hu]
      rw [ha, if_neg (by omega)] at e1
      have hd := h.fr (Fr.drew [] w) (by simp)
      obtain ⟨g, off, hq, hix, _, hc, hst⟩ := re_at hd.own hi'
      have ok := h.ok _ (List.getElem_mem hi')
      have okl := ok.own.len
      simp at okl
      have c1 : w.drew.cell? ⟨g, off + i * 3 + 1, none⟩ = some (.slice es[i].q.1 es[i].q.2.1 es[i].q.2.2) := by have := hc 1 (by decide); simpa [RE.cs] using this
      obtain ⟨w', s2, o2, f2⟩ := hst 2 (by decide) ⟨es[i].name, es[i].q, es[i].data, es[i].q.2.1⟩ (.int .i64 (es[i].q.2.1 : Int)) rfl rfl
      have F : Fr (blkOf qf) w w' := ((Fr.drew [] w).app f2).mono (by intro y hy _; simpa using hy)
      have okw := (ok.own.fr F (ok.own.apart h.own (by decide)))
      obtain ⟨hR, hC⟩ := h.upd hi' ⟨es[i].name, es[i].q, es[i].data, es[i].q.2.1⟩ F (fun y hy => .inl hy) o2 okw ok.zs (fun y hy => .inl hy) (by
        have := used_setR (A := es.map RE.ab) (k := i) hi (RE.ab ⟨es[i].name, es[i].q, es[i].data, es[i].q.2.1⟩)
        rw [← List.map_set] at this
        have hh := h.us
        simp only [List.getElem_map, RE.ab] at this
        omega)
      refine ⟨_, _, w', g29_call ?_, hR, ?_, hC⟩
      · have k : ((0 : Int) == 0) = true := rfl
        unfold g29
        simp only [e1, k, hd.c0, hix, addr_add, c1, s2, obs, asP_pointer, asB_bool, asI_int, asS_string, asSl_slice, asM_map, asTup0, asTup1, asTup2, asTup3, asTup4, asTup5, asTup6, asTup7, asTup8, asTup9, asAgg2, asAgg3, asAgg4, asAgg5, asAgg6, asAgg7, asAgg8, asAgg9, asAgg12, getD0, getD1, getD2, getD3, getD4, getD5, getD6, getD7, getD8, getD9, getD10, getD11, getD12, getD13, getD14, getD15, getD16, getD17, getD18, getD19, Bool.not_true, Bool.not_false, Bool.false_eq_true, Bool.true_eq_false, ↓reduceIte, decide_true, decide_false, Option.isNone_some, Option.isNone_none, Option.isSome_some, Option.isSome_none, beq_self_eq_true, bne_self_eq_false, Bool.and_true, Bool.true_and, Bool.and_false, Bool.false_and, not_true_eq_false, not_false_eq_true]
      · rw [List.map_set]
        congr 1
        rw [abs_get hi'] at hn ⊢
        simp only [RE.ab] at hn ⊢
        rw [hn]
        simp [synF, okl]

theorem cut30 (h : RD w E b qf es fuse dead) (hk : kone (es.map RE.ab)) (n : ByteArray) (m : Int) :
    ∃ (E' : Nat → Prop) (es' : List RE) (w' : World), callF Try.prog 30 #[.pointer (some ⟨b, 0, none⟩), .string n, .int .i64 m] w = some (.int .i64 (cutA (es.map RE.ab) dead n m).1, w') ∧ RD w' E' b qf es' fuse dead ∧ es'.map RE.ab = (cutA (es.map RE.ab) dead n m).2 ∧ Chg E w w' E' := by
  have hml : maxLen = 9223372036854775807 := by decide
  have e1 := find40 h n
  cases dead with
  | true =>
    refine ⟨E, es, w, g30_call ?_, h, rfl, Chg.refl _ _⟩
    have k : ((9 : Int) != 0) = true := rfl
    simp only [if_true] at e1
    unfold g30
    simp only [e1, k, obs, asP_pointer, asB_bool, asI_int, asS_string, asSl_slice, asM_map, asTup0, asTup1, asTup2, asTup3, asTup4, asTup5, asTup6, asTup7, asTup8, asTup9, asAgg2, asAgg3, asAgg4, asAgg5, asAgg6, asAgg7, asAgg8, asAgg9, asAgg12, getD0, getD1, getD2, getD3, getD4, getD5, getD6, getD7, getD8, getD9, getD10, getD11, getD12, getD13, getD14, getD15, getD16, getD17, getD18, getD19, Bool.not_true, Bool.not_false, Bool.false_eq_true, Bool.true_eq_false, ↓reduceIte, decide_true, decide_false, Option.isNone_some, Option.isNone_none, Option.isSome_some, Option.isSome_none, beq_self_eq_true, bne_self_eq_false, Bool.and_true, Bool.true_and, Bool.and_false, Bool.false_and, not_true_eq_false, not_false_eq_true]
    rfl
  | false =>
    simp only [Bool.false_eq_true, if_false] at e1
    rcases atN_cases (es.map RE.ab) hk n with ⟨ha, hg, _⟩ | ⟨i, hi, ha, hn, hg, hu, _⟩
    · have hs : cutA (es.map RE.ab) false n m = (4, es.map RE.ab) := by unfold cutA; rw [if_neg (by decide), hg]
      rw [hs]
      rw [ha, if_pos (by decide)] at e1
      refine ⟨E, es, w, g30_call ?_, h, rfl, Chg.refl _ _⟩
      have k : ((4 : Int) != 0) = true := rfl
      unfold g30
      simp only [e1, k, obs, asP_pointer, asB_bool, asI_int, asS_string, asSl_slice, asM_map, asTup0, asTup1, asTup2, asTup3, asTup4, asTup5, asTup6, asTup7, asTup8, asTup9, asAgg2, asAgg3, asAgg4, asAgg5, asAgg6, asAgg7, asAgg8, asAgg9, asAgg12, getD0, getD1, getD2, getD3, getD4, getD5, getD6, getD7, getD8, getD9, getD10, getD11, getD12, getD13, getD14, getD15, getD16, getD17, getD18, getD19, Bool.not_true, Bool.not_false, Bool.false_eq_true, Bool.true_eq_false, ↓reduceIte, decide_true, decide_false, Option.isNone_some, Option.isNone_none, Option.isSome_some, Option.isSome_none, beq_self_eq_true, bne_self_eq_false, Bool.and_true, Bool.true_and, Bool.and_false, Bool.false_and, not_true_eq_false, not_false_eq_true]
    · have hi' : i < es.length := by simpa using hi
      rw [abs_get hi'] at hg hn
      have k : ((0 : Int) != 0) = false := rfl
      rw [ha, if_neg (by omega)] at e1
      obtain ⟨g, off, hq, hix, _, hc, _⟩ := re_at h.own hi'
      have ok := h.ok _ (List.getElem_mem hi')
      have okl := ok.own.len
      simp at okl
      have c1 : w.cell? ⟨g, off + i * 3 + 1, none⟩ = some (.slice es[i].q.1 es[i].q.2.1 es[i].q.2.2) := by have := hc 1 (by decide); simpa [RE.cs] using this
      by_cases m0 : m < 0
      · have hs : cutA (es.map RE.ab) false n m = (1, es.map RE.ab) := by unfold cutA; rw [if_neg (by decide), hg]; exact if_pos (Or.inl m0)
        rw [hs]
        have k1 : decide (m < 0) = true := by simp only [m0, decide_true]
        refine ⟨E, es, w, g30_call ?_, h, rfl, Chg.refl _ _⟩
        unfold g30
        simp only [e1, k, k1, obs, asP_pointer, asB_bool, asI_int, asS_string, asSl_slice, asM_map, asTup0, asTup1, asTup2, asTup3, asTup4, asTup5, asTup6, asTup7, asTup8, asTup9, asAgg2, asAgg3, asAgg4, asAgg5, asAgg6, asAgg7, asAgg8, asAgg9, asAgg12, getD0, getD1, getD2, getD3, getD4, getD5, getD6, getD7, getD8, getD9, getD10, getD11, getD12, getD13, getD14, getD15, getD16, getD17, getD18, getD19, Bool.not_true, Bool.not_false, Bool.false_eq_true, Bool.true_eq_false, ↓reduceIte, decide_true, decide_false, Option.isNone_some, Option.isNone_none, Option.isSome_some, Option.isSome_none, beq_self_eq_true, bne_self_eq_false, Bool.and_true, Bool.true_and, Bool.and_false, Bool.false_and, not_true_eq_false, not_false_eq_true]
      have k1 : decide (m < 0) = false := by simp only [m0, decide_false]
      by_cases m1 : m > (es[i].q.2.1 : Int)
      · have hs : cutA (es.map RE.ab) false n m = (1, es.map RE.ab) := by unfold cutA; rw [if_neg (by decide), hg]; exact if_pos (Or.inr (show m > (es[i].data.length : Int) by rw [okl]; exact m1))
        rw [hs]
        have k2 : decide (m > (es[i].q.2.1 : Int)) = true := by simp only [m1, decide_true]
        refine ⟨E, es, w, g30_call ?_, h, rfl, Chg.refl _ _⟩
        unfold g30
        simp only [e1, k, k1, h.c0, hix, addr_add, c1, k2, obs, asP_pointer, asB_bool, asI_int, asS_string, asSl_slice, asM_map, asTup0, asTup1, asTup2, asTup3, asTup4, asTup5, asTup6, asTup7, asTup8, asTup9, asAgg2, asAgg3, asAgg4, asAgg5, asAgg6, asAgg7, asAgg8, asAgg9, asAgg12, getD0, getD1, getD2, getD3, getD4, getD5, getD6, getD7, getD8, getD9, getD10, getD11, getD12, getD13, getD14, getD15, getD16, getD17, getD18, getD19, Bool.not_true, Bool.not_false, Bool.false_eq_true, Bool.true_eq_false, ↓reduceIte, decide_true, decide_false, Option.isNone_some, Option.isNone_none, Option.isSome_some, Option.isSome_none, beq_self_eq_true, bne_self_eq_false, Bool.and_true, Bool.true_and, Bool.and_false, Bool.false_and, not_true_eq_false, not_false_eq_true]
      have k2 : decide (m > (es[i].q.2.1 : Int)) = false := by simp only [m1, decide_false]
      obtain ⟨c, rfl⟩ : ∃ c : Nat, m = (c : Int) := ⟨m.toNat, by omega⟩
      have hs : cutA (es.map RE.ab) false n (c : Int) = (0, kups (es.map RE.ab) n (cutF c)) := by
        unfold cutA; rw [if_neg (by decide), hg]; exact if_neg (show ¬ ((c : Int) < 0 ∨ (c : Int) > (es[i].data.length : Int)) by rw [okl]; omega)
      rw [hs, hu]
      have hcl : c ≤ es[i].data.length := by omega
      obtain ⟨qs, es1, hqs, _⟩ := slc_hi ok.own.slI (j := c) hcl ok.own.le
      have hus := h.us
      have hug := used_setR (A := es.map RE.ab) (k := i) hi (es[i].name, es[i].data.take c, 0)
      have hdl : es[i].data.length ≤ 4194304 := by
        have e2 := used_perm (get_perm hi)
        rw [used_cons, List.getElem_map] at e2
        have e3 : (RE.ab es[i]).2.1.length = es[i].data.length := rfl
        omega
      obtain ⟨qn, w1, e2, o1, f1, n1, _⟩ := app_nil t28 hqs.slC (by intro y hy; obtain ⟨z, _, rfl⟩ := List.mem_map.mp hy; rfl) (by have := hqs.1; simp at this; omega) (by have := hqs.1; simp at this; omega) 28 #[false, false]
      have h1 := h.fr f1 (by simp)
      obtain ⟨g', off', hq', hix', _, hc', hst'⟩ := re_at h1.own hi'
      obtain ⟨rfl, rfl⟩ : g = g' ∧ off = off' := by rw [hq] at hq'; simp at hq'; exact hq'
      obtain ⟨w2, s2, o2, f2⟩ := hst' 1 (by decide) ⟨es[i].name, qn, es[i].data.take c, es[i].syn⟩ (.slice qn.1 qn.2.1 qn.2.2) rfl rfl
      have hi2 : i < (es.set i ⟨es[i].name, qn, es[i].data.take c, es[i].syn⟩).length := by simpa using hi'
      obtain ⟨g', off', hq', hix2, _, hc2, hst2⟩ := re_at o2 hi2
      obtain ⟨rfl, rfl⟩ : g = g' ∧ off = off' := by rw [hq] at hq'; simp at hq'; exact hq'
      rw [List.getElem_set_self] at hc2 hst2
      have c2 : w2.cell? ⟨g, off + i * 3 + 2, none⟩ = some (.int .i64 (es[i].syn : Int)) := by have := hc2 2 (by decide); simpa [RE.cs] using this
      have zs2 : Zs (es[i].data.take c) := fun z hz => ok.zs z (List.mem_of_mem_take hz)
      have oq : Own w2 5 1 qn ((es[i].data.take c).map (Value.int .u8)) := o1.fr f2 (o1.apart h1.own (by decide))
      have F2 : Fr (blkOf qf) w w2 := (f1.app f2).mono (by intro y hy _; simpa using hy)
      have b2 : w2.cell? ⟨b, 0, none⟩ = some (.slice qf.1 qf.2.1 qf.2.2) := (h.blk.fr F2 (h.blk.notin h.own (by decide))).cell 0
      have hlen : ∀ s : Nat, used ((es.set i ⟨es[i].name, qn, es[i].data.take c, s⟩).map RE.ab) ≤ 4194304 := by
        intro s
        have := used_setR (A := es.map RE.ab) (k := i) hi (RE.ab ⟨es[i].name, qn, es[i].data.take c, s⟩)
        rw [← List.map_set] at this
        have hh := h.us
        simp only [List.getElem_map, RE.ab, List.length_take] at this
        omega
      by_cases ms : (es[i].syn : Int) > (c : Int)
      · have k3 : decide ((es[i].syn : Int) > (c : Int)) = true := by simp only [ms, decide_true]
        obtain ⟨w3, s3, o3, f3⟩ := hst2 2 (by decide) ⟨es[i].name, qn, es[i].data.take c, c⟩ (.int .i64 (c : Int)) rfl rfl
        rw [List.set_set] at o3
        have F3 : Fr (blkOf qf) w w3 := (F2.app f3).mono (by intro y hy _; simpa using hy)
        obtain ⟨hR, hC⟩ := h.upd hi' ⟨es[i].name, qn, es[i].data.take c, c⟩ F3 (fun y hy => .inl hy) o3 (oq.fr f3 (oq.apart o2 (by decide))) zs2 (fun y hy => .inr (n1 y hy)) (hlen c)
        refine ⟨_, _, w3, g30_call ?_, hR, ?_, hC⟩
        · unfold g30
          simp only [e1, k, k1, h.c0, hix, addr_add, c1, k2, es1, e2, h1.c0, hix', s2, b2, hix2, c2, k3, s3, obs, asP_pointer, asB_bool, asI_int, asS_string, asSl_slice, asM_map, asTup0, asTup1, asTup2, asTup3, asTup4, asTup5, asTup6, asTup7, asTup8, asTup9, asAgg2, asAgg3, asAgg4, asAgg5, asAgg6, asAgg7, asAgg8, asAgg9, asAgg12, getD0, getD1, getD2, getD3, getD4, getD5, getD6, getD7, getD8, getD9, getD10, getD11, getD12, getD13, getD14, getD15, getD16, getD17, getD18, getD19, Bool.not_true, Bool.not_false, Bool.false_eq_true, Bool.true_eq_false, ↓reduceIte, decide_true, decide_false, Option.isNone_some, Option.isNone_none, Option.isSome_some, Option.isSome_none, beq_self_eq_true, bne_self_eq_false, Bool.and_true, Bool.true_and, Bool.and_false, Bool.false_and, not_true_eq_false, not_false_eq_true]
        · rw [List.map_set]
          congr 1
          rw [abs_get hi']
          simp only [RE.ab, cutF] at hn ⊢
          rw [hn, Nat.min_eq_right (by omega)]
      · have k3 : decide ((es[i].syn : Int) > (c : Int)) = false := by simp only [ms, decide_false]
        obtain ⟨hR, hC⟩ := h.upd hi' ⟨es[i].name, qn, es[i].data.take c, es[i].syn⟩ F2 (fun y hy => .inl hy) o2 oq zs2 (fun y hy => .inr (n1 y hy)) (hlen _)
        refine ⟨_, _, w2, g30_call ?_, hR, ?_, hC⟩
        · unfold g30
          simp only [e1, k, k1, h.c0, hix, addr_add, c1, k2, es1, e2, h1.c0, hix', s2, b2, hix2, c2, k3, obs, asP_pointer, asB_bool, asI_int, asS_string, asSl_slice, asM_map, asTup0, asTup1, asTup2, asTup3, asTup4, asTup5, asTup6, asTup7, asTup8, asTup9, asAgg2, asAgg3, asAgg4, asAgg5, asAgg6, asAgg7, asAgg8, asAgg9, asAgg12, getD0, getD1, getD2, getD3, getD4, getD5, getD6, getD7, getD8, getD9, getD10, getD11, getD12, getD13, getD14, getD15, getD16, getD17, getD18, getD19, Bool.not_true, Bool.not_false, Bool.false_eq_true, Bool.true_eq_false, ↓reduceIte, decide_true, decide_false, Option.isNone_some, Option.isNone_none, Option.isSome_some, Option.isSome_none, beq_self_eq_true, bne_self_eq_false, Bool.and_true, Bool.true_and, Bool.and_false, Bool.false_and, not_true_eq_false, not_false_eq_true]
        · rw [List.map_set]
          congr 1
          rw [abs_get hi']
          simp only [RE.ab, cutF] at hn ⊢
          rw [hn, Nat.min_eq_left (by omega)]

theorem erase_map {i : Nat} (l : List RE) : (l.take i ++ l.drop (i + 1)).map RE.ab = (l.map RE.ab).eraseIdx i := by
  rw [List.eraseIdx_eq_take_drop_succ]; simp

theorem remove31 (h : RD w E b qf es fuse dead) (hk : kone (es.map RE.ab)) (n : ByteArray) :
    ∃ (E' : Nat → Prop) (qn : ShS) (es' : List RE) (w' : World), callF Try.prog 31 #[.pointer (some ⟨b, 0, none⟩), .string n] w = some (.int .i64 (removeA (es.map RE.ab) dead n).1, w') ∧ RD w' E' b qn es' fuse dead ∧ es'.map RE.ab = (removeA (es.map RE.ab) dead n).2 ∧ Chg E w w' E' := by
  have e1 := find40 h n
  cases dead with
  | true =>
    refine ⟨E, qf, es, w, g31_call ?_, h, rfl, Chg.refl _ _⟩
    have k : ((9 : Int) == 0) = false := rfl
    simp only [if_true] at e1
    unfold g31
    simp only [e1, k, obs, asP_pointer, asB_bool, asI_int, asS_string, asSl_slice, asM_map, asTup0, asTup1, asTup2, asTup3, asTup4, asTup5, asTup6, asTup7, asTup8, asTup9, asAgg2, asAgg3, asAgg4, asAgg5, asAgg6, asAgg7, asAgg8, asAgg9, asAgg12, getD0, getD1, getD2, getD3, getD4, getD5, getD6, getD7, getD8, getD9, getD10, getD11, getD12, getD13, getD14, getD15, getD16, getD17, getD18, getD19, Bool.not_true, Bool.not_false, Bool.false_eq_true, Bool.true_eq_false, ↓reduceIte, decide_true, decide_false, Option.isNone_some, Option.isNone_none, Option.isSome_some, Option.isSome_none, beq_self_eq_true, bne_self_eq_false, Bool.and_true, Bool.true_and, Bool.and_false, Bool.false_and, not_true_eq_false, not_false_eq_true]
    rfl
  | false =>
    simp only [Bool.false_eq_true, if_false] at e1
    rcases atN_cases (es.map RE.ab) hk n with ⟨ha, hg, _⟩ | ⟨i, hi, ha, hn, hg, _, hu⟩
    · have hs : removeA (es.map RE.ab) false n = (4, es.map RE.ab) := by unfold removeA; rw [if_neg (by decide), hg]
      rw [hs]
      rw [ha, if_pos (by decide)] at e1
      refine ⟨E, qf, es, w, g31_call ?_, h, rfl, Chg.refl _ _⟩
      have k : ((4 : Int) == 0) = false := rfl
      unfold g31
      simp only [e1, k, obs, asP_pointer, asB_bool, asI_int, asS_string, asSl_slice, asM_map, asTup0, asTup1, asTup2, asTup3, asTup4, asTup5, asTup6, asTup7, asTup8, asTup9, asAgg2, asAgg3, asAgg4, asAgg5, asAgg6, asAgg7, asAgg8, asAgg9, asAgg12, getD0, getD1, getD2, getD3, getD4, getD5, getD6, getD7, getD8, getD9, getD10, getD11, getD12, getD13, getD14, getD15, getD16, getD17, getD18, getD19, Bool.not_true, Bool.not_false, Bool.false_eq_true, Bool.true_eq_false, ↓reduceIte, decide_true, decide_false, Option.isNone_some, Option.isNone_none, Option.isSome_some, Option.isSome_none, beq_self_eq_true, bne_self_eq_false, Bool.and_true, Bool.true_and, Bool.and_false, Bool.false_and, not_true_eq_false, not_false_eq_true]
    · have hi' : i < es.length := by simpa using hi
      have hs : removeA (es.map RE.ab) false n = (0, kdel (es.map RE.ab) n) := by unfold removeA; rw [if_neg (by decide), hg]
      rw [hs, hu]
      rw [ha, if_neg (by omega)] at e1
      have k : ((0 : Int) == 0) = true := rfl
      obtain ⟨qn, w', e2, hR, hF⟩ := take41 h hi'
      refine ⟨_, qn, _, w', g31_call ?_, hR, erase_map es, chg_row h hF⟩
      unfold g31
      simp only [e1, k, e2, obs, asP_pointer, asB_bool, asI_int, asS_string, asSl_slice, asM_map, asTup0, asTup1, asTup2, asTup3, asTup4, asTup5, asTup6, asTup7, asTup8, asTup9, asAgg2, asAgg3, asAgg4, asAgg5, asAgg6, asAgg7, asAgg8, asAgg9, asAgg12, getD0, getD1, getD2, getD3, getD4, getD5, getD6, getD7, getD8, getD9, getD10, getD11, getD12, getD13, getD14, getD15, getD16, getD17, getD18, getD19, Bool.not_true, Bool.not_false, Bool.false_eq_true, Bool.true_eq_false, ↓reduceIte, decide_true, decide_false, Option.isNone_some, Option.isNone_none, Option.isSome_some, Option.isSome_none, beq_self_eq_true, bne_self_eq_false, Bool.and_true, Bool.true_and, Bool.and_false, Bool.false_and, not_true_eq_false, not_false_eq_true]

theorem arm33 (h : RD w E b qf es fuse dead) (m : Int) :
    ∃ w', callF Try.prog 33 #[.pointer (some ⟨b, 0, none⟩), .int .i64 m] w = some (.tuple #[], w') ∧ RD w' E b qf es (armA fuse dead m) dead ∧ Chg E w w' E := by
  cases dead with
  | true =>
    refine ⟨w, g33_call ?_, h, Chg.refl _ _⟩
    unfold g33
    simp only [addr_add, Nat.zero_add, h.c2, obs, asP_pointer, asB_bool, asI_int, asS_string, asSl_slice, asM_map, asTup0, asTup1, asTup2, asTup3, asTup4, asTup5, asTup6, asTup7, asTup8, asTup9, asAgg2, asAgg3, asAgg4, asAgg5, asAgg6, asAgg7, asAgg8, asAgg9, asAgg12, getD0, getD1, getD2, getD3, getD4, getD5, getD6, getD7, getD8, getD9, getD10, getD11, getD12, getD13, getD14, getD15, getD16, getD17, getD18, getD19, Bool.not_true, Bool.not_false, Bool.false_eq_true, Bool.true_eq_false, ↓reduceIte, decide_true, decide_false, Option.isNone_some, Option.isNone_none, Option.isSome_some, Option.isSome_none, beq_self_eq_true, bne_self_eq_false, Bool.and_true, Bool.true_and, Bool.and_false, Bool.false_and, not_true_eq_false, not_false_eq_true]
  | false =>
    have set1 : ∀ x : Int, ∃ w', st1 w ⟨b, 1, none⟩ (.int .i64 x) = some w' ∧ RD w' E b qf es x false ∧ Chg E w w' E := by
      intro x
      have s := h.blk.st1 (i := 1) (v := .int .i64 x) (by simp) rfl
      have f : Fr [b] w (w.setCell ⟨b, 1, none⟩ (.int .i64 x)) := Fr.setCell
      refine ⟨_, s, ⟨h.blk.set 1 (.int .i64 x), h.own.fr f (fun y hy hm => by simp at hm; subst hm; exact h.blk.notin h.own (by decide) hy), fun g hg => (h.ok g hg).fr f (fun y hy hm => by simp at hm; subst hm; exact h.blk.notin (h.ok g hg).own (by decide) hy) (fun _ => id), h.ap, h.eb, h.rq, fun y hy => by have := h.lt y hy; have := f.size; omega, h.us, h.le⟩, ⟨⟨[b], f, fun y hy => by simp at hy; subst hy; exact h.eb⟩, fun _ => id, fun _ => .inl⟩⟩
    by_cases m0 : m < 0
    · obtain ⟨w', s, hR, hC⟩ := set1 (-1)
      have k1 : decide (m < 0) = true := by simp only [m0, decide_true]
      have : armA fuse false m = -1 := by unfold armA; rw [if_neg (by decide)]; split <;> omega
      rw [this]
      refine ⟨w', g33_call ?_, hR, hC⟩
      unfold g33
      simp only [addr_add, Nat.zero_add, h.c2, k1, obs, asP_pointer, asB_bool, asI_int, asS_string, asSl_slice, asM_map, asTup0, asTup1, asTup2, asTup3, asTup4, asTup5, asTup6, asTup7, asTup8, asTup9, asAgg2, asAgg3, asAgg4, asAgg5, asAgg6, asAgg7, asAgg8, asAgg9, asAgg12, getD0, getD1, getD2, getD3, getD4, getD5, getD6, getD7, getD8, getD9, getD10, getD11, getD12, getD13, getD14, getD15, getD16, getD17, getD18, getD19, Bool.not_true, Bool.not_false, Bool.false_eq_true, Bool.true_eq_false, ↓reduceIte, decide_true, decide_false, Option.isNone_some, Option.isNone_none, Option.isSome_some, Option.isSome_none, beq_self_eq_true, bne_self_eq_false, Bool.and_true, Bool.true_and, Bool.and_false, Bool.false_and, not_true_eq_false, not_false_eq_true]
      unfold g33_j4
      simp only [addr_add, Nat.zero_add, s, obs, asP_pointer, asB_bool, asI_int, asS_string, asSl_slice, asM_map, asTup0, asTup1, asTup2, asTup3, asTup4, asTup5, asTup6, asTup7, asTup8, asTup9, asAgg2, asAgg3, asAgg4, asAgg5, asAgg6, asAgg7, asAgg8, asAgg9, asAgg12, getD0, getD1, getD2, getD3, getD4, getD5, getD6, getD7, getD8, getD9, getD10, getD11, getD12, getD13, getD14, getD15, getD16, getD17, getD18, getD19, Bool.not_true, Bool.not_false, Bool.false_eq_true, Bool.true_eq_false, ↓reduceIte, decide_true, decide_false, Option.isNone_some, Option.isNone_none, Option.isSome_some, Option.isSome_none, beq_self_eq_true, bne_self_eq_false, Bool.and_true, Bool.true_and, Bool.and_false, Bool.false_and, not_true_eq_false, not_false_eq_true]
    · obtain ⟨w', s, hR, hC⟩ := set1 m
      have k1 : decide (m < 0) = false := by simp only [m0, decide_false]
      have : armA fuse false m = m := by unfold armA; rw [if_neg (by decide)]; split <;> omega
      rw [this]
      refine ⟨w', g33_call ?_, hR, hC⟩
      unfold g33
      simp only [addr_add, Nat.zero_add, h.c2, k1, obs, asP_pointer, asB_bool, asI_int, asS_string, asSl_slice, asM_map, asTup0, asTup1, asTup2, asTup3, asTup4, asTup5, asTup6, asTup7, asTup8, asTup9, asAgg2, asAgg3, asAgg4, asAgg5, asAgg6, asAgg7, asAgg8, asAgg9, asAgg12, getD0, getD1, getD2, getD3, getD4, getD5, getD6, getD7, getD8, getD9, getD10, getD11, getD12, getD13, getD14, getD15, getD16, getD17, getD18, getD19, Bool.not_true, Bool.not_false, Bool.false_eq_true, Bool.true_eq_false, ↓reduceIte, decide_true, decide_false, Option.isNone_some, Option.isNone_none, Option.isSome_some, Option.isSome_none, beq_self_eq_true, bne_self_eq_false, Bool.and_true, Bool.true_and, Bool.and_false, Bool.false_and, not_true_eq_false, not_false_eq_true]
      unfold g33_j4
      simp only [addr_add, Nat.zero_add, s, obs, asP_pointer, asB_bool, asI_int, asS_string, asSl_slice, asM_map, asTup0, asTup1, asTup2, asTup3, asTup4, asTup5, asTup6, asTup7, asTup8, asTup9, asAgg2, asAgg3, asAgg4, asAgg5, asAgg6, asAgg7, asAgg8, asAgg9, asAgg12, getD0, getD1, getD2, getD3, getD4, getD5, getD6, getD7, getD8, getD9, getD10, getD11, getD12, getD13, getD14, getD15, getD16, getD17, getD18, getD19, Bool.not_true, Bool.not_false, Bool.false_eq_true, Bool.true_eq_false, ↓reduceIte, decide_true, decide_false, Option.isNone_some, Option.isNone_none, Option.isSome_some, Option.isSome_none, beq_self_eq_true, bne_self_eq_false, Bool.and_true, Bool.true_and, Bool.and_false, Bool.false_and, not_true_eq_false, not_false_eq_true]
end
end Go.Proofs.Ytkmidlhnlnolnaa
