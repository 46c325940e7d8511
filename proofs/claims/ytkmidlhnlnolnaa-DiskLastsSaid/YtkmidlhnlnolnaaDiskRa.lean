/-
  DiskRa: lemmas on what Go functions of this seat come to (for whatever arguments, as each says). No condition but those that stand in each lemma.
-/
import Derived.Test.YtkmidlhnlnolnaaDiskZ
namespace Go.Proofs.Ytkmidlhnlnolnaa
open Go Go.Ev
set_option maxRecDepth 100000
set_option linter.unusedVariables false
set_option linter.unusedSimpArgs false

section
variable {w : World} {E : Nat → Prop} {b : Nat} {qf : ShS} {es : List RE} {fuse : Int} {dead : Bool}

theorem kone_del' {A : List (ByteArray × FV)} (h : kone A) (n : ByteArray) : kone (kdel A n) := kone_del h

/-- the new name is laid -/
theorem lay32 {w1 : World} {E1 : Nat → Prop} {q1 : ShS} {es1 : List RE} (h1 : RD w1 E1 b q1 es1 fuse false) (hk : kone (es1.map RE.ab)) (f : RE) (hf : REok w1 E1 f) (hd : ∀ g ∈ es1, Dis f g) (hus : used ((f :: es1).map RE.ab) ≤ 4194304) (hle : es1.length < 4096) (t : ByteArray) (r7 : Value × World)
    {cs : List Value} (hB : Blk w1 r7.2.heap.size cs 53) (hcs : cs[1]? = some (.slice f.q.1 f.q.2.1 f.q.2.2)) (hft : f.name = t) (hfs : f.syn = f.q.2.1) :
    ∃ (E' : Nat → Prop) (qn : ShS) (es' : List RE) (w' : World), g32_j13 r7 (some ⟨b, 0, none⟩) t w1 = some (.int .i64 0, w') ∧ RD w' E' b qn es' fuse false ∧ es'.Perm (f :: es1) ∧ Chg E1 w1 w' E' := by
  have c1 : w1.cell? ⟨r7.2.heap.size, 1, none⟩ = some (.slice f.q.1 f.q.2.1 f.q.2.2) := by rw [hB.cell 1]; exact hcs
  obtain ⟨qn, w', es', e, hp, hR, hF⟩ := put39 h1 f hf hd hus hle
  rw [hft, hfs] at e
  refine ⟨_, qn, es', w', ?_, hR, hp, chg_row h1 hF⟩
  unfold g32_j13
  simp only [addr_add, Nat.zero_add, c1, e, obs, asP_pointer, asB_bool, asI_int, asS_string, asSl_slice, asM_map, asTup0, asTup1, asTup2, asTup3, asTup4, asTup5, asTup6, asTup7, asTup8, asTup9, asAgg2, asAgg3, asAgg4, asAgg5, asAgg6, asAgg7, asAgg8, asAgg9, asAgg12, getD0, getD1, getD2, getD3, getD4, getD5, getD6, getD7, getD8, getD9, getD10, getD11, getD12, getD13, getD14, getD15, getD16, getD17, getD18, getD19, Bool.not_true, Bool.not_false, Bool.false_eq_true, Bool.true_eq_false, ↓reduceIte, decide_true, decide_false, Option.isNone_some, Option.isNone_none, Option.isSome_some, Option.isSome_none, beq_self_eq_true, bne_self_eq_false, Bool.and_true, Bool.true_and, Bool.and_false, Bool.false_and, not_true_eq_false, not_false_eq_true]

theorem rename32 (h : RD w E b qf es fuse dead) (hk : kone (es.map RE.ab)) (n t : ByteArray) :
    ∃ (E' : Nat → Prop) (qn : ShS) (es' : List RE) (w' : World), callF Try.prog 32 #[.pointer (some ⟨b, 0, none⟩), .string n, .string t] w = some (.int .i64 (renameA (es.map RE.ab) dead n t).1, w') ∧ RD w' E' b qn es' fuse dead ∧ (es'.map RE.ab).Perm (renameA (es.map RE.ab) dead n t).2 ∧ Chg E w w' E' := by
  have e1 := find40 h n
  cases dead with
  | true =>
    refine ⟨E, qf, es, w, g32_call ?_, h, List.Perm.refl _, Chg.refl _ _⟩
    have k : ((9 : Int) != 0) = true := rfl
    simp only [if_true] at e1
    unfold g32
    simp only [e1, k, obs, asP_pointer, asB_bool, asI_int, asS_string, asSl_slice, asM_map, asTup0, asTup1, asTup2, asTup3, asTup4, asTup5, asTup6, asTup7, asTup8, asTup9, asAgg2, asAgg3, asAgg4, asAgg5, asAgg6, asAgg7, asAgg8, asAgg9, asAgg12, getD0, getD1, getD2, getD3, getD4, getD5, getD6, getD7, getD8, getD9, getD10, getD11, getD12, getD13, getD14, getD15, getD16, getD17, getD18, getD19, Bool.not_true, Bool.not_false, Bool.false_eq_true, Bool.true_eq_false, ↓reduceIte, decide_true, decide_false, Option.isNone_some, Option.isNone_none, Option.isSome_some, Option.isSome_none, beq_self_eq_true, bne_self_eq_false, Bool.and_true, Bool.true_and, Bool.and_false, Bool.false_and, not_true_eq_false, not_false_eq_true]
    rfl
  | false =>
    simp only [Bool.false_eq_true, if_false] at e1
    rcases atN_cases (es.map RE.ab) hk n with ⟨ha, hg, _⟩ | ⟨i, hi, ha, hn, hg, _, hu⟩
    · have hs : renameA (es.map RE.ab) false n t = (4, es.map RE.ab) := by unfold renameA; rw [if_neg (by decide), hg]
      rw [hs]
      rw [ha, if_pos (by decide)] at e1
      refine ⟨E, qf, es, w, g32_call ?_, h, List.Perm.refl _, Chg.refl _ _⟩
      have k : ((4 : Int) != 0) = true := rfl
      unfold g32
      simp only [e1, k, obs, asP_pointer, asB_bool, asI_int, asS_string, asSl_slice, asM_map, asTup0, asTup1, asTup2, asTup3, asTup4, asTup5, asTup6, asTup7, asTup8, asTup9, asAgg2, asAgg3, asAgg4, asAgg5, asAgg6, asAgg7, asAgg8, asAgg9, asAgg12, getD0, getD1, getD2, getD3, getD4, getD5, getD6, getD7, getD8, getD9, getD10, getD11, getD12, getD13, getD14, getD15, getD16, getD17, getD18, getD19, Bool.not_true, Bool.not_false, Bool.false_eq_true, Bool.true_eq_false, ↓reduceIte, decide_true, decide_false, Option.isNone_some, Option.isNone_none, Option.isSome_some, Option.isSome_none, beq_self_eq_true, bne_self_eq_false, Bool.and_true, Bool.true_and, Bool.and_false, Bool.false_and, not_true_eq_false, not_false_eq_true]
    · have hi' : i < es.length := by simpa using hi
      rw [abs_get hi'] at hg hn
      rw [ha, if_neg (by omega)] at e1
      have k : ((0 : Int) != 0) = false := rfl
      by_cases t1 : t.size < 1
      · have hs : renameA (es.map RE.ab) false n t = (1, es.map RE.ab) := by unfold renameA; rw [if_neg (by decide), hg]; exact if_pos (Or.inl (by omega))
        rw [hs]
        have k1 : decide ((t.size : Int) < 1) = true := by simp; omega
        refine ⟨E, qf, es, w, g32_call ?_, h, List.Perm.refl _, Chg.refl _ _⟩
        unfold g32
        simp only [e1, k, k1, obs, asP_pointer, asB_bool, asI_int, asS_string, asSl_slice, asM_map, asTup0, asTup1, asTup2, asTup3, asTup4, asTup5, asTup6, asTup7, asTup8, asTup9, asAgg2, asAgg3, asAgg4, asAgg5, asAgg6, asAgg7, asAgg8, asAgg9, asAgg12, getD0, getD1, getD2, getD3, getD4, getD5, getD6, getD7, getD8, getD9, getD10, getD11, getD12, getD13, getD14, getD15, getD16, getD17, getD18, getD19, Bool.not_true, Bool.not_false, Bool.false_eq_true, Bool.true_eq_false, ↓reduceIte, decide_true, decide_false, Option.isNone_some, Option.isNone_none, Option.isSome_some, Option.isSome_none, beq_self_eq_true, bne_self_eq_false, Bool.and_true, Bool.true_and, Bool.and_false, Bool.false_and, not_true_eq_false, not_false_eq_true]
      have k1 : decide ((t.size : Int) < 1) = false := by simp; omega
      by_cases t2 : t.size > 24
      · have hs : renameA (es.map RE.ab) false n t = (1, es.map RE.ab) := by unfold renameA; rw [if_neg (by decide), hg]; exact if_pos (Or.inr t2)
        rw [hs]
        have k2 : decide ((t.size : Int) > 24) = true := by simp; omega
        refine ⟨E, qf, es, w, g32_call ?_, h, List.Perm.refl _, Chg.refl _ _⟩
        unfold g32
        simp only [e1, k, k1, k2, obs, asP_pointer, asB_bool, asI_int, asS_string, asSl_slice, asM_map, asTup0, asTup1, asTup2, asTup3, asTup4, asTup5, asTup6, asTup7, asTup8, asTup9, asAgg2, asAgg3, asAgg4, asAgg5, asAgg6, asAgg7, asAgg8, asAgg9, asAgg12, getD0, getD1, getD2, getD3, getD4, getD5, getD6, getD7, getD8, getD9, getD10, getD11, getD12, getD13, getD14, getD15, getD16, getD17, getD18, getD19, Bool.not_true, Bool.not_false, Bool.false_eq_true, Bool.true_eq_false, ↓reduceIte, decide_true, decide_false, Option.isNone_some, Option.isNone_none, Option.isSome_some, Option.isSome_none, beq_self_eq_true, bne_self_eq_false, Bool.and_true, Bool.true_and, Bool.and_false, Bool.false_and, not_true_eq_false, not_false_eq_true]
      have k2 : decide ((t.size : Int) > 24) = false := by simp; omega
      have hs0 : ∀ x, x = (if n = t then (0, es.map RE.ab) else (0, kups (kdel (es.map RE.ab) n) t (renF es[i].ab.2))) → renameA (es.map RE.ab) false n t = x := by
        intro x hx; rw [hx]; unfold renameA; rw [if_neg (by decide), hg]; exact if_neg (by omega)
      by_cases t3 : n = t
      · rw [hs0 _ (if_pos t3).symm]
        have k3 : (n.toList == t.toList) = true := by rw [str_eq]; exact decide_eq_true t3
        refine ⟨E, qf, es, w, g32_call ?_, h, List.Perm.refl _, Chg.refl _ _⟩
        unfold g32
        simp only [e1, k, k1, k2, k3, obs, asP_pointer, asB_bool, asI_int, asS_string, asSl_slice, asM_map, asTup0, asTup1, asTup2, asTup3, asTup4, asTup5, asTup6, asTup7, asTup8, asTup9, asAgg2, asAgg3, asAgg4, asAgg5, asAgg6, asAgg7, asAgg8, asAgg9, asAgg12, getD0, getD1, getD2, getD3, getD4, getD5, getD6, getD7, getD8, getD9, getD10, getD11, getD12, getD13, getD14, getD15, getD16, getD17, getD18, getD19, Bool.not_true, Bool.not_false, Bool.false_eq_true, Bool.true_eq_false, ↓reduceIte, decide_true, decide_false, Option.isNone_some, Option.isNone_none, Option.isSome_some, Option.isSome_none, beq_self_eq_true, bne_self_eq_false, Bool.and_true, Bool.true_and, Bool.and_false, Bool.false_and, not_true_eq_false, not_false_eq_true]
      have k3 : (n.toList == t.toList) = false := by rw [str_eq]; exact decide_eq_false t3
      rw [hs0 _ (if_neg t3).symm, hu]
      have okI := h.ok _ (List.getElem_mem hi')
      have okl := okI.own.len
      simp at okl
      obtain ⟨q2, w2, e2, h2, F2⟩ := take41 h hi'
      obtain ⟨rest, hrest⟩ : ∃ rest, es.take i ++ es.drop (i + 1) = rest := ⟨_, rfl⟩
      have hem : rest.map RE.ab = (es.map RE.ab).eraseIdx i := by rw [← hrest]; exact erase_map es
      rw [hrest] at h2
      have C2 := chg_row h F2
      have hbE := h.lt b h.eb
      have z2 := F2.size
      obtain ⟨w3, s3, b3, f3⟩ := newRE w2 es[i]
      have h3 := h2.fr f3 (by simp)
      -- the taken file's cells
      have F23 : Fr [b] w w3 := (F2.app f3).mono (by intro y hy _; simpa using hy)
      have okI3 : REok w3 (fun y => E y ∨ w.heap.size ≤ y ∧ y < w2.heap.size) es[i] := okI.fr F23 (fun y hy hm => by simp at hm; subst hm; exact h.blk.notin okI.own (by decide) hy) (fun y hy => .inl hy)
      have hk3 : kone (rest.map RE.ab) := by rw [hem, ← hu]; exact kone_del' hk n
      have hpw := List.pairwise_iff_getElem.mp h.ap
      have hdis : ∀ g ∈ rest, Dis es[i] g := by
        have hp : es.Perm (es[i] :: rest) := by
          have := get_perm hi'
          rwa [List.eraseIdx_eq_take_drop_succ, hrest] at this
        have := (hp.pairwise_iff (fun {a b} => Dis.symm)).mp h.ap
        exact fun g hg => (List.pairwise_cons.mp this).1 g hg
      have husI : used (rest.map RE.ab) + es[i].data.length ≤ 4194304 := by
        have hp := used_perm (get_perm hi)
        rw [used_cons, List.getElem_map] at hp
        have e3 : (RE.ab es[i]).2.1.length = es[i].data.length := rfl
        rw [hem]
        have := h.us
        omega
      have hlenI : rest.length < 4096 := by
        have := h.le
        rw [← hrest, List.length_append, List.length_take, List.length_drop]; omega
      have e4 := at37 h3 t
      have cs1 : es[i].cs[1]? = some (.slice es[i].q.1 es[i].q.2.1 es[i].q.2.2) := rfl
      have hrn : RE.ab ⟨t, es[i].q, es[i].data, es[i].q.2.1⟩ = (t, renF es[i].ab.2 none) := by simp [RE.ab, renF, okl]
      have C3 : Chg E w w3 (fun y => E y ∨ w.heap.size ≤ y ∧ y < w2.heap.size) := ⟨⟨[b], F23, fun y hy => by simp at hy; subst hy; exact h.eb⟩, C2.up, C2.new⟩
      have pre : ∀ r, ((asI .i64 (.int .i64 (atN (rest.map RE.ab) t))).bind fun n15 =>
          if (decide ((n15 : Int) ≥ 0)) = true then
          ((callF Try.prog 41 #[.pointer (some ⟨b, 0, none⟩), .int .i64 n15] w3).bind fun r16 =>
          (Ev.asAgg 3 r16.1).bind fun l17 =>
          (asS (l17.getD 0 undef)).bind fun s18 =>
          (asSl (l17.getD 1 undef)).bind fun q19 =>
          (asI .i64 (l17.getD 2 undef)).bind fun n20 =>
          g32_j13 (.agg #[.string es[i].name, .slice es[i].q.1 es[i].q.2.1 es[i].q.2.2, .int .i64 (es[i].syn : Int)], w2) (some ⟨b, 0, none⟩) t r16.2)
          else g32_j13 (.agg #[.string es[i].name, .slice es[i].q.1 es[i].q.2.1 es[i].q.2.2, .int .i64 (es[i].syn : Int)], w2) (some ⟨b, 0, none⟩) t w3) = some r → callF Try.prog 32 #[.pointer (some ⟨b, 0, none⟩), .string n, .string t] w = some r := by
        intro r hr
        refine g32_call ?_
        unfold g32
        simp only [e1, k, k1, k2, k3, e2, s3, e4, obs, asP_pointer, asB_bool, asI_int, asS_string, asSl_slice, asM_map, asTup0, asTup1, asTup2, asTup3, asTup4, asTup5, asTup6, asTup7, asTup8, asTup9, asAgg2, asAgg3, asAgg4, asAgg5, asAgg6, asAgg7, asAgg8, asAgg9, asAgg12, getD0, getD1, getD2, getD3, getD4, getD5, getD6, getD7, getD8, getD9, getD10, getD11, getD12, getD13, getD14, getD15, getD16, getD17, getD18, getD19, Bool.not_true, Bool.not_false, Bool.false_eq_true, Bool.true_eq_false, ↓reduceIte, decide_true, decide_false, Option.isNone_some, Option.isNone_none, Option.isSome_some, Option.isSome_none, beq_self_eq_true, bne_self_eq_false, Bool.and_true, Bool.true_and, Bool.and_false, Bool.false_and, not_true_eq_false, not_false_eq_true]
        simpa only [asI_int, obs] using hr
      rcases atN_cases (rest.map RE.ab) hk3 t with ⟨ha4, hg4, hu4, _⟩ | ⟨j, hj, ha4, hn4, hg4, hu4, _⟩
      · obtain ⟨E', qn, es', w', e5, hR, hp, hC⟩ := lay32 h3 hk3 ⟨t, es[i].q, es[i].data, es[i].q.2.1⟩ ⟨okI3.own, okI3.zs, okI3.reg⟩ hdis (by
          rw [List.map_cons, used_cons]; have : (RE.ab ⟨t, es[i].q, es[i].data, es[i].q.2.1⟩).2.1.length = es[i].data.length := rfl; omega) hlenI t (.agg #[.string es[i].name, .slice es[i].q.1 es[i].q.2.1 es[i].q.2.2, .int .i64 (es[i].syn : Int)], w2) b3 cs1 rfl rfl
        refine ⟨E', qn, es', w', pre _ ?_, hR, ?_, C3.trans hC h.lt⟩
        · rw [ha4]
          have k4 : decide ((-1 : Int) ≥ 0) = false := rfl
          simp only [k4, obs, asP_pointer, asB_bool, asI_int, asS_string, asSl_slice, asM_map, asTup0, asTup1, asTup2, asTup3, asTup4, asTup5, asTup6, asTup7, asTup8, asTup9, asAgg2, asAgg3, asAgg4, asAgg5, asAgg6, asAgg7, asAgg8, asAgg9, asAgg12, getD0, getD1, getD2, getD3, getD4, getD5, getD6, getD7, getD8, getD9, getD10, getD11, getD12, getD13, getD14, getD15, getD16, getD17, getD18, getD19, Bool.not_true, Bool.not_false, Bool.false_eq_true, Bool.true_eq_false, ↓reduceIte, decide_true, decide_false, Option.isNone_some, Option.isNone_none, Option.isSome_some, Option.isSome_none, beq_self_eq_true, bne_self_eq_false, Bool.and_true, Bool.true_and, Bool.and_false, Bool.false_and, not_true_eq_false, not_false_eq_true]
          exact e5
        · rw [← hem, hu4]
          refine (hp.map RE.ab).trans ?_
          rw [List.map_cons, hrn]
          exact (List.perm_append_comm (l₁ := [(t, renF es[i].ab.2 none)]))
      · have hj' : j < rest.length := by simpa using hj
        obtain ⟨q5, w5, e5, h5, F5⟩ := take41 h3 hj'
        have z3 := f3.size
        have okI5 : REok w5 (fun y => (E y ∨ w.heap.size ≤ y ∧ y < w2.heap.size) ∨ w3.heap.size ≤ y ∧ y < w5.heap.size) es[i] := okI3.fr F5 (fun y hy hm => by simp at hm; subst hm; exact h3.blk.notin okI3.own (by decide) hy) (fun y hy => .inl hy)
        have b5 := b3.fr F5 (by simp; omega)
        have hsub : (rest.take j ++ rest.drop (j + 1)).Sublist rest := by
          have e : rest = rest.take j ++ rest.drop j := (List.take_append_drop j rest).symm
          conv => rhs; rw [e]
          exact List.Sublist.append_left (List.drop_sublist_drop_left rest (by omega)) _
        have hus5 : used ((rest.take j ++ rest.drop (j + 1)).map RE.ab) ≤ used (rest.map RE.ab) := by
          have hjm : j < (rest.map RE.ab).length := by simpa using hj'
          have hp := used_perm (get_perm hjm)
          rw [used_cons] at hp
          rw [erase_map rest]; omega
        have hk5 : kone ((rest.take j ++ rest.drop (j + 1)).map RE.ab) := by
          unfold kone at hk3 ⊢
          exact hk3.sublist ((hsub.map RE.ab).map Prod.fst)
        obtain ⟨E', qn, es', w', e6, hR, hp, hC⟩ := lay32 h5 hk5 ⟨t, es[i].q, es[i].data, es[i].q.2.1⟩ ⟨okI5.own, okI5.zs, okI5.reg⟩ (fun g hg => hdis g (hsub.subset hg)) (by
          rw [List.map_cons, used_cons]; have : (RE.ab ⟨t, es[i].q, es[i].data, es[i].q.2.1⟩).2.1.length = es[i].data.length := rfl; omega) (by have := hsub.length_le; omega) t (.agg #[.string es[i].name, .slice es[i].q.1 es[i].q.2.1 es[i].q.2.2, .int .i64 (es[i].syn : Int)], w2) b5 cs1 rfl rfl
        have C5 := C3.trans (chg_row h3 F5) h.lt
        refine ⟨E', qn, es', w', pre _ ?_, hR, ?_, C5.trans hC h.lt⟩
        · rw [ha4]
          have k4 : decide ((j : Int) ≥ 0) = true := by simp
          simp only [k4, e5, obs, asP_pointer, asB_bool, asI_int, asS_string, asSl_slice, asM_map, asTup0, asTup1, asTup2, asTup3, asTup4, asTup5, asTup6, asTup7, asTup8, asTup9, asAgg2, asAgg3, asAgg4, asAgg5, asAgg6, asAgg7, asAgg8, asAgg9, asAgg12, getD0, getD1, getD2, getD3, getD4, getD5, getD6, getD7, getD8, getD9, getD10, getD11, getD12, getD13, getD14, getD15, getD16, getD17, getD18, getD19, Bool.not_true, Bool.not_false, Bool.false_eq_true, Bool.true_eq_false, ↓reduceIte, decide_true, decide_false, Option.isNone_some, Option.isNone_none, Option.isSome_some, Option.isSome_none, beq_self_eq_true, bne_self_eq_false, Bool.and_true, Bool.true_and, Bool.and_false, Bool.false_and, not_true_eq_false, not_false_eq_true]
          exact e6
        · rw [← hem, hu4]
          refine (hp.map RE.ab).trans ?_
          rw [List.map_cons, hrn, erase_map rest]
          exact (set_perm (l := rest.map RE.ab) (i := j) (by simpa using hj') _).symm
end
end Go.Proofs.Ytkmidlhnlnolnaa
