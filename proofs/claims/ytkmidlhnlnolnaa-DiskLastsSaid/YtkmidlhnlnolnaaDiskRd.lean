/-
  DiskRd: lemmas on what Go functions of this seat come to (for whatever arguments, as each says). No condition but those that stand in each lemma.
-/
import Derived.Test.YtkmidlhnlnolnaaDiskRc
namespace Go.Proofs.Ytkmidlhnlnolnaa
open Go Go.Ev
set_option maxRecDepth 100000
set_option linter.unusedVariables false
set_option linter.unusedSimpArgs false

section
variable {w : World} {E : Nat → Prop} {b : Nat} {qf : ShS} {es : List RE} {fuse : Int} {dead : Bool}

theorem chg_sl {w w' : World} {E E' : Nat → Prop} (c : Chg E w w' E') {k : IntKind} {u : ShS} {p : List Int} (hp : SlI k w u p) (hap : 0 < p.length → ∀ y ∈ blkOf u, ¬ E y) : SlI k w' u p := by
  obtain ⟨S, f, hS⟩ := c.fr
  have hl := hp.1
  exact hp.fr3 f (fun h0 y hy hm => hap (by omega) y hy (hS y hm))

theorem loop28 (h : RD w E b qf es fuse false) {i : Nat} (hi : i < es.length) (hf2 : -1 ≤ fuse ∧ fuse ≤ 9223372036854775807) {u : ShS} {p : List Int} (hp : Sl8 w u p) (hz : Zs p) (hap : 0 < p.length → ∀ y ∈ blkOf u, ¬ E y) (hus : used (es.map RE.ab) + p.length ≤ 4194304) :
    ∃ (E' : Nat → Prop) (es' : List RE) (w' : World), g28_l22 (some ⟨b, 0, none⟩) u (i : Int) (0, 0) w = some (.int .i64 (if tookN fuse p.length < p.length then 9 else 0), w') ∧
      RD w' E' b qf es' (fuseN fuse p.length) (decide (tookN fuse p.length < p.length)) ∧ es'.map RE.ab = (es.map RE.ab).set i (es[i].name, es[i].data ++ p.take (tookN fuse p.length), es[i].syn) ∧ Chg E w w' E' := by
  have hul := hp.1
  obtain ⟨T, hT⟩ : ∃ T, tookN fuse p.length = T := ⟨_, rfl⟩
  have hTl : T ≤ p.length := by rw [← hT]; unfold tookN; split <;> omega
  have hTf : fuse ≥ 0 → (T : Int) ≤ fuse := by intro h0; rw [← hT]; unfold tookN; rw [if_pos h0]; omega
  have hTe : T < p.length → fuse ≥ 0 ∧ (T : Int) = fuse := by
    intro hlt
    rw [← hT] at hlt ⊢
    unfold tookN at hlt ⊢
    split at hlt
    · rename_i h0
      rw [if_pos h0]; omega
    · omega
  have hF : fuseN fuse p.length = if fuse ≥ 0 then fuse - (T : Int) else fuse := by unfold fuseN; rw [hT]
  have him : i < (es.map RE.ab).length := by simpa using hi
  have hRi : (es.map RE.ab)[i] = (es[i].name, es[i].data, es[i].syn) := by simp [RE.ab]
  have hlt : 0 < p.length → ∀ y ∈ blkOf u, y < w.heap.size := fun h0 y hy => hp.slC.lt (by rw [List.length_map]; omega) y hy
  rw [hT, hF]
  obtain ⟨e, t, w', g1, E', es', hC, hm, hcase⟩ := loopS_rule (b := g28_l22_b u (some ⟨b, 0, none⟩) (i : Int)) (n := T)
    (I := fun k s x => s = (0, (k : Int)) ∧ ∃ Ek esk, RD x Ek b qf esk (if fuse ≥ 0 then fuse - (k : Int) else fuse) false ∧ esk.map RE.ab = (es.map RE.ab).set i (es[i].name, es[i].data ++ p.take k, es[i].syn) ∧ Chg E w x Ek)
    (Q := fun e s x => ∃ Ek esk, Chg E w x Ek ∧ esk.map RE.ab = (es.map RE.ab).set i (es[i].name, es[i].data ++ p.take T, es[i].syn) ∧
      (e = .exit 1 ∧ ¬ T < p.length ∧ RD x Ek b qf esk (if fuse ≥ 0 then fuse - (T : Int) else fuse) false ∨ e = .ret ∧ s.1 = 9 ∧ T < p.length ∧ RD x Ek b qf esk (if fuse ≥ 0 then fuse - (T : Int) else fuse) true))
    (fun k s x hk ⟨hs, Ek, esk, hR, hm, hC⟩ => by
      subst hs
      have hlen : esk.length = es.length := by have := congrArg List.length hm; simpa using this
      have hik : i < esk.length := by omega
      have hge : esk[i].ab = (es[i].name, es[i].data ++ p.take k, es[i].syn) := by
        have h2 : (esk.map RE.ab)[i]'(by simpa using hik) = (es[i].name, es[i].data ++ p.take k, es[i].syn) := by simp only [hm, List.getElem_set_self]
        rwa [List.getElem_map] at h2
      have hus2 : used (esk.map RE.ab) + 1 ≤ 4194304 := by
        rw [hm]
        have := used_setR him (es[i].name, es[i].data ++ p.take k, es[i].syn)
        rw [hRi] at this
        simp only [List.length_append, List.length_take] at this
        omega
      have hapk : ∀ y ∈ blkOf u, ¬ Ek y := fun y hy hE => by
        rcases hC.new y hE with hh | hh
        · exact hap (by omega) y hy hh
        · have := hlt (by omega) y hy; omega
      obtain ⟨E2, es2, x2, e2, hR2, hm2, hC2⟩ := byte_round hR hik (chg_sl hC hp hap) hz (k := k) (by omega) hapk (by split <;> omega) (by split <;> omega) hus2 (by omega) 0
      refine ⟨_, _, x2, e2, .inl ⟨rfl, rfl, E2, es2, ?_, ?_, hC.trans hC2 h.lt⟩⟩
      · have : (if (if fuse ≥ 0 then fuse - (k : Int) else fuse) > 0 then (if fuse ≥ 0 then fuse - (k : Int) else fuse) - 1 else (if fuse ≥ 0 then fuse - (k : Int) else fuse)) = (if fuse ≥ 0 then fuse - ((k + 1 : Nat) : Int) else fuse) := by
          by_cases h0 : fuse ≥ 0
          · have := hTf h0
            rw [if_pos h0, if_pos h0, if_pos (by omega)]; omega
          · rw [if_neg h0, if_neg h0, if_neg (by omega)]
        rw [this] at hR2
        exact hR2
      · rw [hm2, hm, List.set_set]
        congr 1
        have hnm : esk[i].name = es[i].name := congrArg Prod.fst hge
        have hdt : esk[i].data = es[i].data ++ p.take k := congrArg (fun p => p.2.1) hge
        have hsy : esk[i].syn = es[i].syn := congrArg (fun p => p.2.2) hge
        rw [hnm, hdt, hsy, List.append_assoc, List.take_append_getElem])
    (fun s x ⟨hs, Ek, esk, hR, hm, hC⟩ => by
      subst hs
      by_cases hlt2 : T < p.length
      · obtain ⟨h0, hTe2⟩ := hTe hlt2
        have k0 : decide ((T : Int) < (u.2.1 : Int)) = true := by simp; omega
        have hz0 : (if fuse ≥ 0 then fuse - (T : Int) else fuse) = 0 := by rw [if_pos h0]; omega
        have c1 := hR.c1
        rw [hz0] at c1
        have kz : ((0 : Int) == 0) = true := rfl
        obtain ⟨x2, s2, h2, f2⟩ := hR.put1 (i := 2) (by decide) (v := .bool true) rfl (fuse' := (if fuse ≥ 0 then fuse - (T : Int) else fuse)) (dead' := true) rfl
        have C2 : Chg Ek x x2 Ek := ⟨⟨[b], f2, fun y hy => by simp at hy; subst hy; exact hR.eb⟩, fun _ => id, fun _ => .inl⟩
        refine ⟨.ret, (9, (T : Int)), x2, ?_, by simp, Ek, esk, hC.trans C2 h.lt, hm, .inr ⟨rfl, rfl, hlt2, h2⟩⟩
        unfold g28_l22_b
        simp only [k0, addr_add, Nat.zero_add, c1, kz, s2, obs, asP_pointer, asB_bool, asI_int, asS_string, asSl_slice, asM_map, asTup0, asTup1, asTup2, asTup3, asTup4, asTup5, asTup6, asTup7, asTup8, asTup9, asAgg2, asAgg3, asAgg4, asAgg5, asAgg6, asAgg7, asAgg8, asAgg9, asAgg12, getD0, getD1, getD2, getD3, getD4, getD5, getD6, getD7, getD8, getD9, getD10, getD11, getD12, getD13, getD14, getD15, getD16, getD17, getD18, getD19, Bool.not_true, Bool.not_false, Bool.false_eq_true, Bool.true_eq_false, ↓reduceIte, decide_true, decide_false, Option.isNone_some, Option.isNone_none, Option.isSome_some, Option.isSome_none, beq_self_eq_true, bne_self_eq_false, Bool.and_true, Bool.true_and, Bool.and_false, Bool.false_and, not_true_eq_false, not_false_eq_true]
      · have k0 : decide ((T : Int) < (u.2.1 : Int)) = false := by simp; omega
        refine ⟨.exit 1, (0, (T : Int)), x, ?_, by simp, Ek, esk, hC, hm, .inl ⟨rfl, hlt2, hR⟩⟩
        unfold g28_l22_b
        simp only [k0, Bool.false_eq_true, if_false])
    (k := 0) (s := (0, 0)) (w := w) (Nat.zero_le _) ⟨rfl, E, es, by simpa using h, by
      have : (es.map RE.ab).set i (es[i].name, es[i].data ++ p.take 0, es[i].syn) = es.map RE.ab := by
        have e : (es[i].name, es[i].data ++ p.take 0, es[i].syn) = (es.map RE.ab)[i] := by rw [hRi]; simp
        rw [e, List.set_getElem_self]
      exact this.symm, Chg.refl _ _⟩
  obtain ⟨t1, t2⟩ := t
  rcases hcase with ⟨rfl, hn, hR⟩ | ⟨rfl, ht, hn, hR⟩
  · refine ⟨E', es', w', ?_, ?_, hm, hC⟩
    · rw [g28_l22_x1_of g1, g28_l22_x1, if_neg hn]
    · rw [decide_eq_false hn]; exact hR
  · refine ⟨E', es', w', ?_, ?_, hm, hC⟩
    · simp only at ht
      rw [g28_l22_ret_of g1, g28_l22_ret, if_pos hn, ht]
    · rw [decide_eq_true hn]; exact hR

theorem append28 (h : RD w E b qf es fuse dead) (hk : kone (es.map RE.ab)) (hf2 : -1 ≤ fuse ∧ fuse ≤ 9223372036854775807) (n : ByteArray) {u : ShS} {p : List Int} (hp : Sl8 w u p) (hz : Zs p) (hap : 0 < p.length → ∀ y ∈ blkOf u, ¬ E y) (hpl : p.length ≤ 4611686018427387904) :
    ∃ (E' : Nat → Prop) (qn : ShS) (es' : List RE) (w' : World), callF Try.prog 28 #[.pointer (some ⟨b, 0, none⟩), .string n, .slice u.1 u.2.1 u.2.2] w = some (.int .i64 (appA (es.map RE.ab) fuse dead n p).1, w') ∧
      RD w' E' b qn es' (appA (es.map RE.ab) fuse dead n p).2.2.1 (appA (es.map RE.ab) fuse dead n p).2.2.2 ∧ (es'.map RE.ab).Perm (appA (es.map RE.ab) fuse dead n p).2.1 ∧ Chg E w w' E' := by
  have hul := hp.1
  have e1 := at37 h n
  have hus := h.us
  have hle := h.le
  have hfl := h.flen
  have hlen : (es.map RE.ab).length = es.length := by simp
  cases dead with
  | true =>
    refine ⟨E, qf, es, w, g28_call ?_, by simpa [appA] using h, by simp [appA], Chg.refl _ _⟩
    unfold g28
    simp only [e1, addr_add, Nat.zero_add, h.c2, obs, asP_pointer, asB_bool, asI_int, asS_string, asSl_slice, asM_map, asTup0, asTup1, asTup2, asTup3, asTup4, asTup5, asTup6, asTup7, asTup8, asTup9, asAgg2, asAgg3, asAgg4, asAgg5, asAgg6, asAgg7, asAgg8, asAgg9, asAgg12, getD0, getD1, getD2, getD3, getD4, getD5, getD6, getD7, getD8, getD9, getD10, getD11, getD12, getD13, getD14, getD15, getD16, getD17, getD18, getD19, Bool.not_true, Bool.not_false, Bool.false_eq_true, Bool.true_eq_false, ↓reduceIte, decide_true, decide_false, Option.isNone_some, Option.isNone_none, Option.isSome_some, Option.isSome_none, beq_self_eq_true, bne_self_eq_false, Bool.and_true, Bool.true_and, Bool.and_false, Bool.false_and, not_true_eq_false, not_false_eq_true]
    rfl
  | false =>
    by_cases s1 : n.size < 1
    · have hs : appA (es.map RE.ab) fuse false n p = (1, es.map RE.ab, fuse, false) := by unfold appA; rw [if_neg (by decide), if_pos (Or.inl (by omega))]
      rw [hs]
      have k1 : decide ((n.size : Int) < 1) = true := by simp; omega
      refine ⟨E, qf, es, w, g28_call ?_, h, List.Perm.refl _, Chg.refl _ _⟩
      unfold g28
      simp only [e1, addr_add, Nat.zero_add, h.c2, k1, obs, asP_pointer, asB_bool, asI_int, asS_string, asSl_slice, asM_map, asTup0, asTup1, asTup2, asTup3, asTup4, asTup5, asTup6, asTup7, asTup8, asTup9, asAgg2, asAgg3, asAgg4, asAgg5, asAgg6, asAgg7, asAgg8, asAgg9, asAgg12, getD0, getD1, getD2, getD3, getD4, getD5, getD6, getD7, getD8, getD9, getD10, getD11, getD12, getD13, getD14, getD15, getD16, getD17, getD18, getD19, Bool.not_true, Bool.not_false, Bool.false_eq_true, Bool.true_eq_false, ↓reduceIte, decide_true, decide_false, Option.isNone_some, Option.isNone_none, Option.isSome_some, Option.isSome_none, beq_self_eq_true, bne_self_eq_false, Bool.and_true, Bool.true_and, Bool.and_false, Bool.false_and, not_true_eq_false, not_false_eq_true]
    have k1 : decide ((n.size : Int) < 1) = false := by simp; omega
    by_cases s2 : n.size > 24
    · have hs : appA (es.map RE.ab) fuse false n p = (1, es.map RE.ab, fuse, false) := by unfold appA; rw [if_neg (by decide), if_pos (Or.inr s2)]
      rw [hs]
      have k2 : decide ((n.size : Int) > 24) = true := by simp; omega
      refine ⟨E, qf, es, w, g28_call ?_, h, List.Perm.refl _, Chg.refl _ _⟩
      unfold g28
      simp only [e1, addr_add, Nat.zero_add, h.c2, k1, k2, obs, asP_pointer, asB_bool, asI_int, asS_string, asSl_slice, asM_map, asTup0, asTup1, asTup2, asTup3, asTup4, asTup5, asTup6, asTup7, asTup8, asTup9, asAgg2, asAgg3, asAgg4, asAgg5, asAgg6, asAgg7, asAgg8, asAgg9, asAgg12, getD0, getD1, getD2, getD3, getD4, getD5, getD6, getD7, getD8, getD9, getD10, getD11, getD12, getD13, getD14, getD15, getD16, getD17, getD18, getD19, Bool.not_true, Bool.not_false, Bool.false_eq_true, Bool.true_eq_false, ↓reduceIte, decide_true, decide_false, Option.isNone_some, Option.isNone_none, Option.isSome_some, Option.isSome_none, beq_self_eq_true, bne_self_eq_false, Bool.and_true, Bool.true_and, Bool.and_false, Bool.false_and, not_true_eq_false, not_false_eq_true]
    have k2 : decide ((n.size : Int) > 24) = false := by simp; omega
    have e2 := used38 h
    have ww : IntKind.i64.wrap ((used (es.map RE.ab) : Int) + (u.2.1 : Int)) = (used (es.map RE.ab) : Int) + (u.2.1 : Int) := wrap_i64 (by omega) (by omega)
    by_cases s3 : p.length > 4194304 - used (es.map RE.ab)
    · have hs : appA (es.map RE.ab) fuse false n p = (3, es.map RE.ab, fuse, false) := by unfold appA; rw [if_neg (by decide), if_neg (by omega), if_pos (Or.inl s3)]
      rw [hs]
      have k3 : decide ((used (es.map RE.ab) : Int) + (u.2.1 : Int) > 4194304) = true := by simp; omega
      refine ⟨E, qf, es, w, g28_call ?_, h, List.Perm.refl _, Chg.refl _ _⟩
      unfold g28
      simp only [e1, addr_add, Nat.zero_add, h.c2, k1, k2, e2, ww, k3, obs, asP_pointer, asB_bool, asI_int, asS_string, asSl_slice, asM_map, asTup0, asTup1, asTup2, asTup3, asTup4, asTup5, asTup6, asTup7, asTup8, asTup9, asAgg2, asAgg3, asAgg4, asAgg5, asAgg6, asAgg7, asAgg8, asAgg9, asAgg12, getD0, getD1, getD2, getD3, getD4, getD5, getD6, getD7, getD8, getD9, getD10, getD11, getD12, getD13, getD14, getD15, getD16, getD17, getD18, getD19, Bool.not_true, Bool.not_false, Bool.false_eq_true, Bool.true_eq_false, ↓reduceIte, decide_true, decide_false, Option.isNone_some, Option.isNone_none, Option.isSome_some, Option.isSome_none, beq_self_eq_true, bne_self_eq_false, Bool.and_true, Bool.true_and, Bool.and_false, Bool.false_and, not_true_eq_false, not_false_eq_true]
    have k3 : decide ((used (es.map RE.ab) : Int) + (u.2.1 : Int) > 4194304) = false := by simp; omega
    rcases atN_cases (es.map RE.ab) hk n with ⟨ha, hg, hu, _⟩ | ⟨i, hi, ha, hn, hg, hu, _⟩
    · rw [ha] at e1
      have k4 : decide ((-1 : Int) < 0) = true := rfl
      by_cases s4 : es.length = 4096
      · have hs : appA (es.map RE.ab) fuse false n p = (3, es.map RE.ab, fuse, false) := by unfold appA; rw [if_neg (by decide), if_neg (by omega), if_pos (Or.inr ⟨hg, by omega⟩)]
        rw [hs]
        have k5 : decide ((qf.2.1 : Int) ≥ 4096) = true := by simp; omega
        refine ⟨E, qf, es, w, g28_call ?_, h, List.Perm.refl _, Chg.refl _ _⟩
        unfold g28
        simp only [e1, addr_add, Nat.zero_add, h.c2, k1, k2, e2, ww, k3, k4, h.c0, k5, obs, asP_pointer, asB_bool, asI_int, asS_string, asSl_slice, asM_map, asTup0, asTup1, asTup2, asTup3, asTup4, asTup5, asTup6, asTup7, asTup8, asTup9, asAgg2, asAgg3, asAgg4, asAgg5, asAgg6, asAgg7, asAgg8, asAgg9, asAgg12, getD0, getD1, getD2, getD3, getD4, getD5, getD6, getD7, getD8, getD9, getD10, getD11, getD12, getD13, getD14, getD15, getD16, getD17, getD18, getD19, Bool.not_true, Bool.not_false, Bool.false_eq_true, Bool.true_eq_false, ↓reduceIte, decide_true, decide_false, Option.isNone_some, Option.isNone_none, Option.isSome_some, Option.isSome_none, beq_self_eq_true, bne_self_eq_false, Bool.and_true, Bool.true_and, Bool.and_false, Bool.false_and, not_true_eq_false, not_false_eq_true]
      have k5 : decide ((qf.2.1 : Int) ≥ 4096) = false := by simp; omega
      have hs : appA (es.map RE.ab) fuse false n p = (if tookN fuse p.length < p.length then 9 else 0, es.map RE.ab ++ [(n, (p.take (tookN fuse p.length), 0))], fuseN fuse p.length, decide (tookN fuse p.length < p.length)) := by
        unfold appA; rw [if_neg (by decide), if_neg (by omega), if_neg (by rintro (hh | ⟨_, hh⟩) <;> omega), hu]; rfl
      rw [hs]
      -- the file is laid
      obtain ⟨qn, w1, es1, e3, hp1, h1, F1⟩ := put39 h ⟨n, (none, 0, 0), [], 0⟩ ⟨Own.nil w 5 1, (by intro z hz; cases hz), by simp [blkOf]⟩ (fun g hg y hy => by simp [blkOf] at hy) (by rw [List.map_cons, used_cons]; simp [RE.ab]; omega) (by omega)
      have C1 := chg_row h F1
      have hpm := hp1.map RE.ab
      have hk0 : kone ((⟨n, (none, 0, 0), [], 0⟩ :: es).map RE.ab) := by
        have := kone_ups (n := n) (g := fun _ => (([], 0) : FV)) hk
        rw [hu] at this
        exact kone_perm this List.perm_append_comm
      have hk1 : kone (es1.map RE.ab) := kone_perm hk0 hpm.symm
      have hg1 : kget (es1.map RE.ab) n = some ([], 0) := kget_mem hk1 (hpm.mem_iff.mpr (by simp [RE.ab]))
      rcases atN_cases (es1.map RE.ab) hk1 n with ⟨_, hg2, _⟩ | ⟨j, hj, ha1, hn1, hg2, hu1, _⟩
      · rw [hg1] at hg2; cases hg2
      have hj' : j < es1.length := by simpa using hj
      have hej : es1[j].ab = (n, ([], 0)) := by
        have h2 : (es1.map RE.ab)[j] = es1[j].ab := by simp
        rw [hg1] at hg2
        have h3 := Option.some.inj hg2
        rw [h2] at h3 hn1
        exact Prod.ext hn1 h3.symm
      have hus1 : used (es1.map RE.ab) = used (es.map RE.ab) := by rw [used_perm hpm, List.map_cons, used_cons]; simp [RE.ab]
      have e4 := at37 h1 n
      rw [ha1] at e4
      have hp1' := chg_sl C1 hp hap
      have hlt : 0 < p.length → ∀ y ∈ blkOf u, y < w.heap.size := fun h0 y hy => hp.slC.lt (by rw [List.length_map]; omega) y hy
      obtain ⟨E', es', w', e5, hR, hm, hC⟩ := loop28 h1 hj' hf2 hp1' hz (fun h0 y hy hE => by
        rcases C1.new y hE with hh | hh
        · exact hap h0 y hy hh
        · have := hlt h0 y hy; omega) (by omega)
      refine ⟨E', qn, es', w', g28_call ?_, hR, ?_, C1.trans hC h.lt⟩
      · have e3' : callF Try.prog 39 #[.pointer (some ⟨b, 0, none⟩), .agg #[.string n, .slice none 0 0, .int .i64 0]] w = some (.tuple #[], w1) := e3
        unfold g28
        simp only [e1, addr_add, Nat.zero_add, h.c2, k1, k2, e2, ww, k3, k4, h.c0, k5, obs, asP_pointer, asB_bool, asI_int, asS_string, asSl_slice, asM_map, asTup0, asTup1, asTup2, asTup3, asTup4, asTup5, asTup6, asTup7, asTup8, asTup9, asAgg2, asAgg3, asAgg4, asAgg5, asAgg6, asAgg7, asAgg8, asAgg9, asAgg12, getD0, getD1, getD2, getD3, getD4, getD5, getD6, getD7, getD8, getD9, getD10, getD11, getD12, getD13, getD14, getD15, getD16, getD17, getD18, getD19, Bool.not_true, Bool.not_false, Bool.false_eq_true, Bool.true_eq_false, ↓reduceIte, decide_true, decide_false, Option.isNone_some, Option.isNone_none, Option.isSome_some, Option.isSome_none, beq_self_eq_true, bne_self_eq_false, Bool.and_true, Bool.true_and, Bool.and_false, Bool.false_and, not_true_eq_false, not_false_eq_true]
        unfold g28_j3
        simp only [k4, e3', e4, obs, asP_pointer, asB_bool, asI_int, asS_string, asSl_slice, asM_map, asTup0, asTup1, asTup2, asTup3, asTup4, asTup5, asTup6, asTup7, asTup8, asTup9, asAgg2, asAgg3, asAgg4, asAgg5, asAgg6, asAgg7, asAgg8, asAgg9, asAgg12, getD0, getD1, getD2, getD3, getD4, getD5, getD6, getD7, getD8, getD9, getD10, getD11, getD12, getD13, getD14, getD15, getD16, getD17, getD18, getD19, Bool.not_true, Bool.not_false, Bool.false_eq_true, Bool.true_eq_false, ↓reduceIte, decide_true, decide_false, Option.isNone_some, Option.isNone_none, Option.isSome_some, Option.isSome_none, beq_self_eq_true, bne_self_eq_false, Bool.and_true, Bool.true_and, Bool.and_false, Bool.false_and, not_true_eq_false, not_false_eq_true]
        exact e5
      · have hnm : es1[j].name = n := congrArg Prod.fst hej
        have hdt : es1[j].data = [] := congrArg (fun p => p.2.1) hej
        have hsy : es1[j].syn = 0 := congrArg (fun p => p.2.2) hej
        rw [hm, hnm, hdt, hsy, List.nil_append]
        have hjm : j < (es1.map RE.ab).length := hj
        have hrest : ((es1.map RE.ab).eraseIdx j).Perm (es.map RE.ab) := by
          have h3 := (get_perm hjm).symm.trans hpm
          have h4 : (es1.map RE.ab)[j] = (n, ([], 0)) := by rw [List.getElem_map]; exact hej
          rw [h4] at h3
          exact h3.cons_inv
        refine (set_perm hjm _).trans ((hrest.cons _).trans ?_)
        exact List.perm_append_comm (l₁ := [_])
    · have hi' : i < es.length := by simpa using hi
      rw [ha] at e1
      have k4 : decide ((i : Int) < 0) = false := by simp
      have hs : appA (es.map RE.ab) fuse false n p = (if tookN fuse p.length < p.length then 9 else 0, (es.map RE.ab).set i (n, putF (p.take (tookN fuse p.length)) (some (es.map RE.ab)[i].2)), fuseN fuse p.length, decide (tookN fuse p.length < p.length)) := by
        unfold appA; rw [if_neg (by decide), if_neg (by omega), if_neg (by rintro (hh | ⟨hh, _⟩); omega; rw [hg] at hh; cases hh), hu]
      rw [hs]
      obtain ⟨E', es', w', e5, hR, hm, hC⟩ := loop28 h hi' hf2 hp hz hap (by omega)
      refine ⟨E', qf, es', w', g28_call ?_, hR, ?_, hC⟩
      · unfold g28
        simp only [e1, addr_add, Nat.zero_add, h.c2, k1, k2, e2, ww, k3, k4, obs, asP_pointer, asB_bool, asI_int, asS_string, asSl_slice, asM_map, asTup0, asTup1, asTup2, asTup3, asTup4, asTup5, asTup6, asTup7, asTup8, asTup9, asAgg2, asAgg3, asAgg4, asAgg5, asAgg6, asAgg7, asAgg8, asAgg9, asAgg12, getD0, getD1, getD2, getD3, getD4, getD5, getD6, getD7, getD8, getD9, getD10, getD11, getD12, getD13, getD14, getD15, getD16, getD17, getD18, getD19, Bool.not_true, Bool.not_false, Bool.false_eq_true, Bool.true_eq_false, ↓reduceIte, decide_true, decide_false, Option.isNone_some, Option.isNone_none, Option.isSome_some, Option.isSome_none, beq_self_eq_true, bne_self_eq_false, Bool.and_true, Bool.true_and, Bool.and_false, Bool.false_and, not_true_eq_false, not_false_eq_true]
        unfold g28_j3
        simp only [k4, obs, asP_pointer, asB_bool, asI_int, asS_string, asSl_slice, asM_map, asTup0, asTup1, asTup2, asTup3, asTup4, asTup5, asTup6, asTup7, asTup8, asTup9, asAgg2, asAgg3, asAgg4, asAgg5, asAgg6, asAgg7, asAgg8, asAgg9, asAgg12, getD0, getD1, getD2, getD3, getD4, getD5, getD6, getD7, getD8, getD9, getD10, getD11, getD12, getD13, getD14, getD15, getD16, getD17, getD18, getD19, Bool.not_true, Bool.not_false, Bool.false_eq_true, Bool.true_eq_false, ↓reduceIte, decide_true, decide_false, Option.isNone_some, Option.isNone_none, Option.isSome_some, Option.isSome_none, beq_self_eq_true, bne_self_eq_false, Bool.and_true, Bool.true_and, Bool.and_false, Bool.false_and, not_true_eq_false, not_false_eq_true]
        exact e5
      · rw [hm]
        have h2 : (es.map RE.ab)[i] = es[i].ab := by simp
        rw [h2] at hn ⊢
        have hnm : es[i].name = n := hn
        rw [hnm]
        exact List.Perm.refl _
end
end Go.Proofs.Ytkmidlhnlnolnaa
