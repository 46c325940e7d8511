/-
  DiskRb: lemmas on what Go functions of this seat come to (for whatever arguments, as each says). No condition but those that stand in each lemma.
-/
import Derived.Test.YtkmidlhnlnolnaaDiskRa
namespace Go.Proofs.Ytkmidlhnlnolnaa
open Go Go.Ev
set_option maxRecDepth 100000
set_option linter.unusedVariables false
set_option linter.unusedSimpArgs false

section
variable {w : World} {E : Nat → Prop} {b : Nat} {qf : ShS} {es : List RE} {fuse : Int} {dead : Bool}

theorem used_ge {A : List (ByteArray × FV)} {k : Nat} (hk : k < A.length) : A[k].2.1.length ≤ used A := by
  have := used_perm (get_perm hk)
  rw [used_cons] at this
  omega

theorem crash34_round (h : RD w E b qf es fuse dead) {keep : Int} (hkp : -9223372036854775808 ≤ keep ∧ keep < 9223372036854775808) {k : Nat} (hk : k < es.length) (hsyn : es[k].syn ≤ es[k].data.length) :
    ∃ (E' : Nat → Prop) (es' : List RE) (w' : World), g34_l1_b (some ⟨b, 0, none⟩) keep (k : Int) w = some (.normal, ((k + 1 : Nat) : Int), w') ∧ RD w' E' b qf es' fuse dead ∧ es'.map RE.ab = (es.map RE.ab).set k (es[k].name, crashV keep (es[k].data, es[k].syn)) ∧ Chg E w w' E' := by
  have hml : maxLen = 9223372036854775807 := by decide
  have hfl := h.flen
  have hle := h.le
  have f0 : Fr [] w w.drew.drew := by have a := Fr.drew [] w; have c := Fr.drew [] w.drew; have := a.app c; simpa using this
  have hd1 := h.fr (Fr.drew [] w) (by simp)
  have hd := h.fr f0 (by simp)
  obtain ⟨g, off, hq, hix, _, hc, _⟩ := re_at hd.own hk
  obtain ⟨g', off', hq', hix', _, hc1, _⟩ := re_at hd1.own hk
  obtain ⟨rfl, rfl⟩ : g = g' ∧ off = off' := by rw [hq] at hq'; simp at hq'; exact hq'
  have ok := h.ok _ (List.getElem_mem hk)
  have okl := ok.own.len
  simp at okl
  have hkm : k < (es.map RE.ab).length := by simpa using hk
  have hul := used_ge hkm
  have hus := h.us
  rw [List.getElem_map] at hul
  have e3 : (RE.ab es[k]).2.1.length = es[k].data.length := rfl
  have c1 : w.drew.cell? ⟨g, off + k * 3 + 1, none⟩ = some (.slice es[k].q.1 es[k].q.2.1 es[k].q.2.2) := by have := hc1 1 (by decide); simpa [RE.cs] using this
  have c2 : w.drew.cell? ⟨g, off + k * 3 + 2, none⟩ = some (.int .i64 (es[k].syn : Int)) := by have := hc1 2 (by decide); simpa [RE.cs] using this
  have d1 : w.drew.drew.cell? ⟨g, off + k * 3 + 1, none⟩ = some (.slice es[k].q.1 es[k].q.2.1 es[k].q.2.2) := by have := hc 1 (by decide); simpa [RE.cs] using this
  have d2 : w.drew.drew.cell? ⟨g, off + k * 3 + 2, none⟩ = some (.int .i64 (es[k].syn : Int)) := by have := hc 2 (by decide); simpa [RE.cs] using this
  obtain ⟨L, hL⟩ : ∃ L, leftN keep (es[k].data, es[k].syn) = L := ⟨_, rfl⟩
  have hLe : L ≤ es[k].data.length ∧ es[k].syn ≤ L := by
    rw [← hL]
    unfold leftN
    have := Nat.mod_lt (keep % 18446744073709551616).toNat (show 0 < es[k].data.length - es[k].syn + 1 by omega)
    simp only
    omega
  -- the numbers
  have n1 : IntKind.i64.wrap ((es[k].q.2.1 : Int) - (es[k].syn : Int)) = ((es[k].data.length - es[k].syn : Nat) : Int) := by rw [wrap_i64 (by omega) (by omega)]; omega
  have n2 : IntKind.i64.wrap (((es[k].data.length - es[k].syn : Nat) : Int) + 1) = ((es[k].data.length - es[k].syn + 1 : Nat) : Int) := by rw [wrap_i64 (by omega) (by omega)]; omega
  have n3 : IntKind.u64.wrap (((es[k].data.length - es[k].syn + 1 : Nat)) : Int) = ((es[k].data.length - es[k].syn + 1 : Nat) : Int) := wrap_u64 (by omega) (by omega)
  have n4 : IntKind.u64.wrap keep = (((keep % 18446744073709551616).toNat : Nat) : Int) := by
    have e : IntKind.u64.wrap keep = keep % 18446744073709551616 := by simp [IntKind.wrap, IntKind.bits, IntKind.signed]
    rw [e]; omega
  have n5 : Int.tmod (((keep % 18446744073709551616).toNat : Nat) : Int) ((es[k].data.length - es[k].syn + 1 : Nat) : Int) = (((keep % 18446744073709551616).toNat % (es[k].data.length - es[k].syn + 1) : Nat) : Int) := by
    rw [Int.tmod_eq_emod_of_nonneg (by omega)]; rfl
  have n6 : IntKind.i64.wrap (((keep % 18446744073709551616).toNat % (es[k].data.length - es[k].syn + 1) : Nat) : Int) = (((keep % 18446744073709551616).toNat % (es[k].data.length - es[k].syn + 1) : Nat) : Int) := by
    have := Nat.mod_lt (keep % 18446744073709551616).toNat (show 0 < es[k].data.length - es[k].syn + 1 by omega)
    exact wrap_i64 (by omega) (by omega)
  have n7 : IntKind.i64.wrap ((es[k].syn : Int) + (((keep % 18446744073709551616).toNat % (es[k].data.length - es[k].syn + 1) : Nat) : Int)) = (L : Int) := by
    have e : (es[k].syn : Int) + (((keep % 18446744073709551616).toNat % (es[k].data.length - es[k].syn + 1) : Nat) : Int) = (L : Int) := by rw [← hL]; unfold leftN; simp only; omega
    rw [e]; exact wrap_i64 (by omega) (by omega)
  have n8 : ¬ (((es[k].data.length - es[k].syn + 1 : Nat) : Int) = 0) := by omega
  have okd := ok.own.fr f0 (by simp)
  obtain ⟨qs, es1, hqs, _⟩ := slc_hi okd.slI (j := L) hLe.1 ok.own.le
  obtain ⟨qn, w1, e2, o1, f1, nn1, _⟩ := app_nil t28 hqs.slC (by intro y hy; obtain ⟨z, _, rfl⟩ := List.mem_map.mp hy; rfl) (by have := hqs.1; simp at this; omega) (by have := hqs.1; simp at this; omega) 28 #[false, false]
  have F1 : Fr [] w w1 := by have := f0.app f1; simpa using this
  have h1 := h.fr F1 (by simp)
  obtain ⟨g', off', hq', hixa, _, _, hst'⟩ := re_at h1.own hk
  obtain ⟨rfl, rfl⟩ : g = g' ∧ off = off' := by rw [hq] at hq'; simp at hq'; exact hq'
  obtain ⟨w2, s2, o2, f2⟩ := hst' 1 (by decide) ⟨es[k].name, qn, es[k].data.take L, es[k].syn⟩ (.slice qn.1 qn.2.1 qn.2.2) rfl rfl
  have hi2 : k < (es.set k ⟨es[k].name, qn, es[k].data.take L, es[k].syn⟩).length := by simpa using hk
  obtain ⟨g', off', hq', hix2, _, _, hst2⟩ := re_at o2 hi2
  obtain ⟨rfl, rfl⟩ : g = g' ∧ off = off' := by rw [hq] at hq'; simp at hq'; exact hq'
  rw [List.getElem_set_self] at hst2
  have oq : Own w2 5 1 qn ((es[k].data.take L).map (Value.int .u8)) := o1.fr f2 (o1.apart h1.own (by decide))
  have F2 : Fr (blkOf qf) w w2 := (F1.app f2).mono (by intro y hy _; simpa using hy)
  have b2 : w2.cell? ⟨b, 0, none⟩ = some (.slice qf.1 qf.2.1 qf.2.2) := (h.blk.fr F2 (h.blk.notin h.own (by decide))).cell 0
  obtain ⟨w3, s3, o3, f3⟩ := hst2 2 (by decide) ⟨es[k].name, qn, es[k].data.take L, L⟩ (.int .i64 (L : Int)) rfl rfl
  rw [List.set_set] at o3
  have F3 : Fr (blkOf qf) w w3 := (F2.app f3).mono (by intro y hy _; simpa using hy)
  have zs2 : Zs (es[k].data.take L) := fun z hz => ok.zs z (List.mem_of_mem_take hz)
  have zsz := f0.size
  obtain ⟨hR, hC⟩ := h.upd hk ⟨es[k].name, qn, es[k].data.take L, L⟩ F3 (fun y hy => .inl hy) o3 (oq.fr f3 (oq.apart o2 (by decide))) zs2 (fun y hy => .inr (by have := nn1 y hy; omega)) (by
    have := used_setR (A := es.map RE.ab) (k := k) hkm (RE.ab ⟨es[k].name, qn, es[k].data.take L, L⟩)
    rw [← List.map_set] at this
    simp only [List.getElem_map, RE.ab, List.length_take] at this
    omega)
  have k0 : decide ((k : Int) < (qf.2.1 : Int)) = true := by simp; omega
  have kw := wrap_succ (n := k) (by omega)
  refine ⟨_, _, w3, ?_, hR, ?_, hC⟩
  · unfold g34_l1_b
    simp only [h.c0, k0, hd1.c0, hix', addr_add, c1, c2, hd.c0, hix, d1, d2, n1, n2, n3, n4, n5, n6, n7, obs, asP_pointer, asB_bool, asI_int, asS_string, asSl_slice, asM_map, asTup0, asTup1, asTup2, asTup3, asTup4, asTup5, asTup6, asTup7, asTup8, asTup9, asAgg2, asAgg3, asAgg4, asAgg5, asAgg6, asAgg7, asAgg8, asAgg9, asAgg12, getD0, getD1, getD2, getD3, getD4, getD5, getD6, getD7, getD8, getD9, getD10, getD11, getD12, getD13, getD14, getD15, getD16, getD17, getD18, getD19, Bool.not_true, Bool.not_false, Bool.false_eq_true, Bool.true_eq_false, ↓reduceIte, decide_true, decide_false, Option.isNone_some, Option.isNone_none, Option.isSome_some, Option.isSome_none, beq_self_eq_true, bne_self_eq_false, Bool.and_true, Bool.true_and, Bool.and_false, Bool.false_and, not_true_eq_false, not_false_eq_true]
    rw [if_neg n8]
    simp only [h1.c0, es1, e2, hixa, addr_add, s2, b2, hix2, s3, kw, obs, asP_pointer, asB_bool, asI_int, asS_string, asSl_slice, asM_map, asTup0, asTup1, asTup2, asTup3, asTup4, asTup5, asTup6, asTup7, asTup8, asTup9, asAgg2, asAgg3, asAgg4, asAgg5, asAgg6, asAgg7, asAgg8, asAgg9, asAgg12, getD0, getD1, getD2, getD3, getD4, getD5, getD6, getD7, getD8, getD9, getD10, getD11, getD12, getD13, getD14, getD15, getD16, getD17, getD18, getD19, Bool.not_true, Bool.not_false, Bool.false_eq_true, Bool.true_eq_false, ↓reduceIte, decide_true, decide_false, Option.isNone_some, Option.isNone_none, Option.isSome_some, Option.isSome_none, beq_self_eq_true, bne_self_eq_false, Bool.and_true, Bool.true_and, Bool.and_false, Bool.false_and, not_true_eq_false, not_false_eq_true]
  · rw [List.map_set]
    congr 1
    simp only [RE.ab, crashV, hL]

/-- a cell of the disk's own block is set -/
theorem RD.put1 (h : RD w E b qf es fuse dead) {i : Nat} (hi : i < 3) {v : Value} (hv : v.oneCell' = true) {fuse' : Int} {dead' : Bool}
    (e : [Value.slice qf.1 qf.2.1 qf.2.2, .int .i64 fuse, .bool dead].set i v = [.slice qf.1 qf.2.1 qf.2.2, .int .i64 fuse', .bool dead']) :
    ∃ w', st1 w ⟨b, i, none⟩ v = some w' ∧ RD w' E b qf es fuse' dead' ∧ Fr [b] w w' := by
  have s := h.blk.st1 (i := i) (v := v) (by simp; omega) hv
  have f : Fr [b] w (w.setCell ⟨b, i, none⟩ v) := Fr.setCell
  have bb := h.blk.set i v
  rw [e] at bb
  exact ⟨_, s, ⟨bb, h.own.fr f (fun y hy hm => by simp at hm; subst hm; exact h.blk.notin h.own (by decide) hy), fun g hg => (h.ok g hg).fr f (fun y hy hm => by simp at hm; subst hm; exact h.blk.notin (h.ok g hg).own (by decide) hy) (fun _ => id), h.ap, h.eb, h.rq, fun y hy => by have := h.lt y hy; have := f.size; omega, h.us, h.le⟩, f⟩

theorem crash34 (h : RD w E b qf es fuse dead) {keep : Int} (hkp : -9223372036854775808 ≤ keep ∧ keep < 9223372036854775808) (hsyn : ∀ f ∈ es, f.syn ≤ f.data.length) :
    ∃ (E' : Nat → Prop) (es' : List RE) (w' : World), callF Try.prog 34 #[.pointer (some ⟨b, 0, none⟩), .int .i64 keep] w = some (.tuple #[], w') ∧ RD w' E' b qf es' (-1) false ∧ es'.map RE.ab = crashA keep (es.map RE.ab) ∧ Chg E w w' E' := by
  have hfl := h.flen
  have hle := h.le
  have hR0 : ∀ k (hk : k < es.length), (es.map RE.ab)[k]'(by simpa using hk) = (es[k].name, es[k].data, es[k].syn) := fun k hk => by simp [RE.ab]
  obtain ⟨t, w1, g1, hs, E1, es1, h1, hm1, hC1⟩ := loopS_countX 0 (b := g34_l1_b (some ⟨b, 0, none⟩) keep) (n := es.length)
    (I := fun k s x => s = (k : Int) ∧ ∃ Ek esk, RD x Ek b qf esk fuse dead ∧ esk.map RE.ab = (crashA keep (es.map RE.ab)).take k ++ (es.map RE.ab).drop k ∧ Chg E w x Ek)
    (fun k s x hk ⟨hs, Ek, esk, hR, hm, hC⟩ => by
      subst hs
      have hlen : esk.length = es.length := by have := congrArg List.length hm; simp [crashA] at this; omega
      have hkk : k < esk.length := by omega
      have hge : esk[k].ab = es[k].ab := by
        have h2 : (esk.map RE.ab)[k]? = some es[k].ab := by
          rw [hm, List.getElem?_append_right (by simp [crashA]; omega)]
          simp [crashA]
          have : k - min k es.length = 0 := by omega
          rw [this, Nat.add_zero, List.getElem?_eq_getElem hk]
          simp
        rw [List.getElem?_eq_getElem (by simpa using hkk), List.getElem_map] at h2
        exact Option.some.inj h2
      have hnm : esk[k].name = es[k].name := congrArg Prod.fst hge
      have hdt : esk[k].data = es[k].data := congrArg (fun p => p.2.1) hge
      have hsy : esk[k].syn = es[k].syn := congrArg (fun p => p.2.2) hge
      obtain ⟨E', es', x', e, hR', hm', hC'⟩ := crash34_round hR hkp hkk (by rw [hdt, hsy]; exact hsyn _ (List.getElem_mem hk))
      refine ⟨_, x', e, rfl, E', es', hR', ?_, hC.trans hC' h.lt⟩
      rw [hm', hm, hnm, hdt, hsy]
      have hcl : ((crashA keep (es.map RE.ab)).take k).length = k := by simp [crashA]; omega
      rw [List.set_append_right _ _ (by rw [hcl]; exact Nat.le_refl _), hcl, Nat.sub_self]
      have hd : (es.map RE.ab).drop k = es[k].ab :: (es.map RE.ab).drop (k + 1) := by
        rw [List.drop_eq_getElem_cons (by simpa using hk), List.getElem_map]
      have ht : (crashA keep (es.map RE.ab)).take (k + 1) = (crashA keep (es.map RE.ab)).take k ++ [(es[k].name, crashV keep (es[k].data, es[k].syn))] := by
        rw [(List.take_append_getElem (by simp [crashA]; omega)).symm]
        congr 1
        simp [crashA, RE.ab]
      rw [hd, ht, List.set_cons_zero, List.append_assoc]
      rfl)
    (fun s x ⟨hs, Ek, esk, hR, hm, hC⟩ => by
      subst hs
      have hlen : esk.length = es.length := by have := congrArg List.length hm; simp [crashA] at this; omega
      have hfl2 := hR.flen
      have k0 : decide ((es.length : Int) < (qf.2.1 : Int)) = false := by simp; omega
      unfold g34_l1_b
      simp only [hR.c0, k0, obs, asP_pointer, asB_bool, asI_int, asS_string, asSl_slice, asM_map, asTup0, asTup1, asTup2, asTup3, asTup4, asTup5, asTup6, asTup7, asTup8, asTup9, asAgg2, asAgg3, asAgg4, asAgg5, asAgg6, asAgg7, asAgg8, asAgg9, asAgg12, getD0, getD1, getD2, getD3, getD4, getD5, getD6, getD7, getD8, getD9, getD10, getD11, getD12, getD13, getD14, getD15, getD16, getD17, getD18, getD19, Bool.not_true, Bool.not_false, Bool.false_eq_true, Bool.true_eq_false, ↓reduceIte, decide_true, decide_false, Option.isNone_some, Option.isNone_none, Option.isSome_some, Option.isSome_none, beq_self_eq_true, bne_self_eq_false, Bool.and_true, Bool.true_and, Bool.and_false, Bool.false_and, not_true_eq_false, not_false_eq_true]) (k := 0) (s := 0) (w := w) (Nat.zero_le _) ⟨rfl, E, es, h, by simp, Chg.refl _ _⟩
  obtain ⟨w2, s2, h2, f2⟩ := h1.put1 (i := 2) (by decide) (v := .bool false) rfl (fuse' := fuse) (dead' := false) rfl
  obtain ⟨w3, s3, h3, f3⟩ := h2.put1 (i := 1) (by decide) (v := .int .i64 (-1)) rfl (fuse' := -1) (dead' := false) rfl
  have C2 : Chg E1 w1 w2 E1 := ⟨⟨[b], f2, fun y hy => by simp at hy; subst hy; exact h1.eb⟩, fun _ => id, fun _ => .inl⟩
  have C3 : Chg E1 w2 w3 E1 := ⟨⟨[b], f3, fun y hy => by simp at hy; subst hy; exact h1.eb⟩, fun _ => id, fun _ => .inl⟩
  refine ⟨E1, es1, w3, g34_call ?_, h3, ?_, (hC1.trans C2 h.lt).trans C3 h.lt⟩
  · unfold g34
    rw [g34_l1_x0_of g1]
    unfold g34_l1_x0
    simp only [addr_add, Nat.zero_add, s2, s3, obs, asP_pointer, asB_bool, asI_int, asS_string, asSl_slice, asM_map, asTup0, asTup1, asTup2, asTup3, asTup4, asTup5, asTup6, asTup7, asTup8, asTup9, asAgg2, asAgg3, asAgg4, asAgg5, asAgg6, asAgg7, asAgg8, asAgg9, asAgg12, getD0, getD1, getD2, getD3, getD4, getD5, getD6, getD7, getD8, getD9, getD10, getD11, getD12, getD13, getD14, getD15, getD16, getD17, getD18, getD19, Bool.not_true, Bool.not_false, Bool.false_eq_true, Bool.true_eq_false, ↓reduceIte, decide_true, decide_false, Option.isNone_some, Option.isNone_none, Option.isSome_some, Option.isSome_none, beq_self_eq_true, bne_self_eq_false, Bool.and_true, Bool.true_and, Bool.and_false, Bool.false_and, not_true_eq_false, not_false_eq_true]
  · rw [hm1, List.take_of_length_le (by simp [crashA]), List.drop_of_length_le (by simp), List.append_nil]
end
end Go.Proofs.Ytkmidlhnlnolnaa
