/-
  ImageN: lemmas on what Go functions of this seat come to (for whatever arguments, as each says). No condition but those that stand in each lemma.
-/
import Derived.Test.YtjcenfgmpbeldaaImageM
namespace Go.Proofs.Ytjcenfgmpbeldaa
open Go Go.Ev
set_option maxRecDepth 100000
set_option linter.unusedVariables false
set_option linter.unusedSimpArgs false

/-- the first k are turned -/
def mt {α : Type} (f : α → α) (l : List α) (k : Nat) : List α := (l.take k).map f ++ l.drop k
theorem mt_len {α : Type} (f : α → α) (l : List α) (k : Nat) : (mt f l k).length = l.length := by simp [mt]; omega
theorem mt_zero {α : Type} (f : α → α) (l : List α) : mt f l 0 = l := by simp [mt]
theorem mt_all {α : Type} (f : α → α) (l : List α) : mt f l l.length = l.map f := by simp [mt]
theorem mt_get {α : Type} (f : α → α) (l : List α) {k : Nat} (hk : k < l.length) : (mt f l k)[k]'(by rw [mt_len]; exact hk) = l[k] := by
  unfold mt
  rw [List.getElem_append_right (by simp; omega)]
  simp [Nat.min_eq_left (Nat.le_of_lt hk)]
theorem mt_succ {α : Type} (f : α → α) (l : List α) {k : Nat} (hk : k < l.length) : mt f l (k + 1) = (mt f l k).set k (f l[k]) := by
  unfold mt
  rw [List.take_succ_eq_append_getElem hk, List.map_append, List.set_append_right _ _ (by simp; omega)]
  have e : k - ((l.take k).map f).length = 0 := by simp; omega
  have hd : l.drop k = l[k] :: l.drop (k + 1) := List.drop_eq_getElem_cons hk
  rw [e, hd, List.set_cons_zero, List.map_cons, List.map_nil, List.append_assoc, List.singleton_append]

def joinV (ns : List NV) (n : Int) (v : PV) : PV := if v.ld = n ∨ v.ld < 0 ∧ n ∈ v.isr then electV ns v else v
def onE (f : PV → PV) (e : PE) : PE := { e with v := f e.v }

section
variable {w : World} {D : Nat → Prop} {b c : Nat} {nq pq : Sh} {ns : List NV} {es : List PE} {next count : Int}

theorem join37 (h : Raw w D b c nq pq ns es next count) {n : Nat} (hn : n < ns.length) (t : Int) (hnm : ∀ e ∈ es, Names ns e.v.isr) (hel : es.length ≤ 1000) :
    ∃ w', callF Try.prog 37 #[.pointer (some ⟨b, 0, none⟩), .int .i64 (n : Int), .int .i64 t] w = some (.int .i64 (if t ≤ ns[n].cm then 5 else 0), w') ∧
      Raw w' D b c nq pq (if t ≤ ns[n].cm then ns else ns.set n { ns[n] with al := true, cm := t }) (if t ≤ ns[n].cm then es else es.map (onE (joinV (ns.set n { ns[n] with al := true, cm := t }) (n : Int)))) next count ∧ (∃ S, Fr S w w' ∧ ∀ y ∈ S, D y) := by
  have c0 : w.cell? ⟨b, 0, none⟩ = some (.slice nq.1 nq.2.1 nq.2.2) := h.tbl.cell 0
  obtain ⟨a, i1, r0, r1, r2⟩ := h.node_at hn
  by_cases ht : t ≤ ns[n].cm
  · rw [if_pos ht, if_pos ht, if_pos ht]
    have k1 : decide (t ≤ ns[n].cm) = true := by simp [ht]
    refine ⟨w, g37_call ?_, h, ⟨[], Fr.refl _ _, by simp⟩⟩
    unfold g37
    simp only [c0, i1, r1, k1, obs, asP_pointer, asB_bool, asI_int, asS_string, asSl_slice, asM_map, asTup0, asTup1, asTup2, asTup3, asTup4, asTup5, asTup6, asTup7, asTup8, asTup9, asAgg2, asAgg3, asAgg4, asAgg5, asAgg6, asAgg7, asAgg8, asAgg9, asAgg12, getD0, getD1, getD2, getD3, getD4, getD5, getD6, getD7, getD8, getD9, getD10, getD11, getD12, getD13, getD14, getD15, getD16, getD17, getD18, getD19, Bool.not_true, Bool.not_false, Bool.false_eq_true, Bool.true_eq_false, ↓reduceIte, decide_true, decide_false, Option.isNone_some, Option.isNone_none, Option.isSome_some, Option.isSome_none, beq_self_eq_true, bne_self_eq_false, Bool.and_true, Bool.true_and, Bool.and_false, Bool.false_and, not_true_eq_false, not_false_eq_true]
  rw [if_neg ht, if_neg ht, if_neg ht]
  have k1 : decide (t ≤ ns[n].cm) = false := by simp; omega
  have fd := Fr.drew [] w
  have hd := h.fr fd (by simp)
  have d0 : w.drew.cell? ⟨b, 0, none⟩ = some (.slice nq.1 nq.2.1 nq.2.2) := hd.tbl.cell 0
  obtain ⟨a1, w1, j1, s1, R1, f1⟩ := hd.setN hn (j := 0) (by decide) { ns[n] with al := true } (.bool true) rfl rfl
  have hn1 : n < (ns.set n { ns[n] with al := true }).length := by simpa using hn
  have hg1 : (ns.set n { ns[n] with al := true })[n] = { ns[n] with al := true } := by simp
  obtain ⟨a2, w2, j2, s2, R2, f2⟩ := R1.setN hn1 (j := 1) (by decide) { ns[n] with al := true, cm := t } (.int .i64 t) rfl (by rw [hg1]; rfl)
  rw [List.set_set] at R2
  rw [i1] at j1 j2
  cases j1
  cases j2
  obtain ⟨ns', hns'⟩ : ∃ ns', ns.set n { ns[n] with al := true, cm := t } = ns' := ⟨_, rfl⟩
  rw [hns'] at R2 ⊢
  have hnl : ns'.length = ns.length := by rw [← hns']; simp
  have hnm' : ∀ e ∈ es, Names ns' e.v.isr := fun e he x hx => by rw [hnl]; exact hnm e he x hx
  have p1 : w2.cell? ⟨b, 1, none⟩ = some (.slice pq.1 pq.2.1 pq.2.2) := R2.tbl.cell 1
  have hpl := R2.plen
  obtain ⟨tt, w3, g1, rfl, R3, f3⟩ := loopS_countX 0 (b := g37_l21_b pq (some ⟨b, 0, none⟩) (n : Int)) (I := fun k s x => s = (k : Int) ∧ Raw x D b c nq pq ns' (mt (onE (joinV ns' (n : Int))) es k) next count ∧ Fr (blkOf pq) w2 x) (n := es.length)
    (fun k s x hk ⟨hs, R, hf⟩ => by
      subst hs
      have hkm : k < (mt (onE (joinV ns' (n : Int))) es k).length := by rw [mt_len]; exact hk
      have hget := mt_get (onE (joinV ns' (n : Int))) es hk
      obtain ⟨g, o, ha, _⟩ := R.part_addr hkm
      have cc := fun j (hj : j < 6) => R.part_cell hkm ha (j := j) hj
      have hok := R.ok _ (List.getElem_mem hkm)
      rw [hget] at cc hok
      have cc0 : x.cell? ⟨g, o, none⟩ = some (.int .i64 es[k].v.ld) := cc 0 (by decide)
      have cc3 : x.cell? ⟨g, o + 3, none⟩ = some (.slice es[k].qi.1 es[k].qi.2.1 es[k].qi.2.2) := cc 3 (by decide)
      have px : x.cell? ⟨b, 1, none⟩ = some (.slice pq.1 pq.2.1 pq.2.2) := R.tbl.cell 1
      have k0 : decide ((k : Int) < (pq.2.1 : Int)) = true := by simp; omega
      have hw := wrap_succ (n := k) (by omega)
      have hl1 := hok.len.1
      have ec := contains32 (w := x) hok.oi.slC (by omega) (n : Int)
      have hx1 := hnm' es[k] (List.getElem_mem hk)
      have he := elect71 R hkm ha (by rw [hget]; exact hx1)
      rw [hget] at he
      rw [mt_succ _ _ hk]
      have stay : onE (joinV ns' (n : Int)) es[k] = es[k] → (mt (onE (joinV ns' (n : Int))) es k).set k (onE (joinV ns' (n : Int)) es[k]) = mt (onE (joinV ns' (n : Int))) es k := by
        intro hh
        rw [hh]
        have := List.set_getElem_self hkm
        rw [hget] at this
        exact this
      by_cases h1 : es[k].v.ld = (n : Int)
      · obtain ⟨x', e71, R', f'⟩ := he
        have q1 : (es[k].v.ld == (n : Int)) = true := by simp [h1]
        have hj : onE (joinV ns' (n : Int)) es[k] = { es[k] with v := electV ns' es[k].v } := by unfold onE joinV; rw [if_pos (.inl h1)]
        rw [hj]
        refine ⟨_, x', ?_, rfl, R', (hf.app f').mono (by intro y hy _; simpa using hy)⟩
        unfold g37_l21_b
        simp only [k0, addr_add, Nat.zero_add, px, ha, cc0, q1, e71, hw, obs, asP_pointer, asB_bool, asI_int, asS_string, asSl_slice, asM_map, asTup0, asTup1, asTup2, asTup3, asTup4, asTup5, asTup6, asTup7, asTup8, asTup9, asAgg2, asAgg3, asAgg4, asAgg5, asAgg6, asAgg7, asAgg8, asAgg9, asAgg12, getD0, getD1, getD2, getD3, getD4, getD5, getD6, getD7, getD8, getD9, getD10, getD11, getD12, getD13, getD14, getD15, getD16, getD17, getD18, getD19, Bool.not_true, Bool.not_false, Bool.false_eq_true, Bool.true_eq_false, ↓reduceIte, decide_true, decide_false, Option.isNone_some, Option.isNone_none, Option.isSome_some, Option.isSome_none, beq_self_eq_true, bne_self_eq_false, Bool.and_true, Bool.true_and, Bool.and_false, Bool.false_and, not_true_eq_false, not_false_eq_true]
      · have q1 : (es[k].v.ld == (n : Int)) = false := by simp [h1]
        by_cases h2 : es[k].v.ld < 0
        · have q2 : decide (es[k].v.ld < 0) = true := by simp [h2]
          by_cases h3 : (n : Int) ∈ es[k].v.isr
          · obtain ⟨x', e71, R', f'⟩ := he
            have q3 : decide ((n : Int) ∈ es[k].v.isr) = true := by simp [h3]
            have hj : onE (joinV ns' (n : Int)) es[k] = { es[k] with v := electV ns' es[k].v } := by unfold onE joinV; rw [if_pos (.inr ⟨h2, h3⟩)]
            rw [hj]
            refine ⟨_, x', ?_, rfl, R', (hf.app f').mono (by intro y hy _; simpa using hy)⟩
            unfold g37_l21_b
            simp only [k0, addr_add, Nat.zero_add, px, ha, cc0, q1, q2, cc3, ec, q3, e71, hw, obs, asP_pointer, asB_bool, asI_int, asS_string, asSl_slice, asM_map, asTup0, asTup1, asTup2, asTup3, asTup4, asTup5, asTup6, asTup7, asTup8, asTup9, asAgg2, asAgg3, asAgg4, asAgg5, asAgg6, asAgg7, asAgg8, asAgg9, asAgg12, getD0, getD1, getD2, getD3, getD4, getD5, getD6, getD7, getD8, getD9, getD10, getD11, getD12, getD13, getD14, getD15, getD16, getD17, getD18, getD19, Bool.not_true, Bool.not_false, Bool.false_eq_true, Bool.true_eq_false, ↓reduceIte, decide_true, decide_false, Option.isNone_some, Option.isNone_none, Option.isSome_some, Option.isSome_none, beq_self_eq_true, bne_self_eq_false, Bool.and_true, Bool.true_and, Bool.and_false, Bool.false_and, not_true_eq_false, not_false_eq_true]
          · have q3 : decide ((n : Int) ∈ es[k].v.isr) = false := by simp [h3]
            have hj : onE (joinV ns' (n : Int)) es[k] = es[k] := by unfold onE joinV; rw [if_neg (by rintro (hh | hh); exact h1 hh; exact h3 hh.2)]
            rw [stay hj]
            refine ⟨_, x, ?_, rfl, R, hf⟩
            unfold g37_l21_b
            simp only [k0, addr_add, Nat.zero_add, px, ha, cc0, q1, q2, cc3, ec, q3, hw, obs, asP_pointer, asB_bool, asI_int, asS_string, asSl_slice, asM_map, asTup0, asTup1, asTup2, asTup3, asTup4, asTup5, asTup6, asTup7, asTup8, asTup9, asAgg2, asAgg3, asAgg4, asAgg5, asAgg6, asAgg7, asAgg8, asAgg9, asAgg12, getD0, getD1, getD2, getD3, getD4, getD5, getD6, getD7, getD8, getD9, getD10, getD11, getD12, getD13, getD14, getD15, getD16, getD17, getD18, getD19, Bool.not_true, Bool.not_false, Bool.false_eq_true, Bool.true_eq_false, ↓reduceIte, decide_true, decide_false, Option.isNone_some, Option.isNone_none, Option.isSome_some, Option.isSome_none, beq_self_eq_true, bne_self_eq_false, Bool.and_true, Bool.true_and, Bool.and_false, Bool.false_and, not_true_eq_false, not_false_eq_true]
        · have q2 : decide (es[k].v.ld < 0) = false := by simp; omega
          have hj : onE (joinV ns' (n : Int)) es[k] = es[k] := by unfold onE joinV; rw [if_neg (by rintro (hh | hh); exact h1 hh; exact h2 hh.1)]
          rw [stay hj]
          refine ⟨_, x, ?_, rfl, R, hf⟩
          unfold g37_l21_b
          simp only [k0, addr_add, Nat.zero_add, px, ha, cc0, q1, q2, hw, obs, asP_pointer, asB_bool, asI_int, asS_string, asSl_slice, asM_map, asTup0, asTup1, asTup2, asTup3, asTup4, asTup5, asTup6, asTup7, asTup8, asTup9, asAgg2, asAgg3, asAgg4, asAgg5, asAgg6, asAgg7, asAgg8, asAgg9, asAgg12, getD0, getD1, getD2, getD3, getD4, getD5, getD6, getD7, getD8, getD9, getD10, getD11, getD12, getD13, getD14, getD15, getD16, getD17, getD18, getD19, Bool.not_true, Bool.not_false, Bool.false_eq_true, Bool.true_eq_false, ↓reduceIte, decide_true, decide_false, Option.isNone_some, Option.isNone_none, Option.isSome_some, Option.isSome_none, beq_self_eq_true, bne_self_eq_false, Bool.and_true, Bool.true_and, Bool.and_false, Bool.false_and, not_true_eq_false, not_false_eq_true])
    (fun s x ⟨hs, _⟩ => by
      subst hs
      unfold g37_l21_b
      have k0 : decide ((es.length : Int) < (pq.2.1 : Int)) = false := by simp; omega
      simp only [k0, Bool.false_eq_true, if_false]) (k := 0) (s := 0) (w := w2) (Nat.zero_le _) ⟨rfl, by rw [mt_zero]; exact R2, Fr.refl _ _⟩
  rw [mt_all] at R3
  have rn := h.rn
  have rp := h.rp
  refine ⟨w3, g37_call ?_, R3, ⟨blkOf nq ++ blkOf pq, ((((fd.app f1).app f2).app f3)).mono (by intro y hy _; simpa using hy), fun y hy => by rcases List.mem_append.mp hy with hy | hy; exact rn y hy; exact rp y hy⟩⟩
  have s1' : st1 w.drew a (.bool true) = some w1 := by
    have : Addr.add a 0 = a := by unfold Addr.add; simp
    rw [this] at s1; exact s1
  unfold g37
  simp only [c0, i1, r1, k1, d0, s1', s2, addr_add, Nat.zero_add, p1, obs, asP_pointer, asB_bool, asI_int, asS_string, asSl_slice, asM_map, asTup0, asTup1, asTup2, asTup3, asTup4, asTup5, asTup6, asTup7, asTup8, asTup9, asAgg2, asAgg3, asAgg4, asAgg5, asAgg6, asAgg7, asAgg8, asAgg9, asAgg12, getD0, getD1, getD2, getD3, getD4, getD5, getD6, getD7, getD8, getD9, getD10, getD11, getD12, getD13, getD14, getD15, getD16, getD17, getD18, getD19, Bool.not_true, Bool.not_false, Bool.false_eq_true, Bool.true_eq_false, ↓reduceIte, decide_true, decide_false, Option.isNone_some, Option.isNone_none, Option.isSome_some, Option.isSome_none, beq_self_eq_true, bne_self_eq_false, Bool.and_true, Bool.true_and, Bool.and_false, Bool.false_and, not_true_eq_false, not_false_eq_true]
  rw [g37_l21_x0_of g1, g37_l21_x0]
end
end Go.Proofs.Ytjcenfgmpbeldaa
