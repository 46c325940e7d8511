/-
  FrameL: lemmas on what Go functions of this seat come to (for whatever arguments, as each says). No condition but those that stand in each lemma.
-/
import Derived.Test.YteekaakkaogpeaaFrameK
namespace Go.Proofs.Yteekaakkaogpeaa
open Go Go.Ev Go.Crc
set_option maxRecDepth 100000
set_option linter.unusedVariables false
set_option linter.unusedSimpArgs false
section
variable {w : World}

/-- a list with one more -/
theorem push22 {B : Nat → Prop} {E : World → (Option Addr × Nat × Nat) → List Int → Prop} (hE : Stays B E) {v q : Option Addr × Nat × Nat} {ps : List (List Int)} {p : List Int} (h : LsO 22 B E w v ps) (hq : E w q p)
    (hd : ∀ (q' : Option Addr × Nat × Nat) (p' : List Int) (w' : World), E w q' p' → Fr (blkOf v) w w' → E w' q' p') (hl : ps.length ≤ 1073741824) (hB : ∀ y, w.heap.size ≤ y → B y) (cs : Array Bool) :
    ∃ v' w', callB Try.prog .append #[37, 37] 37 cs #[.slice v.1 v.2.1 v.2.2, .slice (some ⟨w.heap.size, 0, none⟩) 1 1] (w.alloc (.cells #[.slice q.1 q.2.1 q.2.2] 22)) = some (.slice v'.1 v'.2.1 v'.2.2, w') ∧
      LsO 22 B E w' v' (ps ++ [p]) ∧ Fr (blkOf v) w w' ∧ (v'.1 = v.1 ∨ ∀ y ∈ blkOf v', w.heap.size ≤ y) := by
  obtain ⟨qs, h1, h2, h3, h4⟩ := h
  obtain ⟨v', w', e, o, f, hv⟩ := app22 (q := q) h1 (by omega) cs
  refine ⟨v', w', e, ⟨qs ++ [q], o, by simp [h2], ?_, fun i hi hi' => ?_⟩, f, hv⟩
  · rcases hv with hv | hv
    · intro y hy; refine h3 y ?_; simp only [blkOf] at hy ⊢; rw [hv] at hy; exact hy
    · intro y hy; exact hB y (hv y hy)
  · simp only [List.length_append, List.length_cons, List.length_nil] at hi hi'
    rcases Nat.lt_or_ge i ps.length with hlt | hge
    · rw [List.getElem_append_left (by omega), List.getElem_append_left hlt]
      exact hd _ _ _ (h4 i hlt (by omega)) f
    · have : i = ps.length := by omega
      subst this
      have e1 : (qs ++ [q])[ps.length]'(by simp; omega) = q := by rw [List.getElem_append_right (by omega)]; simp [h2]
      have e2 : (ps ++ [p])[ps.length]'(by simp) = p := by rw [List.getElem_append_right (by omega)]; simp
      rw [e1, e2]
      exact hd _ _ _ hq f

theorem dec_bound {bs : List Int} (h : bs.length ≤ 1073741824) : (dec bs).2.1 ≤ 1073741824 := by
  by_cases h0 : (dec bs).2.2 = 0
  · have := dec_ok h0; omega
  · unfold dec at *
    split
    · simp
    · rename_i h1
      rw [if_neg h1] at h0
      simp only at *
      split
      · simp
      · rename_i h2
        rw [if_neg h2] at h0
        split
        · simp
        · rename_i h3
          rw [if_neg h3] at h0
          split
          · rename_i h4; rw [if_pos h4] at h0; simp at h0
          · simp

theorem zs_drop {bs : List Int} (h : Zs bs) (k : Nat) : Zs (bs.drop k) := fun z hm => h z (List.mem_of_mem_drop hm)
theorem zs_take {bs : List Int} (h : Zs bs) (k : Nat) : Zs (bs.take k) := fun z hm => h z (List.mem_of_mem_take hm)

/-- what a framer takes of these bytes -/
theorem scan18 {fb tb : Nat} {u : Option Addr × Nat × Nat} {bs : List Int} (h : Fm w fb tb) (hu : Sl8 w u bs) (hz : Zs bs) (hcap : u.2.1 ≤ u.2.2) (hd : 0 < bs.length → tb ∉ blkOf u) (hl : bs.length ≤ 1073741824) :
    ∃ v' w', callF Try.prog 18 #[.pointer (some ⟨fb, 0, none⟩), .slice u.1 u.2.1 u.2.2] w = some (.tuple #[.slice v'.1 v'.2.1 v'.2.2, .int .i64 ((scan bs).2.1 : Int), .int .i64 (scan bs).2.2], w') ∧
      LsO 22 (fun y => w.heap.size ≤ y) (ElO 5 .u8 (fun y => w.heap.size ≤ y)) w' v' (scan bs).1 ∧ Fm w' fb tb ∧ Fr [tb] w w' := by
  have hul := hu.1
  have htl := h.tbl.lt
  have hfl := h.blk.lt
  obtain ⟨e, s, w', g1, g2⟩ := loopS_meas (b := g18_l1_b u (some ⟨fb, 0, none⟩))
    (I := fun s x => ∃ v ps a, s = ((none, 0, 0), 0, 0, v, ((a : Nat) : Int)) ∧ a ≤ bs.length ∧ 8 * ps.length ≤ a ∧ LsO 22 (fun y => w.heap.size ≤ y) (ElO 5 .u8 (fun y => w.heap.size ≤ y)) x v ps ∧ Fm x fb tb ∧ Fr [tb] w x ∧
      scan bs = (ps ++ (scan (bs.drop a)).1, a + (scan (bs.drop a)).2.1, (scan (bs.drop a)).2.2))
    (Q := fun e s x => (∃ t : (Option Addr × Nat × Nat) × Int × Int, (e = .exit 0 ∧ s = ((none, 0, 0), 0, 0, t.1, t.2.1) ∧ t.2.2 = 0 ∨ e = .ret ∧ s.1 = t.1 ∧ s.2.1 = t.2.1 ∧ s.2.2.1 = t.2.2) ∧ t.2.1 = ((scan bs).2.1 : Int) ∧ t.2.2 = (scan bs).2.2 ∧
      LsO 22 (fun y => w.heap.size ≤ y) (ElO 5 .u8 (fun y => w.heap.size ≤ y)) x t.1 (scan bs).1) ∧ Fm x fb tb ∧ Fr [tb] w x)
    (fun s => bs.length - s.2.2.2.2.toNat)
    (fun s x ⟨v, ps, a, hs, ha, hpa, hL, hF, hf, hsc⟩ => by
      subst hs
      by_cases hlt : a < bs.length
      · have hc : ((a : Nat) : Int) < (u.2.1 : Int) := by omega
        have hux := hu.fr3 hf (by intro h0 y hy hm; simp at hm; subst hm; exact hd (by omega) hy)
        obtain ⟨q, eq, uq, bq⟩ := slc_lo hux (j := a) ha hcap
        have hql : q.2.1 ≤ q.2.2 := by
          simp only [slc_from (n := 1) (show a ≤ u.2.1 by omega) hcap, Option.some.injEq] at eq
          rw [← eq]; show u.2.1 - a ≤ u.2.2 - a; omega
        obtain ⟨q8, x2, e2, o2, m2, f2, hq8⟩ := decode16 hF uq (zs_drop hz a) hql (fun h0 hm => hd (by simp at h0; omega) (bq _ hm)) (by simp; omega)
        have z2 := f2.size
        have z0 := hf.size
        have hne0 : ¬ (bs.drop a).length = 0 := by simp; omega
        by_cases hok : (dec (bs.drop a)).2.2 = 0
        · have hdk := dec_ok hok
          have hL2 := hL.fr (stays_o _ _ _) f2 (by grind)
          obtain ⟨v3, x3, e3, L3, f3, hv3⟩ := push22 (stays_o 5 .u8 _) (p := (dec (bs.drop a)).1) hL2 ⟨o2, fun y hy => by have := hq8 y hy; omega⟩
            (fun q' p' w' ⟨k1, k2⟩ kf => ⟨k1.fr kf (by obtain ⟨qs, h1, _⟩ := hL2; exact Own.apart k1 h1 (by decide)), k2⟩) (by omega) (by intro y hy; omega) #[false, false]
          have hbl : ∀ y ∈ blkOf v, w.heap.size ≤ y := by obtain ⟨qs, _, _, h3, _⟩ := hL; exact h3
          have z3 := f3.size
          have hww : IntKind.i64.wrap (((a : Nat) : Int) + ((dec (bs.drop a)).2.1 : Int)) = ((a + (dec (bs.drop a)).2.1 : Nat) : Int) := by
            have := @dec_bound (bs.drop a) (by simp; omega)
            rw [wrap_i64 (by omega) (by omega)]; omega
          have hlen : (bs.drop a).length = bs.length - a := List.length_drop
          refine ⟨.normal, ((none, 0, 0), 0, 0, v3, ((a + (dec (bs.drop a)).2.1 : Nat) : Int)), x3, ?_, .inl ⟨rfl, ⟨v3, ps ++ [(dec (bs.drop a)).1], a + (dec (bs.drop a)).2.1, rfl, by omega, by simp; omega, L3, ?_, (Fr.mono (Fr.app (Fr.app hf f2) f3) (by have z0_ := Fr.size hf; have z1_ := Fr.size f2; have z2_ := Fr.size f3; intro y_ hy_ hl_; grind [blkOf])), ?_⟩, by simp; omega⟩⟩
          · have hz0 : ((dec (bs.drop a)).2.2 != 0) = false := by simpa using hok
            unfold g18_l1_b
            simp only [hc, eq, e2, hz0, e3, hww, Option.bind_some, asP_pointer, asB_bool, asI_int, asS_string, asSl_slice, asM_map, asTup0, asTup1, asTup2, asTup3, asTup4, asTup5, getD0, getD1, getD2, getD3, getD4, Bool.not_true, Bool.not_false, Bool.false_eq_true, Bool.true_eq_false, ↓reduceIte, decide_true, decide_false, Option.isNone_some, Option.isNone_none, Option.isSome_some, Option.isSome_none, beq_self_eq_true, bne_self_eq_false, Bool.and_true, Bool.true_and, Bool.and_false, Bool.false_and, not_true_eq_false, not_false_eq_true]
          · exact m2.fr f3 (by grind) (by grind)
          · rw [hsc, scan_ok hne0 hok, List.drop_drop]
            simp [Nat.add_assoc]
        · refine ⟨.ret, (v, ((a : Nat) : Int), (dec (bs.drop a)).2.2, v, ((a : Nat) : Int)), x2, ?_, .inr ⟨by simp, ⟨(v, ((a : Nat) : Int), (dec (bs.drop a)).2.2), .inr ⟨rfl, rfl, rfl, rfl⟩, ?_⟩, m2, (Fr.mono (Fr.app hf f2) (by have z0_ := Fr.size hf; have z1_ := Fr.size f2; intro y_ hy_ hl_; grind [blkOf]))⟩⟩
          · have hz0 : ((dec (bs.drop a)).2.2 != 0) = true := by simpa using hok
            unfold g18_l1_b
            simp only [hc, eq, e2, hz0, Option.bind_some, asP_pointer, asB_bool, asI_int, asS_string, asSl_slice, asM_map, asTup0, asTup1, asTup2, asTup3, asTup4, asTup5, getD0, getD1, getD2, getD3, getD4, Bool.not_true, Bool.not_false, Bool.false_eq_true, Bool.true_eq_false, ↓reduceIte, decide_true, decide_false, Option.isNone_some, Option.isNone_none, Option.isSome_some, Option.isSome_none, beq_self_eq_true, bne_self_eq_false, Bool.and_true, Bool.true_and, Bool.and_false, Bool.false_and, not_true_eq_false, not_false_eq_true]
          · rw [hsc, scan_bad hne0 hok]
            simp only [List.append_nil, Nat.add_zero, true_and]
            exact hL.fr (stays_o _ _ _) f2 (by grind)
      · have hc : ¬ ((a : Nat) : Int) < (u.2.1 : Int) := by omega
        refine ⟨.exit 0, ((none, 0, 0), 0, 0, v, ((a : Nat) : Int)), x, ?_, .inr ⟨by simp, ⟨(v, ((a : Nat) : Int), 0), .inl ⟨rfl, rfl, rfl⟩, ?_⟩, hF, hf⟩⟩
        · unfold g18_l1_b
          simp only [hc, Option.bind_some, asP_pointer, asB_bool, asI_int, asS_string, asSl_slice, asM_map, asTup0, asTup1, asTup2, asTup3, asTup4, asTup5, getD0, getD1, getD2, getD3, getD4, Bool.not_true, Bool.not_false, Bool.false_eq_true, Bool.true_eq_false, ↓reduceIte, decide_true, decide_false, Option.isNone_some, Option.isNone_none, Option.isSome_some, Option.isSome_none, beq_self_eq_true, bne_self_eq_false, Bool.and_true, Bool.true_and, Bool.and_false, Bool.false_and, not_true_eq_false, not_false_eq_true]
        · rw [hsc, scan_nil (by simp; omega)]
          simp only [List.append_nil, Nat.add_zero, true_and]
          exact hL) (s := ((none, 0, 0), 0, 0, (none, 0, 0), 0)) (w := w)
    ⟨(none, 0, 0), [], 0, rfl, by omega, by simp, LsO.nil, h, Fr.refl _ _, by simp⟩
  obtain ⟨⟨t, ht, t1, t2, t3⟩, hF, hf⟩ := g2
  refine ⟨t.1, w', g18_call ?_, t3, hF, hf⟩
  rw [← t1, ← t2]
  rcases ht with ⟨rfl, rfl, h0⟩ | ⟨rfl, h1, h2, h3⟩
  · unfold g18
    simp only [g18_l1_x0_of g1, g18_l1_x0, h0, Option.bind_some, asP_pointer, asB_bool, asI_int, asS_string, asSl_slice, asM_map, asTup0, asTup1, asTup2, asTup3, asTup4, asTup5, getD0, getD1, getD2, getD3, getD4, Bool.not_true, Bool.not_false, Bool.false_eq_true, Bool.true_eq_false, ↓reduceIte, decide_true, decide_false, Option.isNone_some, Option.isNone_none, Option.isSome_some, Option.isSome_none, beq_self_eq_true, bne_self_eq_false, Bool.and_true, Bool.true_and, Bool.and_false, Bool.false_and, not_true_eq_false, not_false_eq_true]
  · unfold g18
    simp only [g18_l1_ret_of g1, g18_l1_ret, h1, h2, h3, Option.bind_some, asP_pointer, asB_bool, asI_int, asS_string, asSl_slice, asM_map, asTup0, asTup1, asTup2, asTup3, asTup4, asTup5, getD0, getD1, getD2, getD3, getD4, Bool.not_true, Bool.not_false, Bool.false_eq_true, Bool.true_eq_false, ↓reduceIte, decide_true, decide_false, Option.isNone_some, Option.isNone_none, Option.isSome_some, Option.isSome_none, beq_self_eq_true, bne_self_eq_false, Bool.and_true, Bool.true_and, Bool.and_false, Bool.false_and, not_true_eq_false, not_false_eq_true]
end
end Go.Proofs.Yteekaakkaogpeaa
