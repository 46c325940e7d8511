/-
  FrameM: lemmas on what Go functions of this seat come to (for whatever arguments, as each says). No condition but those that stand in each lemma.
-/
import Derived.Test.YteekaakkaogpeaaFrameL
namespace Go.Proofs.Yteekaakkaogpeaa
open Go Go.Ev Go.Crc
set_option maxRecDepth 100000
set_option linter.unusedVariables false
set_option linter.unusedSimpArgs false
section
variable {w : World}

/-- where a list of slices of another's bytes lies -/
def InU (w : World) (u : Option Addr × Nat × Nat) (y : Nat) : Prop := y ∈ blkOf u ∨ w.heap.size ≤ y

/-- what the document takes of these bytes -/
theorem docscan17 {u : Option Addr × Nat × Nat} {bs : List Int} (hu : Sl8 w u bs) (hz : Zs bs) (hcap : u.2.1 ≤ u.2.2) (hl : bs.length ≤ 1073741824) (hlt : ∀ y ∈ blkOf u, y < w.heap.size) :
    ∃ v' w', callF Try.prog 17 #[.slice u.1 u.2.1 u.2.2] w = some (.tuple #[.slice v'.1 v'.2.1 v'.2.2, .int .i64 ((scan bs).2.1 : Int), .int .i64 (scan bs).2.2], w') ∧
      Lst .u8 w' (InU w u) v' (scan bs).1 ∧ Fr [] w w' := by
  have hul := hu.1
  have hCB : ∀ y, (y ∈ blkOf u) → InU w u y := fun y hy => .inl hy
  obtain ⟨e, s, w', g1, g2⟩ := loopS_meas (b := g17_l1_b u)
    (I := fun s x => ∃ v ps a, s = ((none, 0, 0), 0, 0, v, ((a : Nat) : Int)) ∧ a ≤ bs.length ∧ 8 * ps.length ≤ a ∧ (LsO 22 (InU w u) (ElR .u8 (fun y => y ∈ blkOf u)) x v ps ∧ ∀ y ∈ blkOf v, w.heap.size ≤ y) ∧ Fr [] w x ∧
      scan bs = (ps ++ (scan (bs.drop a)).1, a + (scan (bs.drop a)).2.1, (scan (bs.drop a)).2.2))
    (Q := fun e s x => (∃ t : (Option Addr × Nat × Nat) × Int × Int, (e = .exit 0 ∧ s = ((none, 0, 0), 0, 0, t.1, t.2.1) ∧ t.2.2 = 0 ∨ e = .ret ∧ s.1 = t.1 ∧ s.2.1 = t.2.1 ∧ s.2.2.1 = t.2.2) ∧ t.2.1 = ((scan bs).2.1 : Int) ∧ t.2.2 = (scan bs).2.2 ∧
      LsO 22 (InU w u) (ElR .u8 (fun y => y ∈ blkOf u)) x t.1 (scan bs).1) ∧ Fr [] w x)
    (fun s => bs.length - s.2.2.2.2.toNat)
    (fun s x ⟨v, ps, a, hs, ha, hpa, ⟨hL, hvl⟩, hf, hsc⟩ => by
      subst hs
      by_cases hlt' : a < bs.length
      · have hc : ((a : Nat) : Int) < (u.2.1 : Int) := by omega
        have hux := hu.fr2 hf (by simp)
        obtain ⟨q8, x2, e2, o2, c2, f2, hq8⟩ := docdec15 hux hz hcap ha (by omega)
        have z2 := f2.size
        have z0 := hf.size
        have hne0 : ¬ (bs.drop a).length = 0 := by simp; omega
        by_cases hok : (dec (bs.drop a)).2.2 = 0
        · have hdk := dec_ok hok
          have hL2 := hL.fr (stays_r' _ hCB) f2 (by simp)
          obtain ⟨v3, x3, e3, L3, f3, hv3⟩ := push22 (stays_r' .u8 hCB) (p := (dec (bs.drop a)).1) hL2 ⟨o2, c2, fun _ y hy => hq8 y hy⟩
            (fun q' p' w' ⟨k1, k2, k3⟩ kf => ⟨k1.fr3 kf (by
              intro h0 y hy hm
              have hyv := hvl y hm
              have := hlt y (k3 (by rw [k1.1]; exact h0) y hy); omega), k2, k3⟩) (by omega) (by intro y hy; right; omega) #[false, false]
          have z3 := f3.size
          have hto : toD a (dec (bs.drop a)) = ((a + (dec (bs.drop a)).2.1 : Nat) : Int) := by unfold toD; rw [if_pos hok]
          have hlen : (bs.drop a).length = bs.length - a := List.length_drop
          refine ⟨.normal, ((none, 0, 0), 0, 0, v3, ((a + (dec (bs.drop a)).2.1 : Nat) : Int)), x3, ?_, .inl ⟨rfl, ⟨v3, ps ++ [(dec (bs.drop a)).1], a + (dec (bs.drop a)).2.1, rfl, by omega, by simp; omega, ⟨L3, ?_⟩, (Fr.mono (Fr.app (Fr.app hf f2) f3) (by have z0_ := Fr.size hf; have z1_ := Fr.size f2; have z2_ := Fr.size f3; intro y_ hy_ hl_; grind [blkOf])), ?_⟩, by simp; omega⟩⟩
          · have hz0 : ((dec (bs.drop a)).2.2 != 0) = false := by simpa using hok
            unfold g17_l1_b
            simp only [hc, e2, hz0, e3, hto, Option.bind_some, asP_pointer, asB_bool, asI_int, asS_string, asSl_slice, asM_map, asTup0, asTup1, asTup2, asTup3, asTup4, asTup5, getD0, getD1, getD2, getD3, getD4, Bool.not_true, Bool.not_false, Bool.false_eq_true, Bool.true_eq_false, ↓reduceIte, decide_true, decide_false, Option.isNone_some, Option.isNone_none, Option.isSome_some, Option.isSome_none, beq_self_eq_true, bne_self_eq_false, Bool.and_true, Bool.true_and, Bool.and_false, Bool.false_and, not_true_eq_false, not_false_eq_true]
          · grind [blkOf]
          · rw [hsc, scan_ok hne0 hok, List.drop_drop]
            simp [Nat.add_assoc]
        · refine ⟨.ret, (v, ((a : Nat) : Int), (dec (bs.drop a)).2.2, v, ((a : Nat) : Int)), x2, ?_, .inr ⟨by simp, ⟨(v, ((a : Nat) : Int), (dec (bs.drop a)).2.2), .inr ⟨rfl, rfl, rfl, rfl⟩, ?_⟩, (Fr.mono (Fr.app hf f2) (by have z0_ := Fr.size hf; have z1_ := Fr.size f2; intro y_ hy_ hl_; grind [blkOf]))⟩⟩
          · have hz0 : ((dec (bs.drop a)).2.2 != 0) = true := by simpa using hok
            unfold g17_l1_b
            simp only [hc, e2, hz0, Option.bind_some, asP_pointer, asB_bool, asI_int, asS_string, asSl_slice, asM_map, asTup0, asTup1, asTup2, asTup3, asTup4, asTup5, getD0, getD1, getD2, getD3, getD4, Bool.not_true, Bool.not_false, Bool.false_eq_true, Bool.true_eq_false, ↓reduceIte, decide_true, decide_false, Option.isNone_some, Option.isNone_none, Option.isSome_some, Option.isSome_none, beq_self_eq_true, bne_self_eq_false, Bool.and_true, Bool.true_and, Bool.and_false, Bool.false_and, not_true_eq_false, not_false_eq_true]
          · rw [hsc, scan_bad hne0 hok]
            simp only [List.append_nil, Nat.add_zero, true_and]
            exact hL.fr (stays_r' _ hCB) f2 (by simp)
      · have hc : ¬ ((a : Nat) : Int) < (u.2.1 : Int) := by omega
        refine ⟨.exit 0, ((none, 0, 0), 0, 0, v, ((a : Nat) : Int)), x, ?_, .inr ⟨by simp, ⟨(v, ((a : Nat) : Int), 0), .inl ⟨rfl, rfl, rfl⟩, ?_⟩, hf⟩⟩
        · unfold g17_l1_b
          simp only [hc, Option.bind_some, asP_pointer, asB_bool, asI_int, asS_string, asSl_slice, asM_map, asTup0, asTup1, asTup2, asTup3, asTup4, asTup5, getD0, getD1, getD2, getD3, getD4, Bool.not_true, Bool.not_false, Bool.false_eq_true, Bool.true_eq_false, ↓reduceIte, decide_true, decide_false, Option.isNone_some, Option.isNone_none, Option.isSome_some, Option.isSome_none, beq_self_eq_true, bne_self_eq_false, Bool.and_true, Bool.true_and, Bool.and_false, Bool.false_and, not_true_eq_false, not_false_eq_true]
        · rw [hsc, scan_nil (by simp; omega)]
          simp only [List.append_nil, Nat.add_zero, true_and]
          exact hL) (s := ((none, 0, 0), 0, 0, (none, 0, 0), 0)) (w := w)
    ⟨(none, 0, 0), [], 0, rfl, by omega, by simp, ⟨LsO.nil, by simp [blkOf]⟩, Fr.refl _ _, by simp⟩
  obtain ⟨⟨t, ht, t1, t2, t3⟩, hf⟩ := g2
  refine ⟨t.1, w', g17_call ?_, t3.lstR hCB, hf⟩
  rw [← t1, ← t2]
  rcases ht with ⟨rfl, rfl, h0⟩ | ⟨rfl, h1, h2, h3⟩
  · unfold g17
    simp only [g17_l1_x0_of g1, g17_l1_x0, h0, Option.bind_some, asP_pointer, asB_bool, asI_int, asS_string, asSl_slice, asM_map, asTup0, asTup1, asTup2, asTup3, asTup4, asTup5, getD0, getD1, getD2, getD3, getD4, Bool.not_true, Bool.not_false, Bool.false_eq_true, Bool.true_eq_false, ↓reduceIte, decide_true, decide_false, Option.isNone_some, Option.isNone_none, Option.isSome_some, Option.isSome_none, beq_self_eq_true, bne_self_eq_false, Bool.and_true, Bool.true_and, Bool.and_false, Bool.false_and, not_true_eq_false, not_false_eq_true]
  · unfold g17
    simp only [g17_l1_ret_of g1, g17_l1_ret, h1, h2, h3, Option.bind_some, asP_pointer, asB_bool, asI_int, asS_string, asSl_slice, asM_map, asTup0, asTup1, asTup2, asTup3, asTup4, asTup5, getD0, getD1, getD2, getD3, getD4, Bool.not_true, Bool.not_false, Bool.false_eq_true, Bool.true_eq_false, ↓reduceIte, decide_true, decide_false, Option.isNone_some, Option.isNone_none, Option.isSome_some, Option.isSome_none, beq_self_eq_true, bne_self_eq_false, Bool.and_true, Bool.true_and, Bool.and_false, Bool.false_and, not_true_eq_false, not_false_eq_true]

/-- two lists of payloads are compared -/
theorem samelist19 {u v : Option Addr × Nat × Nat} {xs bs : List (List Int)} {B C : Nat → Prop} (hu : Lst .u8 w B u xs) (hv : Lst .u8 w C v bs) (hl : xs.length < 9223372036854775807) (hla : ∀ p ∈ xs, p.length < 9223372036854775807) :
    ∃ w', callF Try.prog 19 #[.slice u.1 u.2.1 u.2.2, .slice v.1 v.2.1 v.2.2] w = some (.bool (decide (xs = bs)), w') ∧ Fr [] w w' := by
  have h1 := hu.len
  have h2 := hv.len
  by_cases hlen : xs.length = bs.length
  · have hne : ((u.2.1 : Int) != (v.2.1 : Int)) = false := by
      have : (u.2.1 : Int) = (v.2.1 : Int) := by omega
      simp [this]
    obtain ⟨e, t, w', g1, g2, g3⟩ := loopS_rule (b := g19_l3_b u v)
      (I := fun k s x => s = (false, (k : Int)) ∧ Fr [] w x ∧ xs.take k = bs.take k)
      (Q := fun e s x => Fr [] w x ∧ ((e = .exit 0 ∧ xs = bs) ∨ (e = .ret ∧ s.1 = false ∧ xs ≠ bs))) (n := xs.length)
      (fun k s x hk ⟨hs, hf, ht⟩ => by
        subst hs
        obtain ⟨p1, q1, i1, c1, r1, _, _⟩ := (hu.fr (hf.trans (Fr.drew _ _)) (by simp)).get hk
        obtain ⟨p2, q2, i2, c2, r2, _, _⟩ := (hv.fr (hf.trans (Fr.drew _ _)) (by simp)).get (i := k) (by omega)
        obtain ⟨x2, e2, f2⟩ := same14 r1 r2 (hla _ (List.getElem_mem hk))
        have hc : (k : Int) < (u.2.1 : Int) := by omega
        have hs := wrap_succ (n := k) (by omega)
        by_cases he : xs[k] = bs[k]
        · refine ⟨.normal, (false, ((k + 1 : Nat) : Int)), x2, ?_, .inl ⟨rfl, rfl, (hf.trans (Fr.drew _ _)).trans f2, ?_⟩⟩
          · have hd : decide (xs[k] = bs[k]) = true := by simpa using he
            unfold g19_l3_b
            simp only [hc, i1, c1, i2, c2, e2, hd, hs, Option.bind_some, asP_pointer, asB_bool, asI_int, asS_string, asSl_slice, asM_map, asTup0, asTup1, asTup2, asTup3, asTup4, asTup5, getD0, getD1, getD2, getD3, getD4, Bool.not_true, Bool.not_false, Bool.false_eq_true, Bool.true_eq_false, ↓reduceIte, decide_true, decide_false, Option.isNone_some, Option.isNone_none, Option.isSome_some, Option.isSome_none, beq_self_eq_true, bne_self_eq_false, Bool.and_true, Bool.true_and, Bool.and_false, Bool.false_and, not_true_eq_false, not_false_eq_true]
          · rw [List.take_succ_eq_append_getElem hk, List.take_succ_eq_append_getElem (by omega), ht, he]
        · refine ⟨.ret, (false, (k : Int)), x2, ?_, .inr ⟨by simp, (hf.trans (Fr.drew _ _)).trans f2, .inr ⟨rfl, rfl, fun e => he (by subst e; rfl)⟩⟩⟩
          have hd : decide (xs[k] = bs[k]) = false := by simpa using he
          unfold g19_l3_b
          simp only [hc, i1, c1, i2, c2, e2, hd, Option.bind_some, asP_pointer, asB_bool, asI_int, asS_string, asSl_slice, asM_map, asTup0, asTup1, asTup2, asTup3, asTup4, asTup5, getD0, getD1, getD2, getD3, getD4, Bool.not_true, Bool.not_false, Bool.false_eq_true, Bool.true_eq_false, ↓reduceIte, decide_true, decide_false, Option.isNone_some, Option.isNone_none, Option.isSome_some, Option.isSome_none, beq_self_eq_true, bne_self_eq_false, Bool.and_true, Bool.true_and, Bool.and_false, Bool.false_and, not_true_eq_false, not_false_eq_true])
      (fun s x ⟨hs, hf, ht⟩ => by
        subst hs
        refine ⟨.exit 0, (false, ((xs.length : Nat) : Int)), x, ?_, by simp, hf, .inl ⟨rfl, ?_⟩⟩
        · have hc : ¬ ((xs.length : Nat) : Int) < (u.2.1 : Int) := by omega
          unfold g19_l3_b
          simp only [hc, Option.bind_some, asP_pointer, asB_bool, asI_int, asS_string, asSl_slice, asM_map, asTup0, asTup1, asTup2, asTup3, asTup4, asTup5, getD0, getD1, getD2, getD3, getD4, Bool.not_true, Bool.not_false, Bool.false_eq_true, Bool.true_eq_false, ↓reduceIte, decide_true, decide_false, Option.isNone_some, Option.isNone_none, Option.isSome_some, Option.isSome_none, beq_self_eq_true, bne_self_eq_false, Bool.and_true, Bool.true_and, Bool.and_false, Bool.false_and, not_true_eq_false, not_false_eq_true]
        · rwa [List.take_length, List.take_of_length_le (Nat.le_of_eq hlen.symm)] at ht)
      (Nat.zero_le _) (k := 0) (s := (false, 0)) (w := w) ⟨rfl, Fr.refl _ _, rfl⟩
    refine ⟨w', g19_call ?_, g2⟩
    rcases g3 with ⟨rfl, h⟩ | ⟨rfl, hf, h⟩
    · have hd : decide (xs = bs) = true := by simpa using h
      unfold g19
      rw [hd]
      simp only [hne, g19_l3_x0_of g1, g19_l3_x0, Option.bind_some, asP_pointer, asB_bool, asI_int, asS_string, asSl_slice, asM_map, asTup0, asTup1, asTup2, asTup3, asTup4, asTup5, getD0, getD1, getD2, getD3, getD4, Bool.not_true, Bool.not_false, Bool.false_eq_true, Bool.true_eq_false, ↓reduceIte, decide_true, decide_false, Option.isNone_some, Option.isNone_none, Option.isSome_some, Option.isSome_none, beq_self_eq_true, bne_self_eq_false, Bool.and_true, Bool.true_and, Bool.and_false, Bool.false_and, not_true_eq_false, not_false_eq_true]
    · have hd : decide (xs = bs) = false := by simpa using h
      unfold g19
      rw [hd]
      simp only [hne, g19_l3_ret_of g1, g19_l3_ret, hf, Option.bind_some, asP_pointer, asB_bool, asI_int, asS_string, asSl_slice, asM_map, asTup0, asTup1, asTup2, asTup3, asTup4, asTup5, getD0, getD1, getD2, getD3, getD4, Bool.not_true, Bool.not_false, Bool.false_eq_true, Bool.true_eq_false, ↓reduceIte, decide_true, decide_false, Option.isNone_some, Option.isNone_none, Option.isSome_some, Option.isSome_none, beq_self_eq_true, bne_self_eq_false, Bool.and_true, Bool.true_and, Bool.and_false, Bool.false_and, not_true_eq_false, not_false_eq_true]
  · have hne : ((u.2.1 : Int) != (v.2.1 : Int)) = true := by
      have : ¬ (u.2.1 : Int) = (v.2.1 : Int) := by omega
      simpa using this
    refine ⟨w, g19_call ?_, Fr.refl _ _⟩
    have hd : decide (xs = bs) = false := by
      have : ¬ xs = bs := fun e => hlen (by rw [e])
      simpa using this
    unfold g19
    rw [hd]
    simp only [hne, Option.bind_some, asP_pointer, asB_bool, asI_int, asS_string, asSl_slice, asM_map, asTup0, asTup1, asTup2, asTup3, asTup4, asTup5, getD0, getD1, getD2, getD3, getD4, Bool.not_true, Bool.not_false, Bool.false_eq_true, Bool.true_eq_false, ↓reduceIte, decide_true, decide_false, Option.isNone_some, Option.isNone_none, Option.isSome_some, Option.isSome_none, beq_self_eq_true, bne_self_eq_false, Bool.and_true, Bool.true_and, Bool.and_false, Bool.false_and, not_true_eq_false, not_false_eq_true]
end
end Go.Proofs.Yteekaakkaogpeaa
