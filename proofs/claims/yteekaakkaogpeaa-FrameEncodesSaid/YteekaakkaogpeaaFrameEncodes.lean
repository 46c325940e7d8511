/-
  FrameEncodes: lemmas on what Go functions of this seat come to (for whatever arguments, as each says). No condition but those that stand in each lemma.
-/
import Derived.Test.YteekaakkaogpeaaRs
import Derived.Test.YteekaakkaogpeaaFrameI
namespace Go.Proofs.Yteekaakkaogpeaa
open Go Go.Ev Go.Crc
set_option maxRecDepth 100000
set_option linter.unusedVariables false
set_option linter.unusedSimpArgs false

theorem fill5 {w : World} {q16 u0 q5 q10 : Option Addr × Nat × Nat} {s12 : Bool × Int} {p2 : Option Addr} {n6 : Int} {xs : List Value} (h : Own w 5 1 q16 xs) (hl : xs.length < 9223372036854775807) :
    ∃ t w', loopS (g3_l23_b q16 u0 s12 p2 q5 n6 q10) 0 w = some (.exit 2, t, w') ∧ Fr (blkOf q16) w w' := by
  have hlen := h.len
  simp only [Nat.mul_one] at hlen
  obtain ⟨t, w', e, _, f, _⟩ := loopS_countX 2 (b := g3_l23_b q16 u0 s12 p2 q5 n6 q10) (I := fun k s x => s = (k : Int) ∧ Fr (blkOf q16) w x ∧ ∃ ys, Own x 5 1 q16 ys ∧ ys.length = xs.length) (n := q16.2.1)
    (fun k s x hk ⟨hs, hf, ys, ho, hy⟩ => by
      subst hs
      obtain ⟨g, off, ha, ix⟩ := ho.idx hk
      obtain ⟨t1, o1, f1⟩ := ho.set ha (k := k) (u := .int .u8 5) (by omega) rfl
      rw [Nat.mul_one] at ix
      have hc : (k : Int) < (q16.2.1 : Int) := by omega
      have hs := wrap_succ (n := k) (by omega)
      refine ⟨((k + 1 : Nat) : Int), _, ?_, rfl, hf.trans f1, _, o1, by rw [List.length_set]; exact hy⟩
      unfold g3_l23_b
      simp only [hc, ix, t1, hs, Option.bind_some, asP_pointer, asB_bool, asI_int, asS_string, asSl_slice, asM_map, asTup0, asTup1, asTup2, asTup3, asTup4, asTup5, getD0, getD1, getD2, getD3, getD4, Bool.not_true, Bool.not_false, Bool.false_eq_true, Bool.true_eq_false, ↓reduceIte, decide_true, decide_false, Option.isNone_some, Option.isNone_none, Option.isSome_some, Option.isSome_none, beq_self_eq_true, bne_self_eq_false, Bool.and_true, Bool.true_and, Bool.and_false, Bool.false_and, not_true_eq_false, not_false_eq_true])
    (fun s x ⟨hs, hf, _⟩ => by
      subst hs
      have hc : ¬ ((q16.2.1 : Nat) : Int) < (q16.2.1 : Int) := by omega
      unfold g3_l23_b
      simp only [hc, Option.bind_some, asP_pointer, asB_bool, asI_int, asS_string, asSl_slice, asM_map, asTup0, asTup1, asTup2, asTup3, asTup4, asTup5, getD0, getD1, getD2, getD3, getD4, Bool.not_true, Bool.not_false, Bool.false_eq_true, Bool.true_eq_false, ↓reduceIte, decide_true, decide_false, Option.isNone_some, Option.isNone_none, Option.isSome_some, Option.isSome_none, beq_self_eq_true, bne_self_eq_false, Bool.and_true, Bool.true_and, Bool.and_false, Bool.false_and, not_true_eq_false, not_false_eq_true])
    (Nat.zero_le _) (k := 0) (s := 0) (w := w) ⟨rfl, Fr.refl _ _, xs, h, rfl⟩
  exact ⟨t, w', e, f⟩

def encR (p : List Int) : List Int × Int := if p.length ≤ 4096 then (enc p, 0) else ([], 2)

theorem encodeR {w : World} {fb tb : Nat} {u : Option Addr × Nat × Nat} {p : List Int} (h : Fm w fb tb) (hu : Sl8 w u p) (hz : Zs p) (hd : 0 < p.length → tb ∉ blkOf u) :
    ∃ v' w', callF Try.prog 13 #[.pointer (some ⟨fb, 0, none⟩), .slice u.1 u.2.1 u.2.2] w = some (.tuple #[.slice v'.1 v'.2.1 v'.2.2, .int .i64 (encR p).2], w') ∧
      Own w' 5 1 v' ((encR p).1.map (Value.int .u8)) ∧ Fm w' fb tb ∧ Fr [tb] w w' ∧ (∀ y ∈ blkOf v', w.heap.size ≤ y) := by
  by_cases hl : p.length ≤ 4096
  · have : encR p = (enc p, 0) := by unfold encR; rw [if_pos hl]
    rw [this]; exact encode13 h hu hz hd hl
  · have : encR p = ([], 2) := by unfold encR; rw [if_neg hl]
    rw [this]
    refine ⟨(none, 0, 0), w, g13_call ?_, Own.nil _ _ _, h, Fr.refl _ _, by simp [blkOf]⟩
    have hc : (u.2.1 : Int) > 4096 := by have := hu.1; omega
    unfold g13
    simp only [hc, Option.bind_some, asP_pointer, asB_bool, asI_int, asS_string, asSl_slice, asM_map, asTup0, asTup1, asTup2, asTup3, asTup4, asTup5, getD0, getD1, getD2, getD3, getD4, Bool.not_true, Bool.not_false, Bool.false_eq_true, Bool.true_eq_false, ↓reduceIte, decide_true, decide_false, Option.isNone_some, Option.isNone_none, Option.isSome_some, Option.isSome_none, beq_self_eq_true, bne_self_eq_false, Bool.and_true, Bool.true_and, Bool.and_false, Bool.false_and, not_true_eq_false, not_false_eq_true]

theorem docencR {w : World} {u : Option Addr × Nat × Nat} {p : List Int} (hu : Sl8 w u p) (hz : Zs p) :
    ∃ v' w', callF Try.prog 11 #[.slice u.1 u.2.1 u.2.2] w = some (.tuple #[.slice v'.1 v'.2.1 v'.2.2, .int .i64 (encR p).2], w') ∧ Own w' 5 1 v' ((encR p).1.map (Value.int .u8)) ∧ Fr [] w w' ∧ (∀ y ∈ blkOf v', w.heap.size ≤ y) := by
  by_cases hl : p.length ≤ 4096
  · have : encR p = (enc p, 0) := by unfold encR; rw [if_pos hl]
    rw [this]; exact docenc11 hu hz hl
  · have : encR p = ([], 2) := by unfold encR; rw [if_neg hl]
    rw [this]
    refine ⟨(none, 0, 0), w, g11_call ?_, Own.nil _ _ _, Fr.refl _ _, by simp [blkOf]⟩
    have hc : (u.2.1 : Int) > 4096 := by have := hu.1; omega
    unfold g11
    simp only [hc, Option.bind_some, asP_pointer, asB_bool, asI_int, asS_string, asSl_slice, asM_map, asTup0, asTup1, asTup2, asTup3, asTup4, asTup5, getD0, getD1, getD2, getD3, getD4, Bool.not_true, Bool.not_false, Bool.false_eq_true, Bool.true_eq_false, ↓reduceIte, decide_true, decide_false, Option.isNone_some, Option.isNone_none, Option.isSome_some, Option.isSome_none, beq_self_eq_true, bne_self_eq_false, Bool.and_true, Bool.true_and, Bool.and_false, Bool.false_and, not_true_eq_false, not_false_eq_true]

theorem encR_len (p : List Int) : (encR p).1.length ≤ 4104 := by
  unfold encR; split
  · rw [enc_length]; omega
  · simp

structure EInv (W : World) (fb tb : Nat) (q5 q10 : Option Addr × Nat × Nat) (p : List Int) (k : Nat) (s : Bool × Int) (x : World) : Prop where
  cnt : s = (false, (k : Int))
  fm : Fm x fb tb
  c : Own x 5 1 q10 (p.map (Value.int .u8))
  want : Own x 5 1 q5 ((encR p).1.map (Value.int .u8))
  fr : Fr [] W x

theorem enc_round {W : World} {fb tb : Nat} {u0 q5 q10 : Option Addr × Nat × Nat} {p : List Int} (hu : Sl8 W u0 p) (hz : Zs p) (hl : p.length < 140737488351233)
    (h5 : tb ∉ blkOf q5) (h10 : tb ∉ blkOf q10) (hW : W.heap.size ≤ tb) (k : Nat) (s : Bool × Int) (x : World) (hk : k < 2) (hi : EInv W fb tb q5 q10 p k s x) :
    ∃ s' x', g3_l11_b (some ⟨fb, 0, none⟩) q10 (encR p).2 q5 u0 s x = some (.normal, s', x') ∧ EInv W fb tb q5 q10 p (k + 1) s' x' := by
  obtain ⟨rfl, fm, oc, ow, fr⟩ := hi
  have el := encR_len p
  obtain ⟨v1, x1, e1, o1, m1, f1, hv1⟩ := encodeR fm oc.slI hz (fun _ => h10)
  have ob : ∀ {a b : World} {q : Option Addr × Nat × Nat} {xs : List Value}, Own a 5 1 q xs → Fr [tb] a b → tb ∉ blkOf q → Own b 5 1 q xs := fun h f hd => h.fr f (by intro z hz hm; simp at hm; subst hm; exact hd hz)
  have oc1 := ob oc f1 h10
  have ow1 := ob ow f1 h5
  have F1 : Fr [] W x1 := (fr.nil.trans f1).mono (by intro y hy hlt; simp at hy; omega)
  obtain ⟨x2, e2, f2⟩ := same14 o1.slI ow1.slI (by omega)
  obtain ⟨x3, e3, f3⟩ := same14 (oc1.fr f2 (by simp)).slI (hu.fr2 (F1.trans f2) (by simp)) (by omega)
  have f23 := f2.trans f3
  obtain ⟨t, x4, e4, f4⟩ := fill5 (u0 := u0) (q5 := q5) (q10 := q10) (s12 := (false, (k : Int))) (p2 := some ⟨fb, 0, none⟩) (n6 := (encR p).2) (o1.fr f23 (by simp)) (by rw [List.length_map]; omega)
  have big : ∀ y ∈ blkOf v1, x.heap.size ≤ y := hv1
  have nin : ∀ {q : Option Addr × Nat × Nat} {xs : List Value}, Own x 5 1 q xs → ∀ y ∈ blkOf q, y ∉ blkOf v1 := fun h y hy hm => by have := h.lt y hy; have := big y hm; omega
  have hfb := fm.blk.lt
  have htb := fm.tbl.lt
  refine ⟨(false, ((k + 1 : Nat) : Int)), x4, ?_, rfl, (m1.fr f23 (by simp) (by simp)).fr f4 (fun hm => by have := big _ hm; omega) (fun hm => by have := big _ hm; omega),
    (oc1.fr f23 (by simp)).fr f4 (nin oc), (ow1.fr f23 (by simp)).fr f4 (nin ow), ((F1.trans f23).nil.trans f4).mono (by intro y hy hlt; have := big y hy; have := fr.size; omega)⟩
  have hc : (k : Int) < 2 := by omega
  have hs := wrap_succ (n := k) (by omega)
  unfold g3_l11_b
  simp only [hc, e1, e2, e3, g3_l23_x2_of e4, Option.bind_some, asP_pointer, asB_bool, asI_int, asS_string, asSl_slice, asM_map, asTup0, asTup1, asTup2, asTup3, asTup4, asTup5, getD0, getD1, getD2, getD3, getD4, Bool.not_true, Bool.not_false, Bool.false_eq_true, Bool.true_eq_false, ↓reduceIte, decide_true, decide_false, Option.isNone_some, Option.isNone_none, Option.isSome_some, Option.isSome_none, beq_self_eq_true, bne_self_eq_false, Bool.and_true, Bool.true_and, Bool.and_false, Bool.false_and, not_true_eq_false, not_false_eq_true]
  unfold g3_l23_x2
  simp only [hs, Option.bind_some, asP_pointer, asB_bool, asI_int, asS_string, asSl_slice, asM_map, asTup0, asTup1, asTup2, asTup3, asTup4, asTup5, getD0, getD1, getD2, getD3, getD4, Bool.not_true, Bool.not_false, Bool.false_eq_true, Bool.true_eq_false, ↓reduceIte, decide_true, decide_false, Option.isNone_some, Option.isNone_none, Option.isSome_some, Option.isSome_none, beq_self_eq_true, bne_self_eq_false, Bool.and_true, Bool.true_and, Bool.and_false, Bool.false_and, not_true_eq_false, not_false_eq_true]

theorem FrameEncodes_main (W : World) (x0 : (Ty.slice (.int .u8)).Val) (h0 : (Ty.slice (.int .u8)).At W [.slice x0.1.1 x0.1.2.1 x0.1.2.2] x0)
    (hs0 : Ty.Fits (.slice (.int .u8)) x0) :
    ∃ w', callF Try.prog 3 #[.slice x0.1.1 x0.1.2.1 x0.1.2.2] W = some (.bool true, w') ∧ Fr [] W w' := by
  have hlen : x0.2.length < 140737488351233 := by have := Fits.u8 hs0; omega
  obtain ⟨hu, hz, hlt⟩ := slI_of_at h0
  replace hz := zs_of hz
  obtain ⟨fb, tb, w1, e1, m1, f1, htb, hfb⟩ := new10 (w := W)
  obtain ⟨q5, w2, e2, o2, f2, h5⟩ := docencR (hu.fr2 f1 (by simp)) hz
  obtain ⟨w3, e3, f3⟩ := awake12 (w := w2)
  have o4 := own_new (w := w3) (bs := []) (Nat.zero_le _)
  have f4 : Fr [] w3 (w3.alloc (.cells #[] 5)) := Fr.alloc _
  have F4 := ((f1.trans f2).trans f3).trans f4
  have F24 := f3.trans f4
  change Own (w3.alloc (.cells #[] 5)) 5 1 (some ⟨w3.heap.size, 0, none⟩, 0, 0) (([] : List Int).map (Value.int .u8)) at o4
  obtain ⟨q10, w5, e5, o5, f5, h10⟩ := app8 o4 (hu.fr2 F4 (by simp)) (by simp; omega) #[false, false]
  have s3 : w1.heap.size ≤ w3.heap.size := by have := f2.size; have := f3.size; omega
  have f5' : Fr [] w3 w5 := (f4.nil.trans f5).mono (by intro y hy hlt; simp [blkOf] at hy; omega)
  have hq10 : ∀ y ∈ blkOf q10, w3.heap.size ≤ y := by
    intro y hy
    rcases h10 with h | h
    · simp only [blkOf] at hy; rw [h] at hy; simp at hy; omega
    · rw [h] at hy; simp at hy; have := f4.size; omega
  have m5 : Fm w5 fb tb := ((m1.fr f2 (by simp) (by simp)).fr f3 (by simp) (by simp)).fr f5' (by simp) (by simp)
  have ow5 := (o2.fr f3 (by simp)).fr f5' (by simp)
  have htl := m1.tbl.lt
  obtain ⟨t, w6, e6, i6⟩ := loopS_count (b := g3_l11_b (some ⟨fb, 0, none⟩) q10 (encR x0.2).2 q5 x0.1) (I := EInv W fb tb q5 q10 x0.2) (n := 2)
    (fun k s x hk hi => enc_round hu hz hlen (fun hm => by have := h5 _ hm; omega) (fun hm => by have := hq10 _ hm; omega) htb k s x hk hi)
    (fun s x hi => by
      obtain ⟨rfl, _, _, _, _⟩ := hi
      have hc : ¬ ((2 : Nat) : Int) < 2 := by decide
      unfold g3_l11_b
      simp only [hc, Option.bind_some, asP_pointer, asB_bool, asI_int, asS_string, asSl_slice, asM_map, asTup0, asTup1, asTup2, asTup3, asTup4, asTup5, getD0, getD1, getD2, getD3, getD4, Bool.not_true, Bool.not_false, Bool.false_eq_true, Bool.true_eq_false, ↓reduceIte, decide_true, decide_false, Option.isNone_some, Option.isNone_none, Option.isSome_some, Option.isSome_none, beq_self_eq_true, bne_self_eq_false, Bool.and_true, Bool.true_and, Bool.and_false, Bool.false_and, not_true_eq_false, not_false_eq_true])
    (Nat.zero_le _) (k := 0) (s := (false, 0)) (w := w5) ⟨rfl, m5, o5, ow5, ((f1.trans f2).trans f3).trans f5'⟩
  refine ⟨w6, g3_call ?_, i6.fr⟩
  unfold g3
  simp only at e5
  simp only [e1, e2, e3, e5, g3_l11_x0_of e6, g3_l11_x0, Option.bind_some, asP_pointer, asB_bool, asI_int, asS_string, asSl_slice, asM_map, asTup0, asTup1, asTup2, asTup3, asTup4, asTup5, getD0, getD1, getD2, getD3, getD4, Bool.not_true, Bool.not_false, Bool.false_eq_true, Bool.true_eq_false, ↓reduceIte, decide_true, decide_false, Option.isNone_some, Option.isNone_none, Option.isSome_some, Option.isSome_none, beq_self_eq_true, bne_self_eq_false, Bool.and_true, Bool.true_and, Bool.and_false, Bool.false_and, not_true_eq_false, not_false_eq_true]
end Go.Proofs.Yteekaakkaogpeaa
