/-
  FrameDecodes: lemmas on what Go functions of this seat come to (for whatever arguments, as each says). No condition but those that stand in each lemma.
-/
import Derived.Test.YteekaakkaogpeaaRs
import Derived.Test.YteekaakkaogpeaaFrameM
namespace Go.Proofs.Yteekaakkaogpeaa
open Go Go.Ev Go.Crc
set_option maxRecDepth 100000
set_option linter.unusedVariables false
set_option linter.unusedSimpArgs false

theorem dec_bad {bs : List Int} (h : ¬ (dec bs).2.2 = 0) : (dec bs).1 = [] ∧ (dec bs).2.1 = 0 := by
  unfold dec at *
  grind
theorem dec_le (bs : List Int) : (dec bs).1.length ≤ bs.length := by
  by_cases hk : (dec bs).2.2 = 0
  · have := dec_ok hk; omega
  · rw [(dec_bad hk).1]; simp

theorem fill4 {w : World} {q14 u0 q11 : Option Addr × Nat × Nat} {xs : List Value} (h : Own w 5 1 q14 xs) (hl : xs.length < 9223372036854775807) :
    ∃ t w', loopS (g4_l20_b q14 u0 q11) 0 w = some (.exit 0, t, w') ∧ Fr (blkOf q14) w w' := by
  have hlen := h.len
  simp only [Nat.mul_one] at hlen
  obtain ⟨t, w', e, _, f, _⟩ := loopS_countX 0 (b := g4_l20_b q14 u0 q11) (I := fun k s x => s = (k : Int) ∧ Fr (blkOf q14) w x ∧ ∃ ys, Own x 5 1 q14 ys ∧ ys.length = xs.length) (n := q14.2.1)
    (fun k s x hk ⟨hs, hf, ys, ho, hy⟩ => by
      subst hs
      obtain ⟨g, off, ha, ix⟩ := ho.idx hk
      obtain ⟨t1, o1, f1⟩ := ho.set ha (k := k) (u := .int .u8 5) (by omega) rfl
      rw [Nat.mul_one] at ix
      have hc : (k : Int) < (q14.2.1 : Int) := by omega
      have hs := wrap_succ (n := k) (by omega)
      refine ⟨((k + 1 : Nat) : Int), _, ?_, rfl, hf.trans f1, _, o1, by rw [List.length_set]; exact hy⟩
      unfold g4_l20_b
      simp only [hc, ix, t1, hs, Option.bind_some, asP_pointer, asB_bool, asI_int, asS_string, asSl_slice, asM_map, asTup0, asTup1, asTup2, asTup3, asTup4, asTup5, getD0, getD1, getD2, getD3, getD4, Bool.not_true, Bool.not_false, Bool.false_eq_true, Bool.true_eq_false, ↓reduceIte, decide_true, decide_false, Option.isNone_some, Option.isNone_none, Option.isSome_some, Option.isSome_none, beq_self_eq_true, bne_self_eq_false, Bool.and_true, Bool.true_and, Bool.and_false, Bool.false_and, not_true_eq_false, not_false_eq_true])
    (fun s x ⟨hs, hf, _⟩ => by
      subst hs
      have hc : ¬ ((q14.2.1 : Nat) : Int) < (q14.2.1 : Int) := by omega
      unfold g4_l20_b
      simp only [hc, Option.bind_some, asP_pointer, asB_bool, asI_int, asS_string, asSl_slice, asM_map, asTup0, asTup1, asTup2, asTup3, asTup4, asTup5, getD0, getD1, getD2, getD3, getD4, Bool.not_true, Bool.not_false, Bool.false_eq_true, Bool.true_eq_false, ↓reduceIte, decide_true, decide_false, Option.isNone_some, Option.isNone_none, Option.isSome_some, Option.isSome_none, beq_self_eq_true, bne_self_eq_false, Bool.and_true, Bool.true_and, Bool.and_false, Bool.false_and, not_true_eq_false, not_false_eq_true])
    (Nat.zero_le _) (k := 0) (s := 0) (w := w) ⟨rfl, Fr.refl _ _, xs, h, rfl⟩
  exact ⟨t, w', e, f⟩

/-- a copy of what came in, by append to an empty slice -/
theorem copyE {w : World} {u : Option Addr × Nat × Nat} {bs : List Int} (hu : Sl8 w u bs) (hl : bs.length ≤ 140737488355328) (cs : Array Bool) :
    ∃ q w', callB Try.prog .append #[22, 22] 22 cs #[.slice (some ⟨w.heap.size, 0, none⟩) 0 0, .slice u.1 u.2.1 u.2.2] (w.alloc (.cells #[] 5)) = some (.slice q.1 q.2.1 q.2.2, w') ∧
      Own w' 5 1 q (bs.map (Value.int .u8)) ∧ Fr [] w w' ∧ ∀ y ∈ blkOf q, w.heap.size ≤ y := by
  have o4 := own_new (w := w) (bs := []) (Nat.zero_le _)
  have f4 : Fr [] w (w.alloc (.cells #[] 5)) := Fr.alloc _
  change Own (w.alloc (.cells #[] 5)) 5 1 (some ⟨w.heap.size, 0, none⟩, 0, 0) (([] : List Int).map (Value.int .u8)) at o4
  have hsz : (w.alloc (.cells #[] 5)).heap.size = w.heap.size + 1 := Array.size_push _
  obtain ⟨q, w5, e5, o5, f5, h10⟩ := app8 o4 (hu.fr2 f4 (by simp)) (by simp; omega) cs
  refine ⟨q, w5, e5, o5, (Fr.mono (Fr.app f4 f5) (by have z0_ := Fr.size f4; have z1_ := Fr.size f5; intro y_ hy_ hl_; grind [blkOf])), ?_⟩
  intro y hy
  rcases h10 with h | h
  · simp only [blkOf] at hy; rw [h] at hy; simp at hy; omega
  · rw [h] at hy; simp at hy; omega

theorem FrameDecodes_main (W : World) (x0 : (Ty.slice (.int .u8)).Val) (h0 : (Ty.slice (.int .u8)).At W [.slice x0.1.1 x0.1.2.1 x0.1.2.2] x0)
    (hs0 : Ty.Fits (.slice (.int .u8)) x0) :
    ∃ w', callF Try.prog 4 #[.slice x0.1.1 x0.1.2.1 x0.1.2.2] W = some (.bool true, w') ∧ Fr [] W w' := by
  have hlen : x0.2.length < 140737488351233 := by have := Fits.u8 hs0; omega
  obtain ⟨hu, hz, hlt⟩ := slI_of_at h0
  replace hz := zs_of hz
  have hcap := h0.2.2.1
  obtain ⟨fb, tb, w1, e1, m1, f1, htb, hfb⟩ := new10 (w := W)
  obtain ⟨q5, w2, e2, s2, c2, f2, h5⟩ := docdec15 (a := 0) (hu.fr2 f1 (by simp)) hz hcap (Nat.zero_le _) (by omega)
  rw [List.drop_zero] at e2 s2
  obtain ⟨w3, e3, f3⟩ := awake12 (w := w2)
  have F3 : Fr [] W w3 := (Fr.mono (Fr.app (Fr.app f1 f2) f3) (by have z0_ := Fr.size f1; have z1_ := Fr.size f2; have z2_ := Fr.size f3; intro y_ hy_ hl_; grind [blkOf]))
  obtain ⟨q10, w5, e5, o5, f5, h10⟩ := copyE (hu.fr2 F3 (by simp)) (by omega) #[false, false]
  have htl := m1.tbl.lt
  have hfl := m1.blk.lt
  have z_f1 := Fr.size f1; have z_f2 := Fr.size f2; have z_f3 := Fr.size f3; have z_f5 := Fr.size f5
  have m5 : Fm w5 fb tb := m1.fr (S := []) (Fr.mono (Fr.app (Fr.app f2 f3) f5) (by have z0_ := Fr.size f2; have z1_ := Fr.size f3; have z2_ := Fr.size f5; intro y_ hy_ hl_; grind [blkOf])) (by simp) (by simp)
  have ntb : tb ∉ blkOf q10 := by grind
  obtain ⟨v6, w6, e6, o6, m6, f6, h6⟩ := decode16 m5 o5.slI hz o5.le (fun _ => ntb) (by omega)
  have s6 : Sl8 w6 q5 (dec x0.2).1 := by
    refine s2.fr3 (S := [tb]) (Fr.mono (Fr.app (Fr.app f3 f5) f6) (by have z0_ := Fr.size f3; have z1_ := Fr.size f5; have z2_ := Fr.size f6; intro y_ hy_ hl_; grind [blkOf])) ?_
    intro h0 y hy hm
    simp at hm; subst hm
    have h1 := s2.1
    have h2 := dec_le x0.2
    have := hlt _ (h5 _ hy) (by omega)
    omega
  have hdl : (dec x0.2).1.length ≤ 140737488351233 := by have := dec_le x0.2; omega
  obtain ⟨w7, e7, f7⟩ := same14 o6.slI s6 (by omega)
  obtain ⟨t, w8, e8, f8⟩ := fill4 (u0 := x0.1) (q11 := q10) (o6.fr f7 (by simp)) (by simp; omega)
  have o8 : Own w8 5 1 q10 (x0.2.map (Value.int .u8)) := o5.fr (S := tb :: blkOf v6) (Fr.mono (Fr.app (Fr.app f6 f7) f8) (by have z0_ := Fr.size f6; have z1_ := Fr.size f7; have z2_ := Fr.size f8; intro y_ hy_ hl_; grind [blkOf])) (by
    have hl5 := o5.lt
    intro y hy hm; grind)
  have F8 : Fr [] W w8 := (Fr.mono (Fr.app (Fr.app (Fr.app (Fr.app (Fr.app (Fr.app f1 f2) f3) f5) f6) f7) f8) (by have z0_ := Fr.size f1; have z1_ := Fr.size f2; have z2_ := Fr.size f3; have z3_ := Fr.size f5; have z4_ := Fr.size f6; have z5_ := Fr.size f7; have z6_ := Fr.size f8; intro y_ hy_ hl_; grind [blkOf]))
  obtain ⟨w9, e9, f9⟩ := same14 o8.slI (hu.fr2 F8 (by simp)) (by omega)
  have hto : toD 0 (dec x0.2) = ((dec x0.2).2.1 : Int) := by
    unfold toD
    split
    · simp
    · rename_i hk
      rw [(dec_bad hk).2]; rfl
  have e2' : callF Try.prog 15 #[.slice x0.1.1 x0.1.2.1 x0.1.2.2, .int .i64 0] w1 = some (.tuple #[.slice q5.1 q5.2.1 q5.2.2, .int .i64 ((dec x0.2).2.1 : Int), .int .i64 (dec x0.2).2.2], w2) := by rw [← hto]; exact e2
  refine ⟨w9, g4_call ?_, (Fr.mono (Fr.app F8 f9) (by have z0_ := Fr.size F8; have z1_ := Fr.size f9; intro y_ hy_ hl_; grind [blkOf]))⟩
  unfold g4
  simp only [e1, e2', e3, e5, e6, e7, g4_l20_x0_of e8, Option.bind_some, asP_pointer, asB_bool, asI_int, asS_string, asSl_slice, asM_map, asTup0, asTup1, asTup2, asTup3, asTup4, asTup5, getD0, getD1, getD2, getD3, getD4, Bool.not_true, Bool.not_false, Bool.false_eq_true, Bool.true_eq_false, ↓reduceIte, decide_true, decide_false, Option.isNone_some, Option.isNone_none, Option.isSome_some, Option.isSome_none, beq_self_eq_true, bne_self_eq_false, Bool.and_true, Bool.true_and, Bool.and_false, Bool.false_and, not_true_eq_false, not_false_eq_true]
  unfold g4_l20_x0
  simp only [e9, Option.bind_some, asP_pointer, asB_bool, asI_int, asS_string, asSl_slice, asM_map, asTup0, asTup1, asTup2, asTup3, asTup4, asTup5, getD0, getD1, getD2, getD3, getD4, Bool.not_true, Bool.not_false, Bool.false_eq_true, Bool.true_eq_false, ↓reduceIte, decide_true, decide_false, Option.isNone_some, Option.isNone_none, Option.isSome_some, Option.isSome_none, beq_self_eq_true, bne_self_eq_false, Bool.and_true, Bool.true_and, Bool.and_false, Bool.false_and, not_true_eq_false, not_false_eq_true]
end Go.Proofs.Yteekaakkaogpeaa
