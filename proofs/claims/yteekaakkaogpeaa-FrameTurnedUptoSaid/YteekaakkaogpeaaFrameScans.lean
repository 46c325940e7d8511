/-
  FrameScans: lemmas on what Go functions of this seat come to (for whatever arguments, as each says). No condition but those that stand in each lemma.
-/
import Derived.Test.YteekaakkaogpeaaFrameDecodes
namespace Go.Proofs.Yteekaakkaogpeaa
open Go Go.Ev Go.Crc
set_option maxRecDepth 100000
set_option linter.unusedVariables false
set_option linter.unusedSimpArgs false

structure SInv (w0 : World) (T : List Nat) (v : Option Addr × Nat × Nat) (qs : List (Option Addr × Nat × Nat)) (x : World) : Prop where
  sp : Own x 22 1 v (qs.map slV)
  el : ∀ j (h : j < qs.length), ∃ ys, Own x 5 1 qs[j] ys
  fr : Fr T w0 x

theorem SInv.step {w0 : World} {T : List Nat} {v : Option Addr × Nat × Nat} {qs : List (Option Addr × Nat × Nat)} {x : World} (h : SInv w0 T v qs x) {j : Nat} (hj : j < qs.length) (hB : ∀ y ∈ blkOf qs[j], w0.heap.size ≤ y) {k : Nat} (hk : k < qs[j].2.1) :
    ∃ a x', idxA qs[j].1 qs[j].2.1 1 (k : Int) = some a ∧ st1 x a (.int .u8 5) = some x' ∧ SInv w0 T v qs x' := by
  obtain ⟨ys, ho⟩ := h.el j hj
  obtain ⟨g, off, ha, ix⟩ := ho.idx hk
  have hl := ho.len
  obtain ⟨t1, o1, f1⟩ := ho.set ha (k := k) (u := .int .u8 5) (by omega) rfl
  rw [Nat.mul_one] at ix
  refine ⟨_, _, ix, t1, h.sp.fr f1 (Own.apart h.sp ho (by decide)), fun i hi => ?_, ?_⟩
  · obtain ⟨zs, hz⟩ := h.el i hi
    exact hz.stir _ _ _
  · have f0 := h.fr
    exact (Fr.mono (Fr.app f0 f1) (by have z0_ := Fr.size f0; have z1_ := Fr.size f1; intro y_ hy_ hl_; grind [blkOf]))

theorem fill5i {w0 : World} {T : List Nat} {q14 u0 q11 q25 : Option Addr × Nat × Nat} {s21 : Int} {v : Option Addr × Nat × Nat} {qs : List (Option Addr × Nat × Nat)} {x : World} (h : SInv w0 T v qs x) {j : Nat} (hj : j < qs.length)
    (hB : ∀ y ∈ blkOf qs[j], w0.heap.size ≤ y) (hq : q25 = qs[j]) (hl : qs[j].2.1 < 9223372036854775807) :
    ∃ t x', loopS (g5_l27_b q25 u0 q11 q14 s21) 0 x = some (.exit 2, t, x') ∧ SInv w0 T v qs x' := by
  subst hq
  obtain ⟨t, w', e, _, f⟩ := loopS_countX 2 (b := g5_l27_b qs[j] u0 q11 q14 s21) (I := fun k s x => s = (k : Int) ∧ SInv w0 T v qs x) (n := qs[j].2.1)
    (fun k s x hk ⟨hs, hi⟩ => by
      subst hs
      obtain ⟨a, x', i1, i2, i3⟩ := hi.step hj hB hk
      have hc : (k : Int) < (qs[j].2.1 : Int) := by omega
      have hs := wrap_succ (n := k) (by omega)
      refine ⟨((k + 1 : Nat) : Int), x', ?_, rfl, i3⟩
      unfold g5_l27_b
      simp only [hc, i1, i2, hs, Option.bind_some, asP_pointer, asB_bool, asI_int, asS_string, asSl_slice, asM_map, asTup0, asTup1, asTup2, asTup3, asTup4, asTup5, getD0, getD1, getD2, getD3, getD4, Bool.not_true, Bool.not_false, Bool.false_eq_true, Bool.true_eq_false, ↓reduceIte, decide_true, decide_false, Option.isNone_some, Option.isNone_none, Option.isSome_some, Option.isSome_none, beq_self_eq_true, bne_self_eq_false, Bool.and_true, Bool.true_and, Bool.and_false, Bool.false_and, not_true_eq_false, not_false_eq_true])
    (fun s x ⟨hs, _⟩ => by
      subst hs
      have hc : ¬ ((qs[j].2.1 : Nat) : Int) < (qs[j].2.1 : Int) := by omega
      unfold g5_l27_b
      simp only [hc, Option.bind_some, asP_pointer, asB_bool, asI_int, asS_string, asSl_slice, asM_map, asTup0, asTup1, asTup2, asTup3, asTup4, asTup5, getD0, getD1, getD2, getD3, getD4, Bool.not_true, Bool.not_false, Bool.false_eq_true, Bool.true_eq_false, ↓reduceIte, decide_true, decide_false, Option.isNone_some, Option.isNone_none, Option.isSome_some, Option.isSome_none, beq_self_eq_true, bne_self_eq_false, Bool.and_true, Bool.true_and, Bool.and_false, Bool.false_and, not_true_eq_false, not_false_eq_true])
    (Nat.zero_le _) (k := 0) (s := 0) (w := x) ⟨rfl, h⟩
  exact ⟨t, w', e, f⟩

theorem fill5o {w0 : World} {T : List Nat} {u0 q11 : Option Addr × Nat × Nat} {v : Option Addr × Nat × Nat} {qs : List (Option Addr × Nat × Nat)} {x : World} (h : SInv w0 T v qs x)
    (hB : ∀ j (hj : j < qs.length), ∀ y ∈ blkOf qs[j], w0.heap.size ≤ y) (hl : ∀ j (hj : j < qs.length), qs[j].2.1 < 9223372036854775807) (hn : qs.length < 9223372036854775807) :
    ∃ t x', loopS (g5_l20_b v u0 q11) 0 x = some (.exit 0, t, x') ∧ SInv w0 T v qs x' := by
  have hlen := h.sp.len
  simp only [List.length_map, Nat.mul_one] at hlen
  obtain ⟨t, w', e, _, f⟩ := loopS_countX 0 (b := g5_l20_b v u0 q11) (I := fun k s x => s = (k : Int) ∧ SInv w0 T v qs x) (n := qs.length)
    (fun k s x hk ⟨hs, hi⟩ => by
      subst hs
      obtain ⟨a, i1, i2⟩ := hi.sp.slC.get (i := k) (by simpa using hk)
      have i3 : x.cell? a = some (.slice qs[k].1 qs[k].2.1 qs[k].2.2) := by rw [i2]; simp [slV]
      have hc : (k : Int) < (v.2.1 : Int) := by omega
      have hs := wrap_succ (n := k) (by omega)
      obtain ⟨t, x', e, hi'⟩ := fill5i (u0 := u0) (q11 := q11) (q14 := v) (s21 := (k : Int)) (q25 := (qs[k].1, qs[k].2.1, qs[k].2.2)) hi hk (hB k hk) rfl (hl k hk)
      refine ⟨((k + 1 : Nat) : Int), x', ?_, rfl, hi'⟩
      unfold g5_l20_b
      simp only [hc, i1, i3, g5_l27_x2_of e, Option.bind_some, asP_pointer, asB_bool, asI_int, asS_string, asSl_slice, asM_map, asTup0, asTup1, asTup2, asTup3, asTup4, asTup5, getD0, getD1, getD2, getD3, getD4, Bool.not_true, Bool.not_false, Bool.false_eq_true, Bool.true_eq_false, ↓reduceIte, decide_true, decide_false, Option.isNone_some, Option.isNone_none, Option.isSome_some, Option.isSome_none, beq_self_eq_true, bne_self_eq_false, Bool.and_true, Bool.true_and, Bool.and_false, Bool.false_and, not_true_eq_false, not_false_eq_true]
      unfold g5_l27_x2
      simp only [hs, Option.bind_some, asP_pointer, asB_bool, asI_int, asS_string, asSl_slice, asM_map, asTup0, asTup1, asTup2, asTup3, asTup4, asTup5, getD0, getD1, getD2, getD3, getD4, Bool.not_true, Bool.not_false, Bool.false_eq_true, Bool.true_eq_false, ↓reduceIte, decide_true, decide_false, Option.isNone_some, Option.isNone_none, Option.isSome_some, Option.isSome_none, beq_self_eq_true, bne_self_eq_false, Bool.and_true, Bool.true_and, Bool.and_false, Bool.false_and, not_true_eq_false, not_false_eq_true])
    (fun s x ⟨hs, _⟩ => by
      subst hs
      have hc : ¬ ((qs.length : Nat) : Int) < (v.2.1 : Int) := by omega
      unfold g5_l20_b
      simp only [hc, Option.bind_some, asP_pointer, asB_bool, asI_int, asS_string, asSl_slice, asM_map, asTup0, asTup1, asTup2, asTup3, asTup4, asTup5, getD0, getD1, getD2, getD3, getD4, Bool.not_true, Bool.not_false, Bool.false_eq_true, Bool.true_eq_false, ↓reduceIte, decide_true, decide_false, Option.isNone_some, Option.isNone_none, Option.isSome_some, Option.isSome_none, beq_self_eq_true, bne_self_eq_false, Bool.and_true, Bool.true_and, Bool.and_false, Bool.false_and, not_true_eq_false, not_false_eq_true])
    (Nat.zero_le _) (k := 0) (s := 0) (w := x) ⟨rfl, h⟩
  exact ⟨t, w', e, f⟩

theorem scan_len (bs : List Int) : 8 * (scan bs).1.length ≤ bs.length ∧ ∀ p ∈ (scan bs).1, p.length ≤ bs.length := by
  suffices H : ∀ n (bs : List Int), bs.length ≤ n → 8 * (scan bs).1.length ≤ bs.length ∧ ∀ p ∈ (scan bs).1, p.length ≤ bs.length from H _ bs (Nat.le_refl _)
  intro n
  induction n with
  | zero => intro bs h; rw [scan_nil (by omega)]; simp
  | succ n ih =>
    intro bs h
    by_cases h0 : bs.length = 0
    · rw [scan_nil h0]; simp
    · by_cases hk : (dec bs).2.2 = 0
      · have hd := dec_ok hk
        have hl : (bs.drop (dec bs).2.1).length = bs.length - (dec bs).2.1 := List.length_drop
        obtain ⟨i1, i2⟩ := ih (bs.drop (dec bs).2.1) (by omega)
        rw [scan_ok h0 hk]
        refine ⟨by simp only [List.length_cons]; omega, fun p hp => ?_⟩
        simp only [List.mem_cons] at hp
        rcases hp with rfl | hp
        · exact dec_le bs
        · have := i2 p hp; omega
      · rw [scan_bad h0 hk]; simp

theorem FrameScans_main (W : World) (x0 : (Ty.slice (.int .u8)).Val) (h0 : (Ty.slice (.int .u8)).At W [.slice x0.1.1 x0.1.2.1 x0.1.2.2] x0)
    (hb : (Ty.slice (.int .u8)).bulk x0 ≤ 1048576) :
    ∃ w', callF Try.prog 5 #[.slice x0.1.1 x0.1.2.1 x0.1.2.2] W = some (.bool true, w') ∧ Fr [] W w' := by
  have hlen : x0.2.length < 1048576 := bulk_len hb
  obtain ⟨hu, hz, hlt⟩ := slI_of_at h0
  replace hz := zs_of hz
  have hcap := h0.2.2.1
  obtain ⟨fb, tb, w1, e1, m1, f1, htb, hfb⟩ := new10 (w := W)
  have hscl := scan_len x0.2
  have d2 : ∃ q5 w2, callF Try.prog 17 #[.slice x0.1.1 x0.1.2.1 x0.1.2.2] w1 = some (.tuple #[.slice q5.1 q5.2.1 q5.2.2, .int .i64 ((scan x0.2).2.1 : Int), .int .i64 (scan x0.2).2.2], w2) ∧
      Lst .u8 w2 (fun y => y < W.heap.size ∨ w1.heap.size ≤ y) q5 (scan x0.2).1 ∧ Fr [] w1 w2 := by
    by_cases hz0 : x0.2.length = 0
    · have hs := scan_nil hz0
      refine ⟨(none, 0, 0), w1, g17_call ?_, ?_, Fr.refl _ _⟩
      · have hc : ¬ ((0 : Int) < (x0.1.2.1 : Int)) := by have := hu.1; omega
        have eb : g17_l1_b x0.1 ((none, 0, 0), 0, 0, (none, 0, 0), 0) w1 = some (.exit 0, ((none, 0, 0), 0, 0, (none, 0, 0), 0), w1) := by
          unfold g17_l1_b
          simp only [hc, Option.bind_some, asP_pointer, asB_bool, asI_int, asS_string, asSl_slice, asM_map, asTup0, asTup1, asTup2, asTup3, asTup4, asTup5, getD0, getD1, getD2, getD3, getD4, Bool.not_true, Bool.not_false, Bool.false_eq_true, Bool.true_eq_false, ↓reduceIte, decide_true, decide_false, Option.isNone_some, Option.isNone_none, Option.isSome_some, Option.isSome_none, beq_self_eq_true, bne_self_eq_false, Bool.and_true, Bool.true_and, Bool.and_false, Bool.false_and, not_true_eq_false, not_false_eq_true]
        rw [hs]
        unfold g17
        simp only [g17_l1_x0_of (loopS_out (by simp) eb), g17_l1_x0, Option.bind_some, asP_pointer, asB_bool, asI_int, asS_string, asSl_slice, asM_map, asTup0, asTup1, asTup2, asTup3, asTup4, asTup5, getD0, getD1, getD2, getD3, getD4, Bool.not_true, Bool.not_false, Bool.false_eq_true, Bool.true_eq_false, ↓reduceIte, decide_true, decide_false, Option.isNone_some, Option.isNone_none, Option.isSome_some, Option.isSome_none, beq_self_eq_true, bne_self_eq_false, Bool.and_true, Bool.true_and, Bool.and_false, Bool.false_and, not_true_eq_false, not_false_eq_true]
        rfl
      · rw [hs]; exact LsO.lst (LsO.nil (el := 22))
    · obtain ⟨q5, w2, e2, s2, f2⟩ := docscan17 (hu.fr2 f1 (by simp)) hz hcap (by omega) (fun y hy => by have := hlt y hy (by omega); have := f1.size; omega)
      exact ⟨q5, w2, e2, s2.mono (fun y hy => hy.imp (fun hy => hlt y hy (by omega)) id), f2⟩
  obtain ⟨q5, w2, e2, s2, f2⟩ := d2
  obtain ⟨w3, e3, f3⟩ := awake12 (w := w2)
  have F3 : Fr [] W w3 := (Fr.mono (Fr.app (Fr.app f1 f2) f3) (by have z0_ := Fr.size f1; have z1_ := Fr.size f2; have z2_ := Fr.size f3; intro y_ hy_ hl_; grind [blkOf]))
  obtain ⟨q10, w5, e5, o5, f5, h10⟩ := copyE (hu.fr2 F3 (by simp)) (by omega) #[false, false]
  have htl := m1.tbl.lt
  have hfl := m1.blk.lt
  have z_f1 := Fr.size f1; have z_f2 := Fr.size f2; have z_f3 := Fr.size f3; have z_f5 := Fr.size f5
  have m5 : Fm w5 fb tb := m1.fr (S := []) (Fr.mono (Fr.app (Fr.app f2 f3) f5) (by have z0_ := Fr.size f2; have z1_ := Fr.size f3; have z2_ := Fr.size f5; intro y_ hy_ hl_; grind [blkOf])) (by simp) (by simp)
  have ntb : tb ∉ blkOf q10 := by grind
  obtain ⟨v6, w6, e6, l6, m6, f6⟩ := scan18 m5 o5.slI hz o5.le (fun _ => ntb) (by omega)
  have s6 : Lst .u8 w6 (fun y => y < W.heap.size ∨ w1.heap.size ≤ y) q5 (scan x0.2).1 := s2.fr (S := [tb]) (Fr.mono (Fr.app (Fr.app f3 f5) f6) (by have z0_ := Fr.size f3; have z1_ := Fr.size f5; have z2_ := Fr.size f6; intro y_ hy_ hl_; grind [blkOf])) (by simp; omega)
  obtain ⟨w7, e7, f7⟩ := samelist19 l6.lst' s6 (by omega) (fun p hp => by have := hscl.2 p hp; omega)
  have l7 := l6.fr (stays_o _ _ _) f7 (by simp)
  obtain ⟨qs, k1, k2, k3, k4⟩ := l7
  have F7 : Fr [tb] w5 w7 := (Fr.mono (Fr.app f6 f7) (by have z0_ := Fr.size f6; have z1_ := Fr.size f7; intro y_ hy_ hl_; grind [blkOf]))
  have el : ∀ j (hj : j < qs.length), qs[j].2.1 < 9223372036854775807 := fun j hj => by
    have h1 := (k4 j (by omega) hj).1.len
    have h2 := hscl.2 _ (List.getElem_mem (show j < (scan x0.2).1.length by omega))
    simp at h1; omega
  obtain ⟨t, w8, e8, i8⟩ := fill5o (u0 := x0.1) (q11 := q10) (T := [tb]) (w0 := w5) (x := w7) (v := v6) (qs := qs) ⟨k1, fun j hj => ⟨_, (k4 j (by omega) hj).1⟩, F7⟩
    (fun j hj => (k4 j (by omega) hj).2) el (by omega)
  have f8 := i8.fr
  have o8 : Own w8 5 1 q10 (x0.2.map (Value.int .u8)) := o5.fr f8 (by grind)
  have F8 : Fr [] W w8 := (Fr.mono (Fr.app (Fr.app (Fr.app (Fr.app f1 f2) f3) f5) f8) (by have z0_ := Fr.size f1; have z1_ := Fr.size f2; have z2_ := Fr.size f3; have z3_ := Fr.size f5; have z4_ := Fr.size f8; intro y_ hy_ hl_; grind [blkOf]))
  obtain ⟨w9, e9, f9⟩ := same14 o8.slI (hu.fr2 F8 (by simp)) (by omega)
  refine ⟨w9, g5_call ?_, (Fr.mono (Fr.app F8 f9) (by have z0_ := Fr.size F8; have z1_ := Fr.size f9; intro y_ hy_ hl_; grind [blkOf]))⟩
  unfold g5
  simp only [e1, e2, e3, e5, e6, e7, g5_l20_x0_of e8, Option.bind_some, asP_pointer, asB_bool, asI_int, asS_string, asSl_slice, asM_map, asTup0, asTup1, asTup2, asTup3, asTup4, asTup5, getD0, getD1, getD2, getD3, getD4, Bool.not_true, Bool.not_false, Bool.false_eq_true, Bool.true_eq_false, ↓reduceIte, decide_true, decide_false, Option.isNone_some, Option.isNone_none, Option.isSome_some, Option.isSome_none, beq_self_eq_true, bne_self_eq_false, Bool.and_true, Bool.true_and, Bool.and_false, Bool.false_and, not_true_eq_false, not_false_eq_true]
  unfold g5_l20_x0
  simp only [e9, Option.bind_some, asP_pointer, asB_bool, asI_int, asS_string, asSl_slice, asM_map, asTup0, asTup1, asTup2, asTup3, asTup4, asTup5, getD0, getD1, getD2, getD3, getD4, Bool.not_true, Bool.not_false, Bool.false_eq_true, Bool.true_eq_false, ↓reduceIte, decide_true, decide_false, Option.isNone_some, Option.isNone_none, Option.isSome_some, Option.isSome_none, beq_self_eq_true, bne_self_eq_false, Bool.and_true, Bool.true_and, Bool.and_false, Bool.false_and, not_true_eq_false, not_false_eq_true]
end Go.Proofs.Yteekaakkaogpeaa
