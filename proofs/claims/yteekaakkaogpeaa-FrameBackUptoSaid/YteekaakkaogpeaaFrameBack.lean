/-
  FrameBack: lemmas on what Go functions of this seat come to (for whatever arguments, as each says). No condition but those that stand in each lemma.
-/
import Derived.Test.YteekaakkaogpeaaFrameN
namespace Go.Proofs.Yteekaakkaogpeaa
open Go Go.Ev Go.Crc
set_option maxRecDepth 100000
set_option linter.unusedVariables false
set_option linter.unusedSimpArgs false

/-- the frames of a list, by a framer -/
theorem own6 {W w : World} {fb tb : Nat} {u0 u1 q5 : Option Addr × Nat × Nat} {ps : List (List Int)} (m : Fm w fb tb) (h : Lst .u8 w (fun y => y < W.heap.size) u0 ps) (hW : W.heap.size ≤ tb) (hWw : W.heap.size ≤ w.heap.size) (hz : ∀ p ∈ ps, Zs p) (hs : ∀ p ∈ ps, p.length ≤ 4096)
    (hl : (encs ps).length ≤ 268435456) (hn : ps.length ≤ 268435456) :
    ∃ q w', loopS (g6_l14_b u0 (some ⟨fb, 0, none⟩) u1 q5) (false, (none, 0, 0), 0) w = some (.exit 0, (false, q, (ps.length : Int)), w') ∧ Own w' 5 1 q ((encs ps).map (Value.int .u8)) ∧ Fm w' fb tb ∧ Fr [tb] w w' ∧ (∀ y ∈ blkOf q, w.heap.size ≤ y) := by
  have hlen := h.len
  have htl := m.tbl.lt
  have hfl := m.blk.lt
  obtain ⟨t, w', g1, q, g2, g3, g4, g5, g6⟩ := loopS_count (b := g6_l14_b u0 (some ⟨fb, 0, none⟩) u1 q5)
    (I := fun k s x => ∃ q, s = (false, q, (k : Int)) ∧ Own x 5 1 q ((encs (ps.take k)).map (Value.int .u8)) ∧ Fm x fb tb ∧ Fr [tb] w x ∧ (∀ y ∈ blkOf q, w.heap.size ≤ y)) (n := ps.length)
    (fun k s x hk ⟨q, hs', ho, hm, hf, hb⟩ => by
      subst hs'
      obtain ⟨a, q7, i1, c1, r1, _, b1⟩ := (h.fr hf (by simp; omega)).get hk
      have hc : (k : Int) < (u0.2.1 : Int) := by omega
      have hsc := wrap_succ (n := k) (by omega)
      obtain ⟨q8, x2, e2, o2, m2, f2, h2⟩ := encode13 hm r1 (hz _ (List.getElem_mem hk)) (fun h0 hm => by have := b1 h0 _ hm; omega) (hs _ (List.getElem_mem hk))
      have z2 := hf.size
      have ho2 := ho.fr f2 (by grind)
      have htk : ps.take (k + 1) = ps.take k ++ [ps[k]] := List.take_succ_eq_append_getElem hk
      have hle := encs_take_le ps (k + 1)
      have hel : (encs (ps.take k) ++ enc ps[k]).length ≤ 1073741824 := by
        rw [htk, encs_append, encs_one] at hle; omega
      obtain ⟨q3, x3, e3, o3, f3, h3⟩ := app8 ho2 o2.slI (by rw [List.length_append] at hel; exact hel) #[false, false]
      have z_f2 := Fr.size f2; have z_f3 := Fr.size f3
      refine ⟨(false, q3, ((k + 1 : Nat) : Int)), x3, ?_, q3, rfl, ?_, ?_, (Fr.mono (Fr.app (Fr.app hf f2) f3) (by have z0_ := Fr.size hf; have z1_ := Fr.size f2; have z2_ := Fr.size f3; intro y_ hy_ hl_; grind [blkOf])), ?_⟩
      · have h00 : ((0 : Int) != 0) = false := by decide
        unfold g6_l14_b
        simp only [hc, i1, c1, e2, h00, e3, hsc, Option.bind_some, asP_pointer, asB_bool, asI_int, asS_string, asSl_slice, asM_map, asTup0, asTup1, asTup2, asTup3, asTup4, asTup5, getD0, getD1, getD2, getD3, getD4, Bool.not_true, Bool.not_false, Bool.false_eq_true, Bool.true_eq_false, ↓reduceIte, decide_true, decide_false, Option.isNone_some, Option.isNone_none, Option.isSome_some, Option.isSome_none, beq_self_eq_true, bne_self_eq_false, Bool.and_true, Bool.true_and, Bool.and_false, Bool.false_and, not_true_eq_false, not_false_eq_true]
      · rw [htk, encs_append, encs_one]; exact o3
      · exact m2.fr f3 (by grind) (by grind)
      · intro y hy
        rcases h3 with h3 | h3
        · refine hb y ?_; simp only [blkOf] at hy ⊢; rw [h3] at hy; exact hy
        · rw [h3] at hy; simp at hy; omega)
    (fun s x ⟨q, hs, ho, hm, hf, hb⟩ => by
      subst hs
      have hc : ¬ ((ps.length : Nat) : Int) < (u0.2.1 : Int) := by omega
      unfold g6_l14_b
      simp only [hc, Option.bind_some, asP_pointer, asB_bool, asI_int, asS_string, asSl_slice, asM_map, asTup0, asTup1, asTup2, asTup3, asTup4, asTup5, getD0, getD1, getD2, getD3, getD4, Bool.not_true, Bool.not_false, Bool.false_eq_true, Bool.true_eq_false, ↓reduceIte, decide_true, decide_false, Option.isNone_some, Option.isNone_none, Option.isSome_some, Option.isSome_none, beq_self_eq_true, bne_self_eq_false, Bool.and_true, Bool.true_and, Bool.and_false, Bool.false_and, not_true_eq_false, not_false_eq_true])
    (Nat.zero_le _) (k := 0) (s := (false, (none, 0, 0), 0)) (w := w) ⟨(none, 0, 0), rfl, Own.nil _ _ _, m, Fr.refl _ _, by simp [blkOf]⟩
  rw [g2] at g1
  rw [List.take_length] at g3
  exact ⟨q, w', g1, g3, g4, g5, g6⟩

theorem FrameBack_main (W : World) (x0 : (Ty.slice (.slice (.int .u8))).Val) (h0 : (Ty.slice (.slice (.int .u8))).At W [.slice x0.1.1 x0.1.2.1 x0.1.2.2] x0) (x1 : (Ty.slice (.int .u8)).Val) (h1 : (Ty.slice (.int .u8)).At W [.slice x1.1.1 x1.1.2.1 x1.1.2.2] x1)
    (hb : (Ty.slice (.slice (.int .u8))).bulk x0 + (Ty.slice (.int .u8)).bulk x1 ≤ 1048576) :
    ∃ w', callF Try.prog 6 #[.slice x0.1.1 x0.1.2.1 x0.1.2.2, .slice x1.1.1 x1.1.2.1 x1.1.2.2] W = some (.bool true, w') ∧ Fr [] W w' := by
  have hb0 : (Ty.slice (.slice (.int .u8))).bulk x0 ≤ 1048576 := by omega
  have hb1 : (Ty.slice (.int .u8)).bulk x1 ≤ 1048576 := by omega
  obtain ⟨hL, hz, hcap⟩ := lst_of_at h0
  replace hz : ∀ p ∈ x0.2.map (·.2), Zs p := fun p hp => zs_of (hz p hp)
  rw [bulk_list] at hb0
  have hlen1 : x1.2.length < 1048576 := bulk_len hb1
  obtain ⟨hu1, hz1, hlt1⟩ := slI_of_at h1
  replace hz1 := zs_of hz1
  obtain ⟨ps, hps⟩ : ∃ ps : List (List Int), x0.2.map (·.2) = ps := ⟨_, rfl⟩
  rw [hps] at hL hz hb0
  replace hb0 : (ps.map fun p => p.length + 1).sum + 1 ≤ 1048576 := hb0
  generalize x0.1 = u0 at hL hcap
  have hel : (encs ps).length ≤ 8388608 := by have := sum_bulk ps; rw [encs_length]; omega
  have hnl : ps.length ≤ 1048576 := by
    have : ∀ l : List (List Int), l.length ≤ (l.map fun p => p.length + 1).sum := by
      intro l; induction l with
      | nil => simp
      | cons p l ih => simp only [List.map_cons, List.sum_cons, List.length_cons]; omega
    have := this ps; omega
  have hLl := hL.len
  obtain ⟨fb, tb, w1, e1, m1, f1, htb, hfb⟩ := new10 (w := W)
  obtain ⟨q5, w2, ok, e2, hok, o2, f2, h5⟩ := join20 (hL.fr f1 (by simp)) hz (by omega) (by omega)
  obtain ⟨w3, e3, f3⟩ := awake12 (w := w2)
  cases ok with
  | false =>
    obtain ⟨w4, e4, f4⟩ := awake12 (w := w3)
    refine ⟨w4, g6_call ?_, (Fr.mono (Fr.app (Fr.app (Fr.app f1 f2) f3) f4) (by have z0_ := Fr.size f1; have z1_ := Fr.size f2; have z2_ := Fr.size f3; have z3_ := Fr.size f4; intro y_ hy_ hl_; grind [blkOf]))⟩
    unfold g6
    simp only [e1, e2, e3, e4, Option.bind_some, asP_pointer, asB_bool, asI_int, asS_string, asSl_slice, asM_map, asTup0, asTup1, asTup2, asTup3, asTup4, asTup5, getD0, getD1, getD2, getD3, getD4, Bool.not_true, Bool.not_false, Bool.false_eq_true, Bool.true_eq_false, ↓reduceIte, decide_true, decide_false, Option.isNone_some, Option.isNone_none, Option.isSome_some, Option.isSome_none, beq_self_eq_true, bne_self_eq_false, Bool.and_true, Bool.true_and, Bool.and_false, Bool.false_and, not_true_eq_false, not_false_eq_true]
  | true =>
    have hs := hok.1 rfl
    have o3 := (o2 rfl).fr f3 (by simp)
    have F3 : Fr [] W w3 := (Fr.mono (Fr.app (Fr.app f1 f2) f3) (by have z0_ := Fr.size f1; have z1_ := Fr.size f2; have z2_ := Fr.size f3; intro y_ hy_ hl_; grind [blkOf]))
    have m3 : Fm w3 fb tb := m1.fr (S := []) (Fr.mono (Fr.app f2 f3) (by have z0_ := Fr.size f2; have z1_ := Fr.size f3; intro y_ hy_ hl_; grind [blkOf])) (by simp) (by simp)
    obtain ⟨q, w4, e4, o4, m4, f4, h4⟩ := own6 (u1 := x1.1) (q5 := q5) m3 (hL.fr F3 (by simp)) htb F3.size hz hs (by omega) (by omega)
    have htl := m1.tbl.lt
    have hfl := m1.blk.lt
    have z_f1 := Fr.size f1; have z_f2 := Fr.size f2; have z_f3 := Fr.size f3; have z_f4 := Fr.size f4
    have n5 : tb ∉ blkOf q5 := by grind
    have nq : tb ∉ blkOf q := by grind
    obtain ⟨v6, w6, e6, l6, m6, f6⟩ := scan18 m4 o4.slI (encs_zs hz) o4.le (fun _ => nq) (by omega)
    have o6 : Own w6 5 1 q ((encs ps).map (Value.int .u8)) := o4.fr f6 (by grind)
    obtain ⟨q7, w7, e7, o7, f7, h7⟩ := copyE o6.slI (by omega) #[false, false]
    have F7 : Fr [] W w7 := (Fr.mono (Fr.app (Fr.app (Fr.app F3 f4) f6) f7) (by have z0_ := Fr.size F3; have z1_ := Fr.size f4; have z2_ := Fr.size f6; have z3_ := Fr.size f7; intro y_ hy_ hl_; grind [blkOf]))
    obtain ⟨q8, w8, e8, o8, f8, h8⟩ := app8 o7 (hu1.fr2 F7 (by simp)) (by omega) #[false, false]
    have z_f6 := Fr.size f6; have z_f7 := Fr.size f7; have z_f8 := Fr.size f8
    have m8 : Fm w8 fb tb := (m6.fr f7 (by simp) (by simp)).fr f8 (by grind) (by grind)
    have h8' : ∀ y ∈ blkOf q8, w6.heap.size ≤ y := by
      intro y hy
      rcases h8 with h8 | h8
      · refine h7 y ?_; simp only [blkOf] at hy ⊢; rw [h8] at hy; exact hy
      · rw [h8] at hy; simp at hy; omega
    obtain ⟨v9, w9, e9, l9, m9, f9⟩ := scan18 m8 o8.slI (by
      intro z hz'
      rw [List.mem_append] at hz'
      rcases hz' with hz' | hz'
      · exact encs_zs hz z hz'
      · exact hz1 z hz') o8.le (fun _ hm => by have := h8' _ hm; omega) (by rw [List.length_append]; omega)
    have z_f9 := Fr.size f9
    have sc1 : scan (encs ps) = (ps, (encs ps).length, 0) := by
      have := scan_encs (ps := ps) (rest := []) hs
      rw [List.append_nil, scan_nil (bs := []) rfl] at this
      simpa using this
    have sc2 := scan_encs (rest := x1.2) hs
    rw [sc1] at e6 l6
    rw [sc2] at e9 l9
    have o9 : Own w9 5 1 q ((encs ps).map (Value.int .u8)) := o6.fr (S := tb :: blkOf q7) (Fr.mono (Fr.app (Fr.app f7 f8) f9) (by have z0_ := Fr.size f7; have z1_ := Fr.size f8; have z2_ := Fr.size f9; intro y_ hy_ hl_; grind [blkOf])) (by have := o6.lt; grind)
    have o59 : Own w9 5 1 q5 ((encs ps).map (Value.int .u8)) := o3.fr (S := tb :: blkOf q7) (Fr.mono (Fr.app (Fr.app (Fr.app (Fr.app f4 f6) f7) f8) f9) (by have z0_ := Fr.size f4; have z1_ := Fr.size f6; have z2_ := Fr.size f7; have z3_ := Fr.size f8; have z4_ := Fr.size f9; intro y_ hy_ hl_; grind [blkOf])) (by have := o3.lt; grind)
    obtain ⟨w10, e10, f10⟩ := same14 o9.slI o59.slI (by omega)
    have l10 : LsO 22 (fun y => w4.heap.size ≤ y ∧ y < w6.heap.size) (ElO 5 .u8 (fun y => w4.heap.size ≤ y ∧ y < w6.heap.size)) w6 v6 ps := by
      obtain ⟨qs, k1, k2, k3, k4⟩ := l6
      exact ⟨qs, k1, k2, fun y hy => ⟨k3 y hy, k1.lt y hy⟩, fun i hi hi' => ⟨(k4 i hi hi').1, fun y hy => ⟨(k4 i hi hi').2 y hy, (k4 i hi hi').1.lt y hy⟩⟩⟩
    have F10 : Fr (tb :: blkOf q7) w6 w10 := (Fr.mono (Fr.app (Fr.app (Fr.app f7 f8) f9) f10) (by have z0_ := Fr.size f7; have z1_ := Fr.size f8; have z2_ := Fr.size f9; have z3_ := Fr.size f10; intro y_ hy_ hl_; grind [blkOf]))
    have l10' := l10.fr (stays_o _ _ _) F10 (by grind)
    have FW : Fr [] W w10 := (Fr.mono (Fr.app (Fr.app (Fr.app F7 f8) f9) f10) (by have z0_ := Fr.size F7; have z1_ := Fr.size f8; have z2_ := Fr.size f9; have z3_ := Fr.size f10; intro y_ hy_ hl_; grind [blkOf]))
    have pl : ∀ p ∈ ps, p.length < 9223372036854775807 := fun p hp => by have := hs p hp; omega
    obtain ⟨w11, e11, f11⟩ := samelist19 l10'.lst' (hL.fr FW (by simp)) (by omega) pl
    have FW11 : Fr [] W w11 := (Fr.mono (Fr.app FW f11) (by have z0_ := Fr.size FW; have z1_ := Fr.size f11; intro y_ hy_ hl_; grind [blkOf]))
    have l9' := (l9.fr (stays_o _ _ _) f10 (by simp)).fr (stays_o _ _ _) f11 (by simp)
    have hl9 := l9'.len
    have hle9 := l9'.le
    rw [List.length_append] at hl9
    have hcut := l9'.lst'.cut (j := ps.length) (by simp) hle9
    rw [List.take_left] at hcut
    have hslc := slc_to (u := v9) (n := 1) (j := ps.length) (by omega)
    obtain ⟨w12, e12, f12⟩ := samelist19 hcut (hL.fr FW11 (by simp)) (by omega) pl
    refine ⟨w12, g6_call ?_, (Fr.mono (Fr.app FW11 f12) (by have z0_ := Fr.size FW11; have z1_ := Fr.size f12; intro y_ hy_ hl_; grind [blkOf]))⟩
    have hl5 := o59.len
    simp only [List.length_map, Nat.mul_one] at hl5
    have hn1 : ((((encs ps).length : Nat) : Int) == (q5.2.1 : Int)) = true := by rw [hl5]; simp
    have hn2 : ((((encs ps).length + (scan x1.2).2.1 : Nat) : Int) ≥ (((encs ps).length : Nat) : Int)) := by omega
    have hn3 : ((v9.2.1 : Int) ≥ (u0.2.1 : Int)) := by omega
    have h00 : ((0 : Int) == 0) = true := by decide
    have hu0 : (u0.2.1 : Int) = ((ps.length : Nat) : Int) := by omega
    unfold g6
    simp only [e1, e2, e3, g6_l14_x0_of e4, Option.bind_some, asP_pointer, asB_bool, asI_int, asS_string, asSl_slice, asM_map, asTup0, asTup1, asTup2, asTup3, asTup4, asTup5, getD0, getD1, getD2, getD3, getD4, Bool.not_true, Bool.not_false, Bool.false_eq_true, Bool.true_eq_false, ↓reduceIte, decide_true, decide_false, Option.isNone_some, Option.isNone_none, Option.isSome_some, Option.isSome_none, beq_self_eq_true, bne_self_eq_false, Bool.and_true, Bool.true_and, Bool.and_false, Bool.false_and, not_true_eq_false, not_false_eq_true]
    unfold g6_l14_x0
    simp only [e6, e7, e8, e9, e10, h00, hn1, e11, hn2, hn3, Option.bind_some, asP_pointer, asB_bool, asI_int, asS_string, asSl_slice, asM_map, asTup0, asTup1, asTup2, asTup3, asTup4, asTup5, getD0, getD1, getD2, getD3, getD4, Bool.not_true, Bool.not_false, Bool.false_eq_true, Bool.true_eq_false, ↓reduceIte, decide_true, decide_false, Option.isNone_some, Option.isNone_none, Option.isSome_some, Option.isSome_none, beq_self_eq_true, bne_self_eq_false, Bool.and_true, Bool.true_and, Bool.and_false, Bool.false_and, not_true_eq_false, not_false_eq_true]
    rw [hu0, hslc]
    simp only [e12, Option.bind_some, asP_pointer, asB_bool, asI_int, asS_string, asSl_slice, asM_map, asTup0, asTup1, asTup2, asTup3, asTup4, asTup5, getD0, getD1, getD2, getD3, getD4, Bool.not_true, Bool.not_false, Bool.false_eq_true, Bool.true_eq_false, ↓reduceIte, decide_true, decide_false, Option.isNone_some, Option.isNone_none, Option.isSome_some, Option.isSome_none, beq_self_eq_true, bne_self_eq_false, Bool.and_true, Bool.true_and, Bool.and_false, Bool.false_and, not_true_eq_false, not_false_eq_true]
end Go.Proofs.Yteekaakkaogpeaa
