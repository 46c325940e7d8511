/-
  FrameTorn: lemmas on what Go functions of this seat come to (for whatever arguments, as each says). No condition but those that stand in each lemma.
-/
import Derived.Test.YteekaakkaogpeaaFrameBack
namespace Go.Proofs.Yteekaakkaogpeaa
open Go Go.Ev Go.Crc
set_option maxRecDepth 100000
set_option linter.unusedVariables false
set_option linter.unusedSimpArgs false

/-- a beginning of a frame that isn't whole -/
theorem scan_part {p rest : List Int} {m : Nat} (hp : p.length ≤ 4096) (hm : m < 8 + p.length) : scan ((enc p ++ rest).take m) = ([], 0, if m = 0 then 0 else 6) := by
  by_cases h0 : m = 0
  · subst h0; rw [List.take_zero, scan_nil rfl]; rfl
  · rw [if_neg h0]
    have hl : ((enc p ++ rest).take m).length = m := by
      rw [List.length_take, List.length_append, enc_length]; omega
    have hd : dec ((enc p ++ rest).take m) = ([], 0, 6) := by
      unfold dec
      by_cases h8 : m < 8
      · rw [if_pos (by omega)]
      · rw [if_neg (by omega)]
        have e : enc p ++ rest = le4 (p.length : Int) ++ (le4 (more 0 p) ++ (p ++ rest)) := by simp [enc]
        have g : ∀ i, i < 4 → ((enc p ++ rest).take m).getD i 0 = (le4 (p.length : Int)).getD i 0 := by
          intro i hi
          rw [getD_take (by omega), e]
          match i, hi with | 0, _ | 1, _ | 2, _ | 3, _ => rfl
        have h1 : un4 (((enc p ++ rest).take m).getD 0 0) (((enc p ++ rest).take m).getD 1 0) (((enc p ++ rest).take m).getD 2 0) (((enc p ++ rest).take m).getD 3 0) = (p.length : Int) := by
          rw [g 0 (by omega), g 1 (by omega), g 2 (by omega), g 3 (by omega)]
          exact un4_le4 (by omega)
        simp only [h1]
        rw [if_neg (by omega), if_pos (by omega)]
    have h0' : ¬ ((enc p ++ rest).take m).length = 0 := by omega
    rw [scan_bad h0' (by rw [hd]; decide), hd]

theorem scan_torn {ps : List (List Int)} {j k : Nat} (hs : ∀ p ∈ ps, p.length ≤ 4096) (hj : (encs (ps.take j)).length ≤ k) (hjl : j < ps.length) (hn : k < (encs (ps.take j)).length + (8 + ps[j].length)) :
    scan ((encs ps).take k) = (ps.take j, (encs (ps.take j)).length, if (encs (ps.take j)).length = k then 0 else 6) := by
  have e1 : encs ps = encs (ps.take j) ++ (enc ps[j] ++ encs (ps.drop (j + 1))) := by
    rw [← encs_cons, ← List.drop_eq_getElem_cons hjl, ← encs_append, List.take_append_drop]
  have e2 : (encs ps).take k = encs (ps.take j) ++ (enc ps[j] ++ encs (ps.drop (j + 1))).take (k - (encs (ps.take j)).length) := by
    rw [e1, List.take_append, List.take_of_length_le hj]
  rw [e2, scan_encs (fun p hp => hs p (List.mem_of_mem_take hp)), scan_part (hs _ (List.getElem_mem hjl)) (by omega)]
  simp only [List.append_nil, Nat.add_zero]
  by_cases h : (encs (ps.take j)).length = k
  · rw [if_pos (by omega), if_pos h]
  · rw [if_neg (by omega), if_neg h]

theorem encs_take_succ {ps : List (List Int)} {k : Nat} (hk : k < ps.length) : (encs (ps.take (k + 1))).length = (encs (ps.take k)).length + (8 + ps[k].length) := by
  rw [List.take_succ_eq_append_getElem hk, encs_append, encs_one, List.length_append, enc_length]

theorem FrameTorn_main (W : World) (x0 : (Ty.slice (.slice (.int .u8))).Val) (h0 : (Ty.slice (.slice (.int .u8))).At W [.slice x0.1.1 x0.1.2.1 x0.1.2.2] x0) (n1 : Int) (h1 : IntKind.u16.min ≤ n1 ∧ n1 ≤ IntKind.u16.max)
    (hb : (Ty.slice (.slice (.int .u8))).bulk x0 + 1 ≤ 1048576) :
    ∃ w', callF Try.prog 7 #[.slice x0.1.1 x0.1.2.1 x0.1.2.2, .int .u16 n1] W = some (.bool true, w') ∧ Fr [] W w' := by
  obtain ⟨hL, hz, hcap⟩ := lst_of_at h0
  replace hz : ∀ p ∈ x0.2.map (·.2), Zs p := fun p hp => zs_of (hz p hp)
  rw [bulk_list] at hb
  obtain ⟨ps, hps⟩ : ∃ ps : List (List Int), x0.2.map (·.2) = ps := ⟨_, rfl⟩
  rw [hps] at hL hz hb
  replace hb : (ps.map fun p => p.length + 1).sum + 1 + 1 ≤ 1048576 := hb
  generalize x0.1 = u0 at hL hcap
  have h1r : 0 ≤ n1 ∧ n1 < 65536 := by
    have a : IntKind.u16.min = 0 := by decide
    have b : IntKind.u16.max = 65535 := by decide
    rw [a, b] at h1; omega
  have hel : (encs ps).length ≤ 8388608 := by have := sum_bulk ps; rw [encs_length]; omega
  have hnl : ps.length ≤ 1048576 := by
    have : ∀ l : List (List Int), l.length ≤ (l.map fun p => p.length + 1).sum := by
      intro l; induction l with
      | nil => simp
      | cons p l ih => simp only [List.map_cons, List.sum_cons, List.length_cons]; omega
    have := this ps; omega
  have hLl := hL.len
  obtain ⟨fb, tb, w1, e1, m1, f1, htb, hfb⟩ := new10 (w := W)
  obtain ⟨q5, w2, ok, e2, hok, o2, f2, h5⟩ := join20 (hL.fr f1 (by simp)) hz (by omega) (by omega)
  obtain ⟨w3, e3, f3⟩ := awake12 (w := w2)
  cases ok with
  | false =>
    obtain ⟨w4, e4, f4⟩ := awake12 (w := w3)
    refine ⟨w4, g7_call ?_, (Fr.mono (Fr.app (Fr.app (Fr.app f1 f2) f3) f4) (by have z0_ := Fr.size f1; have z1_ := Fr.size f2; have z2_ := Fr.size f3; have z3_ := Fr.size f4; intro y_ hy_ hl_; grind [blkOf]))⟩
    unfold g7
    simp only [e1, e2, e3, e4, Option.bind_some, asP_pointer, asB_bool, asI_int, asS_string, asSl_slice, asM_map, asTup0, asTup1, asTup2, asTup3, asTup4, asTup5, getD0, getD1, getD2, getD3, getD4, Bool.not_true, Bool.not_false, Bool.false_eq_true, Bool.true_eq_false, ↓reduceIte, decide_true, decide_false, Option.isNone_some, Option.isNone_none, Option.isSome_some, Option.isSome_none, beq_self_eq_true, bne_self_eq_false, Bool.and_true, Bool.true_and, Bool.and_false, Bool.false_and, not_true_eq_false, not_false_eq_true]
  | true =>
    have hs := hok.1 rfl
    have o3 := (o2 rfl).fr f3 (by simp)
    have F3 : Fr [] W w3 := (Fr.mono (Fr.app (Fr.app f1 f2) f3) (by have z0_ := Fr.size f1; have z1_ := Fr.size f2; have z2_ := Fr.size f3; intro y_ hy_ hl_; grind [blkOf]))
    have hl5 := o3.len
    simp only [List.length_map, Nat.mul_one] at hl5
    have hc5 := o3.le
    by_cases hz0 : (encs ps).length = 0
    · obtain ⟨w4, e4, f4⟩ := awake12 (w := w3)
      refine ⟨w4, g7_call ?_, (Fr.mono (Fr.app F3 f4) (by have z0_ := Fr.size F3; have z1_ := Fr.size f4; intro y_ hy_ hl_; grind [blkOf]))⟩
      have hq0 : ((q5.2.1 : Int) == 0) = true := by
        have : (q5.2.1 : Int) = 0 := by omega
        simp [this]
      unfold g7
      simp only [e1, e2, e3, hq0, e4, Option.bind_some, asP_pointer, asB_bool, asI_int, asS_string, asSl_slice, asM_map, asTup0, asTup1, asTup2, asTup3, asTup4, asTup5, getD0, getD1, getD2, getD3, getD4, Bool.not_true, Bool.not_false, Bool.false_eq_true, Bool.true_eq_false, ↓reduceIte, decide_true, decide_false, Option.isNone_some, Option.isNone_none, Option.isSome_some, Option.isSome_none, beq_self_eq_true, bne_self_eq_false, Bool.and_true, Bool.true_and, Bool.and_false, Bool.false_and, not_true_eq_false, not_false_eq_true]
    · have hq0 : ((q5.2.1 : Int) == 0) = false := by
        have : ¬ (q5.2.1 : Int) = 0 := by omega
        simpa using this
      have hq0' : ¬ (q5.2.1 : Int) = 0 := by omega
      have htl := m1.tbl.lt
      have hfl := m1.blk.lt
      obtain ⟨k, hk, hkl⟩ : ∃ k : Nat, Int.tmod (IntKind.i64.wrap n1) (q5.2.1 : Int) = (k : Int) ∧ k < (encs ps).length := by
        rw [wrap_i64 (n := n1) (by omega) (by omega), Int.tmod_eq_emod_of_nonneg h1r.1]
        have a1 := Int.emod_nonneg n1 hq0'
        have a2 := Int.emod_lt_of_pos n1 (show 0 < (q5.2.1 : Int) by omega)
        exact ⟨(n1 % (q5.2.1 : Int)).toNat, by omega, by omega⟩
      have cut := o3.slC.cut (i := 0) (j := k) (Nat.zero_le _) (by omega) hc5
      have hcutv : List.take ((k - 0) * 1) (List.drop (0 * 1) ((encs ps).map (Value.int .u8))) = ((encs ps).take k).map (Value.int .u8) := by simp
      rw [hcutv] at cut
      have hslc := slc_to (u := q5) (n := 1) (j := k) (by omega)
      have hzt := zs_take (encs_zs hz) k
      obtain ⟨q6, w4, e4, o4, f4, h4⟩ := copyE (SlC.ints cut) (by simp; omega) #[false, false]
      have z_f1 := Fr.size f1; have z_f2 := Fr.size f2; have z_f3 := Fr.size f3; have z_f4 := Fr.size f4
      have m4 : Fm w4 fb tb := m1.fr (S := []) (Fr.mono (Fr.app (Fr.app f2 f3) f4) (by have z0_ := Fr.size f2; have z1_ := Fr.size f3; have z2_ := Fr.size f4; intro y_ hy_ hl_; grind [blkOf])) (by simp) (by simp)
      obtain ⟨v6, w6, e6, l6, m6, f6⟩ := scan18 m4 o4.slI hzt o4.le (fun _ hm => by have := h4 _ hm; omega) (by simp; omega)
      have z_f6 := Fr.size f6
      have F6 : Fr [] W w6 := (Fr.mono (Fr.app (Fr.app F3 f4) f6) (by have z0_ := Fr.size F3; have z1_ := Fr.size f4; have z2_ := Fr.size f6; intro y_ hy_ hl_; grind [blkOf]))
      have hL6 := hL.fr F6 (by simp)
      have hloop : ∃ j, j < ps.length ∧ loopS (g7_l26_b u0 n1 q5 v6 ((scan ((encs ps).take k)).2.1 : Int) (scan ((encs ps).take k)).2.2) (0, 0, 0) w6 = some (.exit 0, ((j : Int), (((encs (ps.take j)).length : Nat) : Int), (j : Int)), w6) ∧
          (encs (ps.take j)).length ≤ k ∧ k < (encs (ps.take j)).length + (8 + ps[j]!.length) := by
        obtain ⟨e, t, w', g1, j, g2, rfl, rfl, g3, g4, g5⟩ := loopS_rule (b := g7_l26_b u0 n1 q5 v6 ((scan ((encs ps).take k)).2.1 : Int) (scan ((encs ps).take k)).2.2)
          (I := fun j s x => s = ((j : Int), (((encs (ps.take j)).length : Nat) : Int), (j : Int)) ∧ x = w6 ∧ (encs (ps.take j)).length ≤ k)
          (Q := fun e s x => ∃ j, j < ps.length ∧ e = .exit 0 ∧ x = w6 ∧ s = ((j : Int), (((encs (ps.take j)).length : Nat) : Int), (j : Int)) ∧ (encs (ps.take j)).length ≤ k ∧ k < (encs (ps.take j)).length + (8 + ps[j]!.length)) (n := ps.length)
          (fun j s x hj ⟨hs', hx, hle⟩ => by
            subst hs' hx
            obtain ⟨a, q7, i1, c1, r1, _, _⟩ := hL6.get hj
            have hq7 := r1.1
            have hp7 := hs _ (List.getElem_mem hj)
            have hsuc := encs_take_succ hj
            have hle2 := encs_take_le ps (j + 1)
            have hg : ps[j]! = ps[j] := by simp [hj]
            have hc : (j : Int) < (u0.2.1 : Int) := by omega
            have hs1 := wrap_succ (n := j) (by omega)
            have hw1 : IntKind.i64.wrap ((((encs (ps.take j)).length : Nat) : Int) + 8) = (((encs (ps.take j)).length : Nat) : Int) + 8 := wrap_i64 (by omega) (by omega)
            have hw2 : IntKind.i64.wrap ((((encs (ps.take j)).length : Nat) : Int) + 8 + (q7.2.1 : Int)) = (((encs (ps.take (j + 1))).length : Nat) : Int) := by rw [wrap_i64 (by omega) (by omega)]; omega
            have hw3 : IntKind.i64.wrap (8 + (q7.2.1 : Int)) = 8 + (q7.2.1 : Int) := wrap_i64 (by omega) (by omega)
            have hw4 : IntKind.i64.wrap ((((encs (ps.take j)).length : Nat) : Int) + (8 + (q7.2.1 : Int))) = (((encs (ps.take (j + 1))).length : Nat) : Int) := by rw [wrap_i64 (by omega) (by omega)]; omega
            by_cases hgt : (((encs (ps.take (j + 1))).length : Nat) : Int) > (k : Int)
            · refine ⟨.exit 0, _, x, ?_, .inr ⟨by simp, j, hj, rfl, rfl, rfl, hle, by rw [hg]; omega⟩⟩
              unfold g7_l26_b
              simp only [hc, i1, c1, hw1, hw2, hk, hgt, Option.bind_some, asP_pointer, asB_bool, asI_int, asS_string, asSl_slice, asM_map, asTup0, asTup1, asTup2, asTup3, asTup4, asTup5, getD0, getD1, getD2, getD3, getD4, Bool.not_true, Bool.not_false, Bool.false_eq_true, Bool.true_eq_false, ↓reduceIte, decide_true, decide_false, Option.isNone_some, Option.isNone_none, Option.isSome_some, Option.isSome_none, beq_self_eq_true, bne_self_eq_false, Bool.and_true, Bool.true_and, Bool.and_false, Bool.false_and, not_true_eq_false, not_false_eq_true]
            · refine ⟨.normal, (((j + 1 : Nat) : Int), (((encs (ps.take (j + 1))).length : Nat) : Int), ((j + 1 : Nat) : Int)), x, ?_, .inl ⟨rfl, rfl, rfl, by omega⟩⟩
              unfold g7_l26_b
              simp only [hc, i1, c1, hw1, hw2, hk, hgt, hs1, hw3, hw4, Option.bind_some, asP_pointer, asB_bool, asI_int, asS_string, asSl_slice, asM_map, asTup0, asTup1, asTup2, asTup3, asTup4, asTup5, getD0, getD1, getD2, getD3, getD4, Bool.not_true, Bool.not_false, Bool.false_eq_true, Bool.true_eq_false, ↓reduceIte, decide_true, decide_false, Option.isNone_some, Option.isNone_none, Option.isSome_some, Option.isSome_none, beq_self_eq_true, bne_self_eq_false, Bool.and_true, Bool.true_and, Bool.and_false, Bool.false_and, not_true_eq_false, not_false_eq_true])
          (fun s x ⟨hs', hx, hle⟩ => by rw [List.take_length] at hle; omega)
          (Nat.zero_le _) (k := 0) (s := (0, 0, 0)) (w := w6) ⟨rfl, rfl, Nat.zero_le _⟩
        exact ⟨j, g2, by rw [g3] at g1; exact g1, g4, g5⟩
      obtain ⟨j, hj, e7, hjk, hjn⟩ := hloop
      have hg : ps[j]! = ps[j] := by simp [hj]
      rw [hg] at hjn
      have hsc := scan_torn hs hjk hj hjn
      rw [hsc] at e6 l6 e7
      have hcutL := hL6.cut (j := j) (by omega) hcap
      have hslL := slc_to (u := u0) (n := 1) (j := j) (by omega)
      obtain ⟨w8, e8, f8⟩ := samelist19 l6.lst' hcutL (by simp; omega) (fun p hp => by have := hs p (List.mem_of_mem_take hp); omega)
      refine ⟨w8, g7_call ?_, (Fr.mono (Fr.app F6 f8) (by have z0_ := Fr.size F6; have z1_ := Fr.size f8; intro y_ hy_ hl_; grind [blkOf]))⟩
      unfold g7
      simp only [e1, e2, e3, hq0, hq0', hk, hslc, Option.bind_some, asP_pointer, asB_bool, asI_int, asS_string, asSl_slice, asM_map, asTup0, asTup1, asTup2, asTup3, asTup4, asTup5, getD0, getD1, getD2, getD3, getD4, Bool.not_true, Bool.not_false, Bool.false_eq_true, Bool.true_eq_false, ↓reduceIte, decide_true, decide_false, Option.isNone_some, Option.isNone_none, Option.isSome_some, Option.isSome_none, beq_self_eq_true, bne_self_eq_false, Bool.and_true, Bool.true_and, Bool.and_false, Bool.false_and, not_true_eq_false, not_false_eq_true]
      simp only [e4, Option.bind_some, asP_pointer, asB_bool, asI_int, asS_string, asSl_slice, asM_map, asTup0, asTup1, asTup2, asTup3, asTup4, asTup5, getD0, getD1, getD2, getD3, getD4, Bool.not_true, Bool.not_false, Bool.false_eq_true, Bool.true_eq_false, ↓reduceIte, decide_true, decide_false, Option.isNone_some, Option.isNone_none, Option.isSome_some, Option.isSome_none, beq_self_eq_true, bne_self_eq_false, Bool.and_true, Bool.true_and, Bool.and_false, Bool.false_and, not_true_eq_false, not_false_eq_true]
      simp only at e6
      simp only [e6, Option.bind_some, asP_pointer, asB_bool, asI_int, asS_string, asSl_slice, asM_map, asTup0, asTup1, asTup2, asTup3, asTup4, asTup5, getD0, getD1, getD2, getD3, getD4, Bool.not_true, Bool.not_false, Bool.false_eq_true, Bool.true_eq_false, ↓reduceIte, decide_true, decide_false, Option.isNone_some, Option.isNone_none, Option.isSome_some, Option.isSome_none, beq_self_eq_true, bne_self_eq_false, Bool.and_true, Bool.true_and, Bool.and_false, Bool.false_and, not_true_eq_false, not_false_eq_true]
      have e9 := g7_l26_x0_of e7
      simp only at e9
      rw [e9]
      unfold g7_l26_x0
      simp only [hslL, e8, hk, Option.bind_some, asP_pointer, asB_bool, asI_int, asS_string, asSl_slice, asM_map, asTup0, asTup1, asTup2, asTup3, asTup4, asTup5, getD0, getD1, getD2, getD3, getD4, Bool.not_true, Bool.not_false, Bool.false_eq_true, Bool.true_eq_false, ↓reduceIte, decide_true, decide_false, Option.isNone_some, Option.isNone_none, Option.isSome_some, Option.isSome_none, beq_self_eq_true, bne_self_eq_false, Bool.and_true, Bool.true_and, Bool.and_false, Bool.false_and, not_true_eq_false, not_false_eq_true]
      by_cases h : (encs (ps.take j)).length = k
      · have hb1 : ((((encs (ps.take j)).length : Nat) : Int) == (k : Int)) = true := by rw [h]; simp
        have h00 : ((0 : Int) == 0) = true := by decide
        rw [if_pos h]
        simp only [hb1, h00, Option.bind_some, asP_pointer, asB_bool, asI_int, asS_string, asSl_slice, asM_map, asTup0, asTup1, asTup2, asTup3, asTup4, asTup5, getD0, getD1, getD2, getD3, getD4, Bool.not_true, Bool.not_false, Bool.false_eq_true, Bool.true_eq_false, ↓reduceIte, decide_true, decide_false, Option.isNone_some, Option.isNone_none, Option.isSome_some, Option.isSome_none, beq_self_eq_true, bne_self_eq_false, Bool.and_true, Bool.true_and, Bool.and_false, Bool.false_and, not_true_eq_false, not_false_eq_true]
        all_goals rfl
      · have hb1 : ((((encs (ps.take j)).length : Nat) : Int) == (k : Int)) = false := by
          have : ¬ (((encs (ps.take j)).length : Nat) : Int) = (k : Int) := by omega
          simpa using this
        have h60 : ((6 : Int) == 0) = false := by decide
        rw [if_neg h]
        simp only [hb1, h60, Option.bind_some, asP_pointer, asB_bool, asI_int, asS_string, asSl_slice, asM_map, asTup0, asTup1, asTup2, asTup3, asTup4, asTup5, getD0, getD1, getD2, getD3, getD4, Bool.not_true, Bool.not_false, Bool.false_eq_true, Bool.true_eq_false, ↓reduceIte, decide_true, decide_false, Option.isNone_some, Option.isNone_none, Option.isSome_some, Option.isSome_none, beq_self_eq_true, bne_self_eq_false, Bool.and_true, Bool.true_and, Bool.and_false, Bool.false_and, not_true_eq_false, not_false_eq_true]
        all_goals rfl
end Go.Proofs.Yteekaakkaogpeaa
