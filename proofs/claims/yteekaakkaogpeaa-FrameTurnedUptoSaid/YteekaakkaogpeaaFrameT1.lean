/-
  FrameT1: lemmas on what Go functions of this seat come to (for whatever arguments, as each says). No condition but those that stand in each lemma.
-/
import Derived.Test.YteekaakkaogpeaaFrameT0
namespace Go.Proofs.Yteekaakkaogpeaa
open Go Go.Ev Go.Crc
set_option maxRecDepth 100000
set_option linter.unusedVariables false
set_option linter.unusedSimpArgs false

theorem Eb_low (by_ : BitVec 32) (K m : Nat) (h : 8 * m + 8 ≤ K ∨ K + 32 ≤ 8 * m) : Eb by_ K 32 m = 0#8 := by
  apply BitVec.eq_of_getLsbD_eq
  intro j hj
  rw [Eb_bit by_ K 32 m j hj]
  rcases h with h | h
  · have : ¬ K ≤ 8 * m + j := by omega
    simp [this]
  · have : ¬ 8 * m + j < K + 32 := by omega
    simp [this]
theorem Eb_shift (by_ : BitVec 32) (x k m : Nat) (h : x ≤ m) : Eb by_ (8 * x + k) 32 m = Eb by_ k 32 (m - x) := by
  apply BitVec.eq_of_getLsbD_eq
  intro j hj
  rw [Eb_bit by_ _ 32 m j hj, Eb_bit by_ _ 32 (m - x) j hj]
  have e1 : (8 * x + k ≤ 8 * m + j) = (k ≤ 8 * (m - x) + j) := by rw [eq_iff_iff]; omega
  have e2 : (8 * m + j < 8 * x + k + 32) = (8 * (m - x) + j < k + 32) := by rw [eq_iff_iff]; omega
  have e3 : 8 * m + j - (8 * x + k) = 8 * (m - x) + j - k := by omega
  simp only [e1, e2, e3]

theorem Lb8_length {zs : List Int} {by_ : BitVec 32} {k i : Nat} : (Lb8 zs by_ k i).length = zs.length := by simp [Lb8]
theorem Lb8_get {zs : List Int} {by_ : BitVec 32} {k i m : Nat} (h : m < (Lb8 zs by_ k i).length) (h' : m < zs.length) : (Lb8 zs by_ k i)[m] = (((BitVec.ofInt 8 zs[m] ^^^ Eb by_ k i m).toNat : Nat) : Int) := by
  simp only [Lb8, List.getElem_map, List.getElem_range]
  rw [getD_lt h']
theorem Lb8_zs (zs : List Int) (by_ : BitVec 32) (k i : Nat) : Zs (Lb8 zs by_ k i) := by
  intro z hm
  obtain ⟨m, _, rfl⟩ := List.mem_map.1 hm
  have := (BitVec.ofInt 8 (zs.getD m 0) ^^^ Eb by_ k i m).isLt
  omega

theorem Lb8_seg {X Y Z : List Int} (hX : Zs X) (hZ : Zs Z) (by_ : BitVec 32) (k : Nat) (hk : k + 32 ≤ 8 * Y.length) :
    Lb8 (X ++ (Y ++ Z)) by_ (8 * X.length + k) 32 = X ++ (Lb8 Y by_ k 32 ++ Z) := by
  apply List.ext_getElem
  · simp [Lb8]
  · intro m h1 h2
    have hm : m < (X ++ (Y ++ Z)).length := by rw [Lb8_length] at h1; exact h1
    rw [Lb8_get h1 hm]
    by_cases a : m < X.length
    · rw [List.getElem_append_left a, List.getElem_append_left a, Eb_low _ _ _ (by omega), BitVec.xor_zero]
      exact (byte_bv (hX _ (List.getElem_mem a))).symm
    · by_cases b : m - X.length < Y.length
      · have b' : m - X.length < (Lb8 Y by_ k 32).length := by rw [Lb8_length]; exact b
        have e1 : (X ++ (Y ++ Z))[m] = Y[m - X.length] := by rw [List.getElem_append_right (by omega), List.getElem_append_left b]
        have e2 : (X ++ (Lb8 Y by_ k 32 ++ Z))[m] = (Lb8 Y by_ k 32)[m - X.length] := by rw [List.getElem_append_right (by omega), List.getElem_append_left b']
        rw [e1, e2, Lb8_get b' b, Eb_shift _ _ _ _ (by omega)]
      · have hzm : m - X.length - Y.length < Z.length := by simp at hm; omega
        have e1 : (X ++ (Y ++ Z))[m] = Z[m - X.length - Y.length] := by rw [List.getElem_append_right (by omega), List.getElem_append_right (by omega)]
        have e2 : (X ++ (Lb8 Y by_ k 32 ++ Z))[m] = Z[m - X.length - Y.length] := by
          rw [List.getElem_append_right (by omega), List.getElem_append_right (by rw [Lb8_length]; omega)]
          simp only [Lb8_length]
        rw [e1, e2, Eb_low _ _ _ (by omega), BitVec.xor_zero]
        exact (byte_bv (hZ _ (List.getElem_mem hzm))).symm

/-- a frame whose sum isn't its payload's -/
theorem dec_sum {p rest sb : List Int} (hl : p.length ≤ 4096) (hsb : sb.length = 4) (hne : more 0 p ≠ un4 (sb.getD 0 0) (sb.getD 1 0) (sb.getD 2 0) (sb.getD 3 0)) :
    dec (le4 (p.length : Int) ++ (sb ++ (p ++ rest))) = ([], 0, 8) := by
  match sb, hsb with
  | [s0, s1, s2, s3], _ =>
    have hlen : (le4 (p.length : Int) ++ ([s0, s1, s2, s3] ++ (p ++ rest))).length = 8 + p.length + rest.length := by simp [le4]; omega
    have h1 : un4 ((le4 (p.length : Int) ++ ([s0, s1, s2, s3] ++ (p ++ rest))).getD 0 0) ((le4 (p.length : Int) ++ ([s0, s1, s2, s3] ++ (p ++ rest))).getD 1 0) ((le4 (p.length : Int) ++ ([s0, s1, s2, s3] ++ (p ++ rest))).getD 2 0) ((le4 (p.length : Int) ++ ([s0, s1, s2, s3] ++ (p ++ rest))).getD 3 0) = (p.length : Int) := un4_le4 (by omega)
    have h2 : un4 ((le4 (p.length : Int) ++ ([s0, s1, s2, s3] ++ (p ++ rest))).getD 4 0) ((le4 (p.length : Int) ++ ([s0, s1, s2, s3] ++ (p ++ rest))).getD 5 0) ((le4 (p.length : Int) ++ ([s0, s1, s2, s3] ++ (p ++ rest))).getD 6 0) ((le4 (p.length : Int) ++ ([s0, s1, s2, s3] ++ (p ++ rest))).getD 7 0) = un4 s0 s1 s2 s3 := rfl
    have h3 : ((le4 (p.length : Int) ++ ([s0, s1, s2, s3] ++ (p ++ rest))).drop 8).take p.length = p := by
      have : (le4 (p.length : Int) ++ ([s0, s1, s2, s3] ++ (p ++ rest))).drop 8 = p ++ rest := rfl
      rw [this, List.take_left]
    have hne' : ¬ more 0 p = un4 s0 s1 s2 s3 := hne
    unfold dec
    rw [if_neg (by omega)]
    simp only [h1, h2]
    rw [if_neg (by omega), if_neg (by omega), Int.toNat_natCast, h3, if_neg hne']

theorem scan_sum {ps : List (List Int)} {p rest sb : List Int} (hs : ∀ p ∈ ps, p.length ≤ 4096) (hl : p.length ≤ 4096) (hsb : sb.length = 4) (hne : more 0 p ≠ un4 (sb.getD 0 0) (sb.getD 1 0) (sb.getD 2 0) (sb.getD 3 0)) :
    scan (encs ps ++ (le4 (p.length : Int) ++ (sb ++ (p ++ rest)))) = (ps, (encs ps).length, 8) := by
  have hd := dec_sum (rest := rest) hl hsb hne
  have h0 : ¬ (le4 (p.length : Int) ++ (sb ++ (p ++ rest))).length = 0 := by simp [le4]
  rw [scan_encs hs, scan_bad h0 (by rw [hd]; decide), hd]
  simp

theorem byte_of {z : Int} (h : 0 ≤ z ∧ z < 256) (e : BitVec 8) (he : (((BitVec.ofInt 8 z ^^^ e).toNat : Nat) : Int) = z) : e = 0#8 := by
  have h1 := byte_bv h
  rw [h1] at he
  rw [ofInt_toNat] at he
  have h2 : (BitVec.ofInt 8 z ^^^ e).toNat = (BitVec.ofInt 8 z).toNat := by omega
  have h3 := BitVec.eq_of_toNat_eq h2
  have h4 := congrArg (BitVec.ofInt 8 z ^^^ ·) h3
  simpa [← BitVec.xor_assoc] using h4

/-- four bytes with a window turned are another number -/
theorem un4_turned {s : Int} (hs : 0 ≤ s ∧ s < 4294967296) (by_ : BitVec 32) (hby : by_ ≠ 0#32) :
    s ≠ un4 ((Lb8 (le4 s) by_ 0 32).getD 0 0) ((Lb8 (le4 s) by_ 0 32).getD 1 0) ((Lb8 (le4 s) by_ 0 32).getD 2 0) ((Lb8 (le4 s) by_ 0 32).getD 3 0) := by
  intro e
  have hz := Lb8_zs (le4 s) by_ 0 32
  have g : ∀ m (h : m < 4), (Lb8 (le4 s) by_ 0 32).getD m 0 = (((BitVec.ofInt 8 ((le4 s).getD m 0) ^^^ Eb by_ 0 32 m).toNat : Nat) : Int) := by
    intro m h
    have h1 : m < (le4 s).length := h
    have h2 : m < (Lb8 (le4 s) by_ 0 32).length := by rw [Lb8_length]; exact h1
    rw [getD_lt h2, Lb8_get h2 h1, getD_lt h1]
  have r0 := getD_zs hz 0; have r1 := getD_zs hz 1; have r2 := getD_zs hz 2; have r3 := getD_zs hz 3
  have e4 := un4_le4 hs
  have h0 : (Lb8 (le4 s) by_ 0 32).getD 0 0 = s % 256 := by unfold un4 at e; omega
  have h1 : (Lb8 (le4 s) by_ 0 32).getD 1 0 = s / 256 % 256 := by unfold un4 at e; omega
  have h2 : (Lb8 (le4 s) by_ 0 32).getD 2 0 = s / 65536 % 256 := by unfold un4 at e; omega
  have h3 : (Lb8 (le4 s) by_ 0 32).getD 3 0 = s / 16777216 % 256 := by unfold un4 at e; omega
  have b : ∀ m (h : m < 4), Eb by_ 0 32 m = 0#8 := by
    intro m h
    have hgm := g m h
    match m, h with
    | 0, _ => exact byte_of (z := s % 256) (by omega) _ (by rw [h0] at hgm; exact hgm.symm)
    | 1, _ => exact byte_of (z := s / 256 % 256) (by omega) _ (by rw [h1] at hgm; exact hgm.symm)
    | 2, _ => exact byte_of (z := s / 65536 % 256) (by omega) _ (by rw [h2] at hgm; exact hgm.symm)
    | 3, _ => exact byte_of (z := s / 16777216 % 256) (by omega) _ (by rw [h3] at hgm; exact hgm.symm)
  apply hby
  apply BitVec.eq_of_getLsbD_eq
  intro i hi
  have := Eb_bit by_ 0 32 (i / 8) (i % 8) (Nat.mod_lt _ (by omega))
  rw [b (i / 8) (by omega)] at this
  have e5 : 8 * (i / 8) + i % 8 = i := by omega
  rw [e5] at this
  simpa [hi] using this.symm

structure UInv (w0 : World) (fb tb : Nat) (q : Option Addr × Nat × Nat) (zs : List Int) (by_ : BitVec 32) (k i : Nat) (s : Int) (w : World) : Prop where
  cnt : s = (i : Int)
  fm : Fm w fb tb
  fr : Fr (blkOf q) w0 w
  own : Own w 5 1 q ((Lb8 zs by_ k i).map (Value.int .u8))

theorem turn_38 {w0 : World} {fb tb : Nat} {q q33 u0 : Option Addr × Nat × Nat} {zs : List Int} {by_ : BitVec 32} {bit begin_ : Nat} {t29 : Int × Int} {u1 u2 : Int} {p2 : Option Addr}
    (hK : Int.tmod (IntKind.i64.wrap u2) (IntKind.i64.wrap ((IntKind.i64.wrap (8 * (q33.2.1 : Int))) - 31)) = (bit : Int)) (hB : t29.1 = (begin_ : Int)) (hk : 8 * (begin_ + 8) + bit + 32 ≤ 8 * zs.length) (hl : zs.length ≤ 16777216)
    (nf : fb ∉ blkOf q) (nt : tb ∉ blkOf q) (i : Nat) (s : Int) (w : World) (hi : i < 32) (h : UInv w0 fb tb q zs by_ (8 * (begin_ + 8) + bit) i s w) :
    ∃ s' w', g8_l38_b ((by_.toNat : Nat) : Int) q t29 u2 q33 u0 p2 u1 s w = some (.normal, s', w') ∧ UInv w0 fb tb q zs by_ (8 * (begin_ + 8) + bit) (i + 1) s' w' := by
  obtain ⟨rfl, fm, fr, own⟩ := h
  generalize hkk : 8 * (begin_ + 8) + bit = k at *
  have hlq := own.len
  have hL : (Lb8 zs by_ k i).length = zs.length := by simp [Lb8]
  simp only [List.length_map, Nat.mul_one, hL] at hlq
  have hpos : (k + i) / 8 < zs.length := by omega
  have hc : (i : Int) < 32 := by omega
  have hs := wrap_succ (n := i) (by omega)
  have hw : IntKind.u64.wrap (i : Int) = (i : Int) := wrap_u64 (by omega) (by omega)
  have hn : ¬ (i : Int) < 0 := by omega
  have hm : min (Int.toNat (i : Int)) 32 = i := by simp; omega
  have hbit : (IntKind.u32.wrap (((BitVec.ofInt 32 (Int.fdiv ((by_.toNat : Nat) : Int) (2 ^ i)) &&& BitVec.ofInt 32 1).toNat : Nat) : Int) == 1) = by_.getLsbD i := by
    rw [fdiv_shr, ofInt_toNat, bit0]
    have : (by_ >>> i).getLsbD 0 = by_.getLsbD i := by simp only [BitVec.getLsbD_ushiftRight]; simp
    rw [this]
    cases by_.getLsbD i <;> decide
  have hki : IntKind.i64.wrap ((bit : Int) + (i : Int)) = ((bit + i : Nat) : Int) := by rw [wrap_i64 (by omega) (by omega)]; omega
  have hdiv : IntKind.i64.wrap (Int.tdiv ((bit + i : Nat) : Int) 8) = (((bit + i) / 8 : Nat) : Int) := by
    rw [Int.tdiv_eq_ediv_of_nonneg (by omega), wrap_i64 (by omega) (by omega)]; omega
  have hb1 : IntKind.i64.wrap ((begin_ : Int) + 8) = (begin_ : Int) + 8 := wrap_i64 (by omega) (by omega)
  have hb2 : IntKind.i64.wrap ((begin_ : Int) + 8 + (((bit + i) / 8 : Nat) : Int)) = (((k + i) / 8 : Nat) : Int) := by rw [wrap_i64 (by omega) (by omega)]; omega
  have hmod : IntKind.u64.wrap (Int.tmod ((bit + i : Nat) : Int) 8) = (((k + i) % 8 : Nat) : Int) := by
    rw [Int.tmod_eq_emod_of_nonneg (by omega), wrap_u64 (by omega) (by omega)]; omega
  have hmn : ¬ (((k + i) % 8 : Nat) : Int) < 0 := by omega
  have hstep := Lb8_step (zs := zs) by_ k i hpos
  unfold g8_l38_b
  simp only [hc, hw, hn, hm, hbit, hK, hB, hki, hdiv, hb1, hb2, hmod, hmn, Option.bind_some, asP_pointer, asB_bool, asI_int, asS_string, asSl_slice, asM_map, asTup0, asTup1, asTup2, asTup3, asTup4, asTup5, getD0, getD1, getD2, getD3, getD4, Bool.not_true, Bool.not_false, Bool.false_eq_true, Bool.true_eq_false, ↓reduceIte, decide_true, decide_false, Option.isNone_some, Option.isNone_none, Option.isSome_some, Option.isSome_none, beq_self_eq_true, bne_self_eq_false, Bool.and_true, Bool.true_and, Bool.and_false, Bool.false_and, not_true_eq_false, not_false_eq_true]
  cases hb : by_.getLsbD i
  · rw [hb] at hstep
    simp only [Bool.false_eq_true, if_false] at hstep
    refine ⟨((i + 1 : Nat) : Int), w, ?_, rfl, fm, fr, by rw [hstep]; exact own⟩
    simp only [hs, Option.bind_some, asP_pointer, asB_bool, asI_int, asS_string, asSl_slice, asM_map, asTup0, asTup1, asTup2, asTup3, asTup4, asTup5, getD0, getD1, getD2, getD3, getD4, Bool.not_true, Bool.not_false, Bool.false_eq_true, Bool.true_eq_false, ↓reduceIte, decide_true, decide_false, Option.isNone_some, Option.isNone_none, Option.isSome_some, Option.isSome_none, beq_self_eq_true, bne_self_eq_false, Bool.and_true, Bool.true_and, Bool.and_false, Bool.false_and, not_true_eq_false, not_false_eq_true]
  · rw [hb] at hstep
    simp only [if_true] at hstep
    obtain ⟨g, off, ha, hix⟩ := own.idx (i := (k + i) / 8) (by omega)
    simp only [Nat.mul_one] at hix
    have hcell := own.get ha ((k + i) / 8) (by simp [hL]; omega)
    have hv : ((Lb8 zs by_ k i).map (Value.int .u8))[(k + i) / 8]'(by simp [hL]; omega) = .int .u8 (((BitVec.ofInt 8 (zs.getD ((k + i) / 8) 0) ^^^ Eb by_ k i ((k + i) / 8)).toNat : Nat) : Int) := by simp [Lb8]
    rw [hv] at hcell
    generalize hx : BitVec.ofInt 8 (zs.getD ((k + i) / 8) 0) ^^^ Eb by_ k i ((k + i) / 8) = x at hcell hstep
    obtain ⟨t1, o1, f1⟩ := own.set ha (k := (k + i) / 8) (u := .int .u8 (((x ^^^ 1#8 <<< ((k + i) % 8)).toNat : Nat) : Int)) (by simp [hL]; omega) rfl
    rw [← List.map_set, ← hstep] at o1
    refine ⟨((i + 1 : Nat) : Int), _, ?_, rfl, fm.fr f1 nf nt, fr.trans f1, o1⟩
    have hsh := shl1 ((k + i) % 8) (Nat.mod_lt _ (by omega))
    simp only [hix, hcell, ofInt_toNat, hsh, Crc.wrap8, t1, hs, Option.bind_some, asP_pointer, asB_bool, asI_int, asS_string, asSl_slice, asM_map, asTup0, asTup1, asTup2, asTup3, asTup4, asTup5, getD0, getD1, getD2, getD3, getD4, Bool.not_true, Bool.not_false, Bool.false_eq_true, Bool.true_eq_false, ↓reduceIte, decide_true, decide_false, Option.isNone_some, Option.isNone_none, Option.isSome_some, Option.isSome_none, beq_self_eq_true, bne_self_eq_false, Bool.and_true, Bool.true_and, Bool.and_false, Bool.false_and, not_true_eq_false, not_false_eq_true]

theorem turned_38 {w0 : World} {fb tb : Nat} {q q33 u0 : Option Addr × Nat × Nat} {zs : List Int} {by_ : BitVec 32} {bit begin_ : Nat} {t29 : Int × Int} {u1 u2 : Int} {p2 : Option Addr}
    (hK : Int.tmod (IntKind.i64.wrap u2) (IntKind.i64.wrap ((IntKind.i64.wrap (8 * (q33.2.1 : Int))) - 31)) = (bit : Int)) (hB : t29.1 = (begin_ : Int)) (hk : 8 * (begin_ + 8) + bit + 32 ≤ 8 * zs.length) (hl : zs.length ≤ 16777216)
    (nf : fb ∉ blkOf q) (nt : tb ∉ blkOf q) (m : Fm w0 fb tb) (hz : Zs zs) (o : Own w0 5 1 q (zs.map (Value.int .u8))) :
    ∃ t w', loopS (g8_l38_b ((by_.toNat : Nat) : Int) q t29 u2 q33 u0 p2 u1) 0 w0 = some (.exit 2, t, w') ∧ UInv w0 fb tb q zs by_ (8 * (begin_ + 8) + bit) 32 t w' := by
  exact loopS_countX 2 (I := UInv w0 fb tb q zs by_ (8 * (begin_ + 8) + bit)) (n := 32)
    (fun i s w hi h => turn_38 hK hB hk hl nf nt i s w hi h)
    (fun s w hi => by
      obtain ⟨rfl, _, _, _⟩ := hi
      have hc : ¬ ((32 : Nat) : Int) < 32 := by decide
      unfold g8_l38_b
      simp only [hc, Option.bind_some, asP_pointer, asB_bool, asI_int, asS_string, asSl_slice, asM_map, asTup0, asTup1, asTup2, asTup3, asTup4, asTup5, getD0, getD1, getD2, getD3, getD4, Bool.not_true, Bool.not_false, Bool.false_eq_true, Bool.true_eq_false, ↓reduceIte, decide_true, decide_false, Option.isNone_some, Option.isNone_none, Option.isSome_some, Option.isSome_none, beq_self_eq_true, bne_self_eq_false, Bool.and_true, Bool.true_and, Bool.and_false, Bool.false_and, not_true_eq_false, not_false_eq_true])
    (Nat.zero_le _) (k := 0) (s := 0) (w := w0) ⟨rfl, m, Fr.refl _ _, by rw [Lb8_zero hz]; exact o⟩

theorem turn_60 {w0 : World} {fb tb : Nat} {q u0 : Option Addr × Nat × Nat} {zs : List Int} {by_ : BitVec 32} {bit begin_ : Nat} {t29 : Int × Int} {u1 u2 : Int} {p2 : Option Addr}
    (hK : Int.tmod (IntKind.i64.wrap u2) (IntKind.i64.wrap ((IntKind.i64.wrap (8 * 4)) - 31)) = (bit : Int)) (hB : t29.1 = (begin_ : Int)) (hk : 8 * (begin_ + 4) + bit + 32 ≤ 8 * zs.length) (hl : zs.length ≤ 16777216)
    (nf : fb ∉ blkOf q) (nt : tb ∉ blkOf q) (i : Nat) (s : Int) (w : World) (hi : i < 32) (h : UInv w0 fb tb q zs by_ (8 * (begin_ + 4) + bit) i s w) :
    ∃ s' w', g8_l60_b ((by_.toNat : Nat) : Int) q t29 u2 u0 p2 u1 s w = some (.normal, s', w') ∧ UInv w0 fb tb q zs by_ (8 * (begin_ + 4) + bit) (i + 1) s' w' := by
  obtain ⟨rfl, fm, fr, own⟩ := h
  generalize hkk : 8 * (begin_ + 4) + bit = k at *
  have hlq := own.len
  have hL : (Lb8 zs by_ k i).length = zs.length := by simp [Lb8]
  simp only [List.length_map, Nat.mul_one, hL] at hlq
  have hpos : (k + i) / 8 < zs.length := by omega
  have hc : (i : Int) < 32 := by omega
  have hs := wrap_succ (n := i) (by omega)
  have hw : IntKind.u64.wrap (i : Int) = (i : Int) := wrap_u64 (by omega) (by omega)
  have hn : ¬ (i : Int) < 0 := by omega
  have hm : min (Int.toNat (i : Int)) 32 = i := by simp; omega
  have hbit : (IntKind.u32.wrap (((BitVec.ofInt 32 (Int.fdiv ((by_.toNat : Nat) : Int) (2 ^ i)) &&& BitVec.ofInt 32 1).toNat : Nat) : Int) == 1) = by_.getLsbD i := by
    rw [fdiv_shr, ofInt_toNat, bit0]
    have : (by_ >>> i).getLsbD 0 = by_.getLsbD i := by simp only [BitVec.getLsbD_ushiftRight]; simp
    rw [this]
    cases by_.getLsbD i <;> decide
  have hki : IntKind.i64.wrap ((bit : Int) + (i : Int)) = ((bit + i : Nat) : Int) := by rw [wrap_i64 (by omega) (by omega)]; omega
  have hdiv : IntKind.i64.wrap (Int.tdiv ((bit + i : Nat) : Int) 8) = (((bit + i) / 8 : Nat) : Int) := by
    rw [Int.tdiv_eq_ediv_of_nonneg (by omega), wrap_i64 (by omega) (by omega)]; omega
  have hb1 : IntKind.i64.wrap ((begin_ : Int) + 4) = (begin_ : Int) + 4 := wrap_i64 (by omega) (by omega)
  have hb2 : IntKind.i64.wrap ((begin_ : Int) + 4 + (((bit + i) / 8 : Nat) : Int)) = (((k + i) / 8 : Nat) : Int) := by rw [wrap_i64 (by omega) (by omega)]; omega
  have hmod : IntKind.u64.wrap (Int.tmod ((bit + i : Nat) : Int) 8) = (((k + i) % 8 : Nat) : Int) := by
    rw [Int.tmod_eq_emod_of_nonneg (by omega), wrap_u64 (by omega) (by omega)]; omega
  have hmn : ¬ (((k + i) % 8 : Nat) : Int) < 0 := by omega
  have hstep := Lb8_step (zs := zs) by_ k i hpos
  unfold g8_l60_b
  simp only [hc, hw, hn, hm, hbit, hK, hB, hki, hdiv, hb1, hb2, hmod, hmn, Option.bind_some, asP_pointer, asB_bool, asI_int, asS_string, asSl_slice, asM_map, asTup0, asTup1, asTup2, asTup3, asTup4, asTup5, getD0, getD1, getD2, getD3, getD4, Bool.not_true, Bool.not_false, Bool.false_eq_true, Bool.true_eq_false, ↓reduceIte, decide_true, decide_false, Option.isNone_some, Option.isNone_none, Option.isSome_some, Option.isSome_none, beq_self_eq_true, bne_self_eq_false, Bool.and_true, Bool.true_and, Bool.and_false, Bool.false_and, not_true_eq_false, not_false_eq_true]
  cases hb : by_.getLsbD i
  · rw [hb] at hstep
    simp only [Bool.false_eq_true, if_false] at hstep
    refine ⟨((i + 1 : Nat) : Int), w, ?_, rfl, fm, fr, by rw [hstep]; exact own⟩
    simp only [hs, Option.bind_some, asP_pointer, asB_bool, asI_int, asS_string, asSl_slice, asM_map, asTup0, asTup1, asTup2, asTup3, asTup4, asTup5, getD0, getD1, getD2, getD3, getD4, Bool.not_true, Bool.not_false, Bool.false_eq_true, Bool.true_eq_false, ↓reduceIte, decide_true, decide_false, Option.isNone_some, Option.isNone_none, Option.isSome_some, Option.isSome_none, beq_self_eq_true, bne_self_eq_false, Bool.and_true, Bool.true_and, Bool.and_false, Bool.false_and, not_true_eq_false, not_false_eq_true]
  · rw [hb] at hstep
    simp only [if_true] at hstep
    obtain ⟨g, off, ha, hix⟩ := own.idx (i := (k + i) / 8) (by omega)
    simp only [Nat.mul_one] at hix
    have hcell := own.get ha ((k + i) / 8) (by simp [hL]; omega)
    have hv : ((Lb8 zs by_ k i).map (Value.int .u8))[(k + i) / 8]'(by simp [hL]; omega) = .int .u8 (((BitVec.ofInt 8 (zs.getD ((k + i) / 8) 0) ^^^ Eb by_ k i ((k + i) / 8)).toNat : Nat) : Int) := by simp [Lb8]
    rw [hv] at hcell
    generalize hx : BitVec.ofInt 8 (zs.getD ((k + i) / 8) 0) ^^^ Eb by_ k i ((k + i) / 8) = x at hcell hstep
    obtain ⟨t1, o1, f1⟩ := own.set ha (k := (k + i) / 8) (u := .int .u8 (((x ^^^ 1#8 <<< ((k + i) % 8)).toNat : Nat) : Int)) (by simp [hL]; omega) rfl
    rw [← List.map_set, ← hstep] at o1
    refine ⟨((i + 1 : Nat) : Int), _, ?_, rfl, fm.fr f1 nf nt, fr.trans f1, o1⟩
    have hsh := shl1 ((k + i) % 8) (Nat.mod_lt _ (by omega))
    simp only [hix, hcell, ofInt_toNat, hsh, Crc.wrap8, t1, hs, Option.bind_some, asP_pointer, asB_bool, asI_int, asS_string, asSl_slice, asM_map, asTup0, asTup1, asTup2, asTup3, asTup4, asTup5, getD0, getD1, getD2, getD3, getD4, Bool.not_true, Bool.not_false, Bool.false_eq_true, Bool.true_eq_false, ↓reduceIte, decide_true, decide_false, Option.isNone_some, Option.isNone_none, Option.isSome_some, Option.isSome_none, beq_self_eq_true, bne_self_eq_false, Bool.and_true, Bool.true_and, Bool.and_false, Bool.false_and, not_true_eq_false, not_false_eq_true]

theorem turned_60 {w0 : World} {fb tb : Nat} {q u0 : Option Addr × Nat × Nat} {zs : List Int} {by_ : BitVec 32} {bit begin_ : Nat} {t29 : Int × Int} {u1 u2 : Int} {p2 : Option Addr}
    (hK : Int.tmod (IntKind.i64.wrap u2) (IntKind.i64.wrap ((IntKind.i64.wrap (8 * 4)) - 31)) = (bit : Int)) (hB : t29.1 = (begin_ : Int)) (hk : 8 * (begin_ + 4) + bit + 32 ≤ 8 * zs.length) (hl : zs.length ≤ 16777216)
    (nf : fb ∉ blkOf q) (nt : tb ∉ blkOf q) (m : Fm w0 fb tb) (hz : Zs zs) (o : Own w0 5 1 q (zs.map (Value.int .u8))) :
    ∃ t w', loopS (g8_l60_b ((by_.toNat : Nat) : Int) q t29 u2 u0 p2 u1) 0 w0 = some (.exit 2, t, w') ∧ UInv w0 fb tb q zs by_ (8 * (begin_ + 4) + bit) 32 t w' := by
  exact loopS_countX 2 (I := UInv w0 fb tb q zs by_ (8 * (begin_ + 4) + bit)) (n := 32)
    (fun i s w hi h => turn_60 hK hB hk hl nf nt i s w hi h)
    (fun s w hi => by
      obtain ⟨rfl, _, _, _⟩ := hi
      have hc : ¬ ((32 : Nat) : Int) < 32 := by decide
      unfold g8_l60_b
      simp only [hc, Option.bind_some, asP_pointer, asB_bool, asI_int, asS_string, asSl_slice, asM_map, asTup0, asTup1, asTup2, asTup3, asTup4, asTup5, getD0, getD1, getD2, getD3, getD4, Bool.not_true, Bool.not_false, Bool.false_eq_true, Bool.true_eq_false, ↓reduceIte, decide_true, decide_false, Option.isNone_some, Option.isNone_none, Option.isSome_some, Option.isSome_none, beq_self_eq_true, bne_self_eq_false, Bool.and_true, Bool.true_and, Bool.and_false, Bool.false_and, not_true_eq_false, not_false_eq_true])
    (Nat.zero_le _) (k := 0) (s := 0) (w := w0) ⟨rfl, m, Fr.refl _ _, by rw [Lb8_zero hz]; exact o⟩

theorem turn_82 {w0 : World} {fb tb : Nat} {q u0 : Option Addr × Nat × Nat} {zs : List Int} {by_ : BitVec 32} {bit begin_ : Nat} {t29 : Int × Int} {u1 u2 : Int} {p2 : Option Addr}
    (hK : Int.tmod (IntKind.i64.wrap u2) (IntKind.i64.wrap ((IntKind.i64.wrap (8 * 4)) - 31)) = (bit : Int)) (hB : t29.1 = (begin_ : Int)) (hk : 8 * (begin_ + 4) + bit + 32 ≤ 8 * zs.length) (hl : zs.length ≤ 16777216)
    (nf : fb ∉ blkOf q) (nt : tb ∉ blkOf q) (i : Nat) (s : Int) (w : World) (hi : i < 32) (h : UInv w0 fb tb q zs by_ (8 * (begin_ + 4) + bit) i s w) :
    ∃ s' w', g8_l82_b ((by_.toNat : Nat) : Int) q t29 u2 u0 p2 u1 s w = some (.normal, s', w') ∧ UInv w0 fb tb q zs by_ (8 * (begin_ + 4) + bit) (i + 1) s' w' := by
  obtain ⟨rfl, fm, fr, own⟩ := h
  generalize hkk : 8 * (begin_ + 4) + bit = k at *
  have hlq := own.len
  have hL : (Lb8 zs by_ k i).length = zs.length := by simp [Lb8]
  simp only [List.length_map, Nat.mul_one, hL] at hlq
  have hpos : (k + i) / 8 < zs.length := by omega
  have hc : (i : Int) < 32 := by omega
  have hs := wrap_succ (n := i) (by omega)
  have hw : IntKind.u64.wrap (i : Int) = (i : Int) := wrap_u64 (by omega) (by omega)
  have hn : ¬ (i : Int) < 0 := by omega
  have hm : min (Int.toNat (i : Int)) 32 = i := by simp; omega
  have hbit : (IntKind.u32.wrap (((BitVec.ofInt 32 (Int.fdiv ((by_.toNat : Nat) : Int) (2 ^ i)) &&& BitVec.ofInt 32 1).toNat : Nat) : Int) == 1) = by_.getLsbD i := by
    rw [fdiv_shr, ofInt_toNat, bit0]
    have : (by_ >>> i).getLsbD 0 = by_.getLsbD i := by simp only [BitVec.getLsbD_ushiftRight]; simp
    rw [this]
    cases by_.getLsbD i <;> decide
  have hki : IntKind.i64.wrap ((bit : Int) + (i : Int)) = ((bit + i : Nat) : Int) := by rw [wrap_i64 (by omega) (by omega)]; omega
  have hdiv : IntKind.i64.wrap (Int.tdiv ((bit + i : Nat) : Int) 8) = (((bit + i) / 8 : Nat) : Int) := by
    rw [Int.tdiv_eq_ediv_of_nonneg (by omega), wrap_i64 (by omega) (by omega)]; omega
  have hb1 : IntKind.i64.wrap ((begin_ : Int) + 4) = (begin_ : Int) + 4 := wrap_i64 (by omega) (by omega)
  have hb2 : IntKind.i64.wrap ((begin_ : Int) + 4 + (((bit + i) / 8 : Nat) : Int)) = (((k + i) / 8 : Nat) : Int) := by rw [wrap_i64 (by omega) (by omega)]; omega
  have hmod : IntKind.u64.wrap (Int.tmod ((bit + i : Nat) : Int) 8) = (((k + i) % 8 : Nat) : Int) := by
    rw [Int.tmod_eq_emod_of_nonneg (by omega), wrap_u64 (by omega) (by omega)]; omega
  have hmn : ¬ (((k + i) % 8 : Nat) : Int) < 0 := by omega
  have hstep := Lb8_step (zs := zs) by_ k i hpos
  unfold g8_l82_b
  simp only [hc, hw, hn, hm, hbit, hK, hB, hki, hdiv, hb1, hb2, hmod, hmn, Option.bind_some, asP_pointer, asB_bool, asI_int, asS_string, asSl_slice, asM_map, asTup0, asTup1, asTup2, asTup3, asTup4, asTup5, getD0, getD1, getD2, getD3, getD4, Bool.not_true, Bool.not_false, Bool.false_eq_true, Bool.true_eq_false, ↓reduceIte, decide_true, decide_false, Option.isNone_some, Option.isNone_none, Option.isSome_some, Option.isSome_none, beq_self_eq_true, bne_self_eq_false, Bool.and_true, Bool.true_and, Bool.and_false, Bool.false_and, not_true_eq_false, not_false_eq_true]
  cases hb : by_.getLsbD i
  · rw [hb] at hstep
    simp only [Bool.false_eq_true, if_false] at hstep
    refine ⟨((i + 1 : Nat) : Int), w, ?_, rfl, fm, fr, by rw [hstep]; exact own⟩
    simp only [hs, Option.bind_some, asP_pointer, asB_bool, asI_int, asS_string, asSl_slice, asM_map, asTup0, asTup1, asTup2, asTup3, asTup4, asTup5, getD0, getD1, getD2, getD3, getD4, Bool.not_true, Bool.not_false, Bool.false_eq_true, Bool.true_eq_false, ↓reduceIte, decide_true, decide_false, Option.isNone_some, Option.isNone_none, Option.isSome_some, Option.isSome_none, beq_self_eq_true, bne_self_eq_false, Bool.and_true, Bool.true_and, Bool.and_false, Bool.false_and, not_true_eq_false, not_false_eq_true]
  · rw [hb] at hstep
    simp only [if_true] at hstep
    obtain ⟨g, off, ha, hix⟩ := own.idx (i := (k + i) / 8) (by omega)
    simp only [Nat.mul_one] at hix
    have hcell := own.get ha ((k + i) / 8) (by simp [hL]; omega)
    have hv : ((Lb8 zs by_ k i).map (Value.int .u8))[(k + i) / 8]'(by simp [hL]; omega) = .int .u8 (((BitVec.ofInt 8 (zs.getD ((k + i) / 8) 0) ^^^ Eb by_ k i ((k + i) / 8)).toNat : Nat) : Int) := by simp [Lb8]
    rw [hv] at hcell
    generalize hx : BitVec.ofInt 8 (zs.getD ((k + i) / 8) 0) ^^^ Eb by_ k i ((k + i) / 8) = x at hcell hstep
    obtain ⟨t1, o1, f1⟩ := own.set ha (k := (k + i) / 8) (u := .int .u8 (((x ^^^ 1#8 <<< ((k + i) % 8)).toNat : Nat) : Int)) (by simp [hL]; omega) rfl
    rw [← List.map_set, ← hstep] at o1
    refine ⟨((i + 1 : Nat) : Int), _, ?_, rfl, fm.fr f1 nf nt, fr.trans f1, o1⟩
    have hsh := shl1 ((k + i) % 8) (Nat.mod_lt _ (by omega))
    simp only [hix, hcell, ofInt_toNat, hsh, Crc.wrap8, t1, hs, Option.bind_some, asP_pointer, asB_bool, asI_int, asS_string, asSl_slice, asM_map, asTup0, asTup1, asTup2, asTup3, asTup4, asTup5, getD0, getD1, getD2, getD3, getD4, Bool.not_true, Bool.not_false, Bool.false_eq_true, Bool.true_eq_false, ↓reduceIte, decide_true, decide_false, Option.isNone_some, Option.isNone_none, Option.isSome_some, Option.isSome_none, beq_self_eq_true, bne_self_eq_false, Bool.and_true, Bool.true_and, Bool.and_false, Bool.false_and, not_true_eq_false, not_false_eq_true]

theorem turned_82 {w0 : World} {fb tb : Nat} {q u0 : Option Addr × Nat × Nat} {zs : List Int} {by_ : BitVec 32} {bit begin_ : Nat} {t29 : Int × Int} {u1 u2 : Int} {p2 : Option Addr}
    (hK : Int.tmod (IntKind.i64.wrap u2) (IntKind.i64.wrap ((IntKind.i64.wrap (8 * 4)) - 31)) = (bit : Int)) (hB : t29.1 = (begin_ : Int)) (hk : 8 * (begin_ + 4) + bit + 32 ≤ 8 * zs.length) (hl : zs.length ≤ 16777216)
    (nf : fb ∉ blkOf q) (nt : tb ∉ blkOf q) (m : Fm w0 fb tb) (hz : Zs zs) (o : Own w0 5 1 q (zs.map (Value.int .u8))) :
    ∃ t w', loopS (g8_l82_b ((by_.toNat : Nat) : Int) q t29 u2 u0 p2 u1) 0 w0 = some (.exit 2, t, w') ∧ UInv w0 fb tb q zs by_ (8 * (begin_ + 4) + bit) 32 t w' := by
  exact loopS_countX 2 (I := UInv w0 fb tb q zs by_ (8 * (begin_ + 4) + bit)) (n := 32)
    (fun i s w hi h => turn_82 hK hB hk hl nf nt i s w hi h)
    (fun s w hi => by
      obtain ⟨rfl, _, _, _⟩ := hi
      have hc : ¬ ((32 : Nat) : Int) < 32 := by decide
      unfold g8_l82_b
      simp only [hc, Option.bind_some, asP_pointer, asB_bool, asI_int, asS_string, asSl_slice, asM_map, asTup0, asTup1, asTup2, asTup3, asTup4, asTup5, getD0, getD1, getD2, getD3, getD4, Bool.not_true, Bool.not_false, Bool.false_eq_true, Bool.true_eq_false, ↓reduceIte, decide_true, decide_false, Option.isNone_some, Option.isNone_none, Option.isSome_some, Option.isSome_none, beq_self_eq_true, bne_self_eq_false, Bool.and_true, Bool.true_and, Bool.and_false, Bool.false_and, not_true_eq_false, not_false_eq_true])
    (Nat.zero_le _) (k := 0) (s := 0) (w := w0) ⟨rfl, m, Fr.refl _ _, by rw [Lb8_zero hz]; exact o⟩

end Go.Proofs.Yteekaakkaogpeaa
