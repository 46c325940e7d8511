/-
  CrcTurned: lemmas on what Go functions of this seat come to (for whatever arguments, as each says). No condition but those that stand in each lemma.
-/
import Derived.Test.YtakcmfbkknaehaaRs
import Derived.Test.YtakcmfbkknaehaaCrcAhead
namespace Go.Proofs.Ytakcmfbkknaehaa
open Go Go.Ev Go.Crc
set_option maxRecDepth 100000
set_option linter.unusedVariables false
set_option linter.unusedSimpArgs false

/-- the state behind p bits, from nought on -/
def R (bit : Nat → Bool) : Nat → BitVec 32
  | 0 => 0#32
  | p + 1 => bitStep (R bit p) (bit p)

theorem R_seg (bit : Nat → Bool) (p0 : Nat) (x : BitVec 32) : ∀ j, (∀ i, i < j → bit (p0 + i) = x.getLsbD i) → R bit (p0 + j) ^^^ x >>> j = stepN j (R bit p0 ^^^ x)
  | 0, _ => by simp [stepN]
  | j + 1, h => by
    have ih := R_seg bit p0 x j fun i hi => h i (by omega)
    rw [stepN_succ', ← ih, ← bitStep_eq]
    have e1 : (x >>> j).getLsbD 0 = x.getLsbD j := by simp only [BitVec.getLsbD_ushiftRight]; simp
    have e3 : (x >>> j) >>> 1 = x >>> (j + 1) := by
      apply BitVec.eq_of_getLsbD_eq
      intro i hi
      simp only [BitVec.getLsbD_ushiftRight]
      congr 1; omega
    rw [e1, e3, ← h j (by omega)]
    rfl

theorem upd_xor2 (a b : BitVec 32) (x y : BitVec 8) : upd (a ^^^ b) (x ^^^ y) = upd a x ^^^ upd b y := by
  unfold upd
  rw [← stepN_xor]
  congr 1
  have : (x ^^^ y).setWidth 32 = x.setWidth 32 ^^^ y.setWidth 32 := by
    apply BitVec.eq_of_getLsbD_eq
    intro i hi
    simp only [BitVec.getLsbD_setWidth, BitVec.getLsbD_xor]
    cases x.getLsbD i <;> cases y.getLsbD i <;> simp
  rw [this]
  ac_rfl

theorem R_byte (bit : Nat → Bool) (i : Nat) (x : BitVec 8) (h : ∀ j, j < 8 → bit (8 * i + j) = x.getLsbD j) : R bit (8 * (i + 1)) = upd (R bit (8 * i)) x := by
  have := R_seg bit (8 * i) (x.setWidth 32) 8 fun j hj => by
    rw [h j hj]; simp only [BitVec.getLsbD_setWidth]; have : j < 32 := by omega
    simp [this]
  have e0 : (x.setWidth 32) >>> 8 = (0#32 : BitVec 32) := by
    apply BitVec.eq_of_getLsbD_eq
    intro i hi
    simp only [BitVec.getLsbD_ushiftRight, BitVec.getLsbD_setWidth]
    rw [BitVec.getLsbD_of_ge x (8 + i) (by omega)]
    simp
  rw [e0, BitVec.xor_zero] at this
  exact this

theorem run_turn {A D : List Int} (bit : Nat → Bool) (E : Nat → BitVec 8) (hd : D.length = A.length) (hE : ∀ i j, j < 8 → bit (8 * i + j) = (E i).getLsbD j)
    (h : ∀ i (hi : i < A.length), BitVec.ofInt 8 D[i] = BitVec.ofInt 8 A[i] ^^^ E i) (c : BitVec 32) :
    ∀ k, k ≤ A.length → run c (D.take k) = run c (A.take k) ^^^ R bit (8 * k)
  | 0, _ => by simp [run, R]
  | k + 1, hk => by
    rw [run_step (by omega), run_step (by omega), run_turn bit E hd hE h c k (by omega), h k (by omega), upd_xor2, R_byte bit k (E k) (hE k)]

theorem stepN_zero : ∀ n, stepN n 0#32 = 0#32
  | 0 => rfl
  | n + 1 => by
    have : Crc.step 0#32 = 0#32 := by decide
    simp only [stepN, this, stepN_zero n]

theorem bitStep_false (r : BitVec 32) : bitStep r false = Crc.step r := by simp [bitStep, Crc.step]

/-- a stretch of 32 bits that is not all nought leaves a trace -/
theorem R_window (by_ : BitVec 32) (hby : by_ ≠ 0#32) (bit : Nat → Bool) (k : Nat) (h : ∀ p, bit p = (decide (k ≤ p) && by_.getLsbD (p - k))) :
    ∀ p, k + 32 ≤ p → R bit p ≠ 0#32 := by
  have h0 : ∀ p, p ≤ k → R bit p = 0#32 := by
    intro p
    induction p with
    | zero => intro _; rfl
    | succ p ih =>
      intro hp
      have hb : bit p = false := by rw [h]; simp; omega
      rw [R, ih (by omega), hb]
      decide
  have h1 : R bit (k + 32) = stepN 32 by_ := by
    have := R_seg bit k by_ 32 fun i hi => by rw [h]; simp
    have e0 : by_ >>> 32 = (0#32 : BitVec 32) := by
      apply BitVec.eq_of_getLsbD_eq
      intro i hi
      simp only [BitVec.getLsbD_ushiftRight]
      rw [BitVec.getLsbD_of_ge by_ (32 + i) (by omega)]
      simp
    rw [e0, BitVec.xor_zero, h0 k (Nat.le_refl _), BitVec.zero_xor] at this
    exact this
  intro p hp
  obtain ⟨m, rfl⟩ := Nat.exists_eq_add_of_le hp
  induction m with
  | zero =>
    rw [Nat.add_zero, h1]
    intro e
    exact hby (stepN_inj 32 (e.trans (stepN_zero 32).symm))
  | succ m ih =>
    have hb : bit (k + 32 + m) = false := by
      rw [h, BitVec.getLsbD_of_ge _ _ (by omega)]; simp
    have e : R bit (k + 32 + (m + 1)) = Crc.step (R bit (k + 32 + m)) := by
      rw [show k + 32 + (m + 1) = k + 32 + m + 1 by omega, R, hb, bitStep_false]
    rw [e]
    intro e2
    refine ih (by omega) (step_inj (e2.trans ?_))
    decide

/-- what is turned in byte m, behind i rounds -/
def Eb (by_ : BitVec 32) (k : Nat) : Nat → Nat → BitVec 8
  | 0, _ => 0#8
  | i + 1, m => if by_.getLsbD i = true ∧ (k + i) / 8 = m then Eb by_ k i m ^^^ 1#8 <<< ((k + i) % 8) else Eb by_ k i m

theorem Eb_succ (by_ : BitVec 32) (k i m : Nat) : Eb by_ k (i + 1) m = if by_.getLsbD i = true ∧ (k + i) / 8 = m then Eb by_ k i m ^^^ 1#8 <<< ((k + i) % 8) else Eb by_ k i m := rfl

theorem one_shl (s j : Nat) (hs : s < 8) (hj : j < 8) : (1#8 <<< s).getLsbD j = decide (j = s) := by
  rw [BitVec.getLsbD_shiftLeft]
  by_cases h : j = s
  · subst h; simp [hj]
  · by_cases h2 : j < s
    · simp [h2, h]
    · have : ¬ j - s = 0 := by omega
      simp [h, hj, h2, this]

theorem Eb_bit (by_ : BitVec 32) (k : Nat) : ∀ i m j, j < 8 → (Eb by_ k i m).getLsbD j = (decide (k ≤ 8 * m + j) && decide (8 * m + j < k + i) && by_.getLsbD (8 * m + j - k))
  | 0, m, j, hj => by
    simp only [Eb, BitVec.getLsbD_zero]
    by_cases h : k ≤ 8 * m + j
    · have a : decide (8 * m + j < k + 0) = false := by simp; omega
      rw [a]; simp
    · simp [h]
  | i + 1, m, j, hj => by
    have ih := Eb_bit by_ k i m j hj
    by_cases hp : 8 * m + j = k + i
    · have hd : (k + i) / 8 = m := by omega
      have hm : (k + i) % 8 = j := by omega
      have a1 : decide (k ≤ 8 * m + j) = true := by simp; omega
      have a2 : decide (8 * m + j < k + i) = false := by simp; omega
      have a3 : decide (8 * m + j < k + (i + 1)) = true := by simp; omega
      have a4 : 8 * m + j - k = i := by omega
      rw [a1, a2, a4] at ih
      rw [a1, a3, a4]
      rw [Eb_succ]
      cases hb : by_.getLsbD i
      · rw [if_neg (by simp)]; rw [ih]; rfl
      · rw [if_pos ⟨rfl, hd⟩, BitVec.getLsbD_xor, ih, hm, one_shl j j hj hj]; simp
    · have e : (decide (8 * m + j < k + (i + 1))) = decide (8 * m + j < k + i) := by
        by_cases h : 8 * m + j < k + i
        · have : 8 * m + j < k + (i + 1) := by omega
          simp [h, this]
        · have : ¬ 8 * m + j < k + (i + 1) := by omega
          simp [h, this]
      rw [e, ← ih, Eb_succ]
      split
      · rename_i h
        have : ¬ j = (k + i) % 8 := by omega
        rw [BitVec.getLsbD_xor, one_shl _ _ (Nat.mod_lt _ (by omega)) hj]
        simp [this]
      · rfl

theorem more_turned {A D : List Int} (by_ : BitVec 32) (hby : by_ ≠ 0#32) (k : Nat) (hk : k + 32 ≤ 8 * A.length) (hd : D.length = A.length)
    (h : ∀ i (hi : i < A.length), BitVec.ofInt 8 D[i] = BitVec.ofInt 8 A[i] ^^^ Eb by_ k 32 i) : (more 0 D != more 0 A) = true := by
  have hE : ∀ i j, j < 8 → (decide (k ≤ 8 * i + j) && by_.getLsbD (8 * i + j - k)) = (Eb by_ k 32 i).getLsbD j := by
    intro i j hj
    rw [Eb_bit by_ k 32 i j hj]
    by_cases h1 : 8 * i + j < k + 32
    · simp [h1]
    · rw [BitVec.getLsbD_of_ge by_ _ (by omega)]; simp
  have h1 := run_turn (fun p => decide (k ≤ p) && by_.getLsbD (p - k)) (Eb by_ k 32) hd hE h (~~~ (BitVec.ofInt 32 0)) A.length (Nat.le_refl _)
  rw [List.take_length, List.take_of_length_le (Nat.le_of_eq hd)] at h1
  have h2 := R_window by_ hby (fun p => decide (k ≤ p) && by_.getLsbD (p - k)) k (fun p => rfl) (8 * A.length) hk
  rw [bne_iff_ne]
  intro e
  unfold more at e
  have e1 : (~~~ (run (~~~ (BitVec.ofInt 32 0)) D)) = ~~~ (run (~~~ (BitVec.ofInt 32 0)) A) := BitVec.eq_of_toNat_eq (by omega)
  have e2 := BitVec.not_inj.1 e1
  rw [h1] at e2
  refine h2 ?_
  have := congrArg (run (~~~ (BitVec.ofInt 32 0)) A ^^^ ·) e2
  simpa [← BitVec.xor_assoc] using this

/-- the bytes behind i rounds -/
def Lb8 (zs : List Int) (by_ : BitVec 32) (k i : Nat) : List Int := (List.range zs.length).map fun m => (((BitVec.ofInt 8 (zs.getD m 0) ^^^ Eb by_ k i m).toNat : Nat) : Int)

theorem Lb8_zero {zs : List Int} (hz : Zs zs) (by_ : BitVec 32) (k : Nat) : Lb8 zs by_ k 0 = zs := by
  apply List.ext_getElem
  · simp [Lb8]
  · intro j h1 h2
    have e : Eb by_ k 0 j = 0#8 := rfl
    simp only [Lb8, List.getElem_map, List.getElem_range]
    rw [e, BitVec.xor_zero, getD_lt h2]
    exact (byte_bv (hz _ (List.getElem_mem h2))).symm

theorem Lb8_step {zs : List Int} (by_ : BitVec 32) (k i : Nat) (hl : (k + i) / 8 < zs.length) :
    Lb8 zs by_ k (i + 1) = if by_.getLsbD i = true then (Lb8 zs by_ k i).set ((k + i) / 8) ((((BitVec.ofInt 8 (zs.getD ((k + i) / 8) 0) ^^^ Eb by_ k i ((k + i) / 8)) ^^^ 1#8 <<< ((k + i) % 8)).toNat : Nat) : Int) else Lb8 zs by_ k i := by
  split
  · rename_i hb
    apply List.ext_getElem
    · simp [Lb8]
    · intro j h1 h2
      rw [List.getElem_set]
      have hj : j < zs.length := by simpa [Lb8] using h1
      by_cases h : (k + i) / 8 = j
      · simp only [h, if_true, Lb8, List.getElem_map, List.getElem_range]
        rw [Eb_succ, if_pos ⟨hb, h⟩, BitVec.xor_assoc]
      · simp only [h, if_false, Lb8, List.getElem_map, List.getElem_range]
        rw [Eb_succ, if_neg (fun hh => h hh.2)]
  · rename_i hb
    apply List.ext_getElem
    · simp [Lb8]
    · intro j h1 h2
      simp only [Lb8, List.getElem_map, List.getElem_range]
      rw [Eb_succ, if_neg (fun hh => hb hh.1)]

structure UInv (W : World) (b : Nat) (q : Option Addr × Nat × Nat) (zs : List Int) (by_ : BitVec 32) (k i : Nat) (s : Int) (w : World) : Prop where
  cnt : s = (i : Int)
  st : St W b w
  own : Own w 5 1 q ((Lb8 zs by_ k i).map (Value.int .u8))

theorem shl1 (s : Nat) (hs : s < 8) : BitVec.ofInt 8 (IntKind.u8.wrap (1 * 2 ^ (min (Int.toNat (s : Int)) 8))) = 1#8 <<< s := by
  match s, hs with
  | 0, _ | 1, _ | 2, _ | 3, _ | 4, _ | 5, _ | 6, _ | 7, _ => decide

theorem turn_round {W : World} {b : Nat} {q : Option Addr × Nat × Nat} {zs : List Int} {by_ : BitVec 32} {k : Nat} {n1 : Int} {u : Option Addr × Nat × Nat} {p : Option Addr}
    (hK : Int.tmod (IntKind.i64.wrap n1) (IntKind.i64.wrap (8 * (IntKind.i64.wrap ((u.2.1 : Int) - 4)))) = (k : Int)) (hk : k + 32 ≤ 8 * zs.length) (hl : zs.length ≤ 140737488355000)
    (nb : b ∉ blkOf q) (old : ∀ y ∈ blkOf q, W.heap.size ≤ y) (i : Nat) (s : Int) (w : World) (hi : i < 32) (h : UInv W b q zs by_ k i s w) :
    ∃ s' w', g5_l15_b ((by_.toNat : Nat) : Int) q n1 u p s w = some (.normal, s', w') ∧ UInv W b q zs by_ k (i + 1) s' w' := by
  obtain ⟨rfl, st, own⟩ := h
  have hlq := own.len
  have hL : (Lb8 zs by_ k i).length = zs.length := by simp [Lb8]
  simp only [List.length_map, Nat.mul_one, hL] at hlq
  have hpos : (k + i) / 8 < zs.length := by omega
  have hc : (i : Int) < 32 := by omega
  have hs := wrap_succ (n := i) (by omega)
  have hw : IntKind.u64.wrap (i : Int) = (i : Int) := wrap_u64 (by omega) (by omega)
  have hn : ¬ (i : Int) < 0 := by omega
  have hm : min (Int.toNat (i : Int)) 32 = i := by simp; omega
  have hbit : (IntKind.u32.wrap (((BitVec.ofInt 32 (Int.fdiv ((by_.toNat : Nat) : Int) (2 ^ i)) &&& BitVec.ofInt 32 1).toNat : Nat) : Int) == 1) = by_.getLsbD i := by
    rw [fdiv_shr, ofInt_toNat, bit0]
    have : (by_ >>> i).getLsbD 0 = by_.getLsbD i := by simp only [BitVec.getLsbD_ushiftRight]; simp
    rw [this]
    cases by_.getLsbD i <;> decide
  have hki : IntKind.i64.wrap ((k : Int) + (i : Int)) = ((k + i : Nat) : Int) := by rw [wrap_i64 (by omega) (by omega)]; omega
  have hdiv : IntKind.i64.wrap (Int.tdiv ((k + i : Nat) : Int) 8) = (((k + i) / 8 : Nat) : Int) := by
    rw [Int.tdiv_eq_ediv_of_nonneg (by omega), wrap_i64 (by omega) (by omega)]; omega
  have hmod : IntKind.u64.wrap (Int.tmod ((k + i : Nat) : Int) 8) = (((k + i) % 8 : Nat) : Int) := by
    rw [Int.tmod_eq_emod_of_nonneg (by omega), wrap_u64 (by omega) (by omega)]; omega
  have hmn : ¬ (((k + i) % 8 : Nat) : Int) < 0 := by omega
  have hstep := Lb8_step (zs := zs) by_ k i hpos
  unfold g5_l15_b
  simp only [hc, hw, hn, hm, hbit, hK, hki, hdiv, hmod, hmn, Option.bind_some, asP_pointer, asB_bool, asI_int, asS_string, asSl_slice, asM_map, asTup0, asTup1, asTup2, asTup3, asTup4, asTup5, getD0, getD1, getD2, getD3, getD4, Bool.not_true, Bool.not_false, Bool.false_eq_true, Bool.true_eq_false, ↓reduceIte, decide_true, decide_false, Option.isNone_some, Option.isNone_none, Option.isSome_some, Option.isSome_none, beq_self_eq_true, bne_self_eq_false, Bool.and_true, Bool.true_and, Bool.and_false, Bool.false_and, not_true_eq_false, not_false_eq_true]
  cases hb : by_.getLsbD i
  · rw [hb] at hstep
    simp only [Bool.false_eq_true, if_false] at hstep
    refine ⟨((i + 1 : Nat) : Int), w, ?_, rfl, st, by rw [hstep]; exact own⟩
    simp only [hs, Option.bind_some, asP_pointer, asB_bool, asI_int, asS_string, asSl_slice, asM_map, asTup0, asTup1, asTup2, asTup3, asTup4, asTup5, getD0, getD1, getD2, getD3, getD4, Bool.not_true, Bool.not_false, Bool.false_eq_true, Bool.true_eq_false, ↓reduceIte, decide_true, decide_false, Option.isNone_some, Option.isNone_none, Option.isSome_some, Option.isSome_none, beq_self_eq_true, bne_self_eq_false, Bool.and_true, Bool.true_and, Bool.and_false, Bool.false_and, not_true_eq_false, not_false_eq_true]
  · rw [hb] at hstep
    simp only [if_true] at hstep
    obtain ⟨g, off, ha, hix⟩ := own.idx (i := (k + i) / 8) (by omega)
    simp only [Nat.mul_one] at hix
    have hcell := own.get ha ((k + i) / 8) (by simp [hL]; omega)
    have hv : ((Lb8 zs by_ k i).map (Value.int .u8))[(k + i) / 8]'(by simp [hL]; omega) = .int .u8 (((BitVec.ofInt 8 (zs.getD ((k + i) / 8) 0) ^^^ Eb by_ k i ((k + i) / 8)).toNat : Nat) : Int) := by simp [Lb8]
    rw [hv] at hcell
    generalize hx : BitVec.ofInt 8 (zs.getD ((k + i) / 8) 0) ^^^ Eb by_ k i ((k + i) / 8) = x at hcell hstep
    obtain ⟨t1, o1, f1⟩ := own.set ha (k := (k + i) / 8) (u := .int .u8 (((x ^^^ 1#8 <<< ((k + i) % 8)).toNat : Nat) : Int)) (by simp [hL]; omega) rfl
    rw [← List.map_set, ← hstep] at o1
    refine ⟨((i + 1 : Nat) : Int), _, ?_, rfl, st.stepO f1 nb old, o1⟩
    have hsh := shl1 ((k + i) % 8) (Nat.mod_lt _ (by omega))
    simp only [hix, hcell, ofInt_toNat, hsh, Crc.wrap8, t1, hs, Option.bind_some, asP_pointer, asB_bool, asI_int, asS_string, asSl_slice, asM_map, asTup0, asTup1, asTup2, asTup3, asTup4, asTup5, getD0, getD1, getD2, getD3, getD4, Bool.not_true, Bool.not_false, Bool.false_eq_true, Bool.true_eq_false, ↓reduceIte, decide_true, decide_false, Option.isNone_some, Option.isNone_none, Option.isSome_some, Option.isSome_none, beq_self_eq_true, bne_self_eq_false, Bool.and_true, Bool.true_and, Bool.and_false, Bool.false_and, not_true_eq_false, not_false_eq_true]

theorem CrcTurned_main (W : World) (x0 : (Ty.slice (.int .u8)).Val) (h0 : (Ty.slice (.int .u8)).At W [.slice x0.1.1 x0.1.2.1 x0.1.2.2] x0) (n1 : Int) (h1 : IntKind.u16.min ≤ n1 ∧ n1 ≤ IntKind.u16.max) (n2 : Int) (h2 : IntKind.u32.min ≤ n2 ∧ n2 ≤ IntKind.u32.max)
    (hs0 : Ty.Fits (.slice (.int .u8)) x0) :
    ∃ w', callF Try.prog 5 #[.slice x0.1.1 x0.1.2.1 x0.1.2.2, .int .u16 n1, .int .u32 n2] W = some (.bool true, w') ∧ Fr [] W w' := by
  replace h1 := u16_range h1
  replace h2 := u32_range h2
  have hlen : x0.2.length ≤ 140737488351232 := Fits.u8 hs0
  obtain ⟨hu, hz, hlt⟩ := slI_of_at h0
  replace hz := zs_of hz
  have hll := hu.1
  obtain ⟨w1, e1, s1⟩ := St.new (W := W)
  obtain ⟨w2, e2, s2⟩ := s1.awake
  obtain ⟨w3, e3, s3⟩ := s2.awake
  by_cases hn2 : n2 = 0
  · refine ⟨w3, g5_call ?_, s3.fr⟩
    subst hn2
    unfold g5
    simp only [e1, e2, e3, Option.bind_some, asP_pointer, asB_bool, asI_int, asS_string, asSl_slice, asM_map, asTup0, asTup1, asTup2, asTup3, asTup4, asTup5, getD0, getD1, getD2, getD3, getD4, Bool.not_true, Bool.not_false, Bool.false_eq_true, Bool.true_eq_false, ↓reduceIte, decide_true, decide_false, Option.isNone_some, Option.isNone_none, Option.isSome_some, Option.isSome_none, beq_self_eq_true, bne_self_eq_false, Bool.and_true, Bool.true_and, Bool.and_false, Bool.false_and, not_true_eq_false, not_false_eq_true]
  · have hne : (n2 == 0) = false := by simpa using hn2
    by_cases h5 : (x0.1.2.1 : Int) < 5
    · refine ⟨w3, g5_call ?_, s3.fr⟩
      unfold g5
      simp only [e1, e2, hne, h5, e3, Option.bind_some, asP_pointer, asB_bool, asI_int, asS_string, asSl_slice, asM_map, asTup0, asTup1, asTup2, asTup3, asTup4, asTup5, getD0, getD1, getD2, getD3, getD4, Bool.not_true, Bool.not_false, Bool.false_eq_true, Bool.true_eq_false, ↓reduceIte, decide_true, decide_false, Option.isNone_some, Option.isNone_none, Option.isSome_some, Option.isSome_none, beq_self_eq_true, bne_self_eq_false, Bool.and_true, Bool.true_and, Bool.and_false, Bool.false_and, not_true_eq_false, not_false_eq_true]
    · have hw4 : IntKind.i64.wrap ((x0.1.2.1 : Int) - 4) = (x0.1.2.1 : Int) - 4 := wrap_i64 (by omega) (by omega)
      have hw8 : IntKind.i64.wrap (8 * ((x0.1.2.1 : Int) - 4)) = 8 * ((x0.1.2.1 : Int) - 4) := wrap_i64 (by omega) (by omega)
      have hnz : ¬ 8 * ((x0.1.2.1 : Int) - 4) = 0 := by omega
      have hk : ∃ k : Nat, Int.tmod (IntKind.i64.wrap n1) (IntKind.i64.wrap (8 * (IntKind.i64.wrap ((x0.1.2.1 : Int) - 4)))) = (k : Int) ∧ k + 32 ≤ 8 * x0.2.length := by
        rw [hw4, hw8, wrap_i64 (n := n1) (by omega) (by omega), Int.tmod_eq_emod_of_nonneg h1.1]
        have a1 := Int.emod_nonneg n1 hnz
        have a2 := Int.emod_lt_of_pos n1 (show 0 < 8 * ((x0.1.2.1 : Int) - 4) by omega)
        exact ⟨(n1 % (8 * ((x0.1.2.1 : Int) - 4))).toNat, by omega, by omega⟩
      obtain ⟨k, hK, hk32⟩ := hk
      have hn2b := w32_bv h2
      generalize hbv : BitVec.ofInt 32 n2 = by_ at hn2b
      have hby : by_ ≠ 0#32 := by
        intro e; rw [e] at hn2b; exact hn2 hn2b
      obtain ⟨q, w4, e4, s4, o4, d4, k4, f4⟩ := s2.own hu (by omega)
      have hW2 : W.heap.size ≤ w2.heap.size := s2.fr.size
      obtain ⟨t, w5, e5, i5⟩ := loopS_count (b := g5_l15_b ((by_.toNat : Nat) : Int) q n1 x0.1 (some ⟨W.heap.size, 0, none⟩)) (I := UInv W W.heap.size q x0.2 by_ k) (n := 32)
        (fun i st w hi h => turn_round hK hk32 (by omega) d4 (by rw [k4]; simp; omega) i st w hi h)
        (fun st w hi => by
          obtain ⟨rfl, _, _⟩ := hi
          have hc : ¬ ((32 : Nat) : Int) < 32 := by decide
          unfold g5_l15_b
          simp only [hc, Option.bind_some, asP_pointer, asB_bool, asI_int, asS_string, asSl_slice, asM_map, asTup0, asTup1, asTup2, asTup3, asTup4, asTup5, getD0, getD1, getD2, getD3, getD4, Bool.not_true, Bool.not_false, Bool.false_eq_true, Bool.true_eq_false, ↓reduceIte, decide_true, decide_false, Option.isNone_some, Option.isNone_none, Option.isSome_some, Option.isSome_none, beq_self_eq_true, bne_self_eq_false, Bool.and_true, Bool.true_and, Bool.and_false, Bool.false_and, not_true_eq_false, not_false_eq_true])
        (Nat.zero_le _) (k := 0) (s := ((0 : Nat) : Int)) (w := w4) ⟨rfl, s4, by rw [Lb8_zero hz]; exact o4⟩
      obtain ⟨_, s5, o5⟩ := i5
      have zd : Zs (Lb8 x0.2 by_ k 32) := by
        intro z hm
        obtain ⟨m, _, rfl⟩ := List.mem_map.1 hm
        have := (BitVec.ofInt 8 (x0.2.getD m 0) ^^^ Eb by_ k 32 m).isLt
        omega
      have ld : (Lb8 x0.2 by_ k 32).length ≤ 140737488355000 := by simp [Lb8]; omega
      obtain ⟨w6, e6, s6, f6⟩ := s5.sum o5.slI zd (fun _ => d4) ld
      obtain ⟨q7, w7, e7, s7, o7, d7, _, f7⟩ := s6.own hu (by omega)
      obtain ⟨w8, e8, s8, f8⟩ := s7.sum o7.slI hz (fun _ => d7) (by omega)
      have hx := more_turned (A := x0.2) (D := Lb8 x0.2 by_ k 32) by_ hby k hk32 (by simp [Lb8]) (by
        intro i hi
        simp only [Lb8, List.getElem_map, List.getElem_range]
        rw [ofInt_toNat, getD_lt hi])
      refine ⟨w8, g5_call ?_, s8.fr⟩
      have e9 := g5_l15_x0_of e5
      simp only [Int.natCast_zero] at e9
      rw [hn2b] at hne ⊢
      unfold g5
      simp only [e1, e2, hne, h5, Option.bind_some, asP_pointer, asB_bool, asI_int, asS_string, asSl_slice, asM_map, asTup0, asTup1, asTup2, asTup3, asTup4, asTup5, getD0, getD1, getD2, getD3, getD4, Bool.not_true, Bool.not_false, Bool.false_eq_true, Bool.true_eq_false, ↓reduceIte, decide_true, decide_false, Option.isNone_some, Option.isNone_none, Option.isSome_some, Option.isSome_none, beq_self_eq_true, bne_self_eq_false, Bool.and_true, Bool.true_and, Bool.and_false, Bool.false_and, not_true_eq_false, not_false_eq_true]
      rw [hw4, hw8]
      simp only [hnz, e4, e9, Option.bind_some, asP_pointer, asB_bool, asI_int, asS_string, asSl_slice, asM_map, asTup0, asTup1, asTup2, asTup3, asTup4, asTup5, getD0, getD1, getD2, getD3, getD4, Bool.not_true, Bool.not_false, Bool.false_eq_true, Bool.true_eq_false, ↓reduceIte, decide_true, decide_false, Option.isNone_some, Option.isNone_none, Option.isSome_some, Option.isSome_none, beq_self_eq_true, bne_self_eq_false, Bool.and_true, Bool.true_and, Bool.and_false, Bool.false_and, not_true_eq_false, not_false_eq_true]
      unfold g5_l15_x0
      simp only [e6, e7, e8, hx, Option.bind_some, asP_pointer, asB_bool, asI_int, asS_string, asSl_slice, asM_map, asTup0, asTup1, asTup2, asTup3, asTup4, asTup5, getD0, getD1, getD2, getD3, getD4, Bool.not_true, Bool.not_false, Bool.false_eq_true, Bool.true_eq_false, ↓reduceIte, decide_true, decide_false, Option.isNone_some, Option.isNone_none, Option.isSome_some, Option.isSome_none, beq_self_eq_true, bne_self_eq_false, Bool.and_true, Bool.true_and, Bool.and_false, Bool.false_and, not_true_eq_false, not_false_eq_true]
end Go.Proofs.Ytakcmfbkknaehaa
