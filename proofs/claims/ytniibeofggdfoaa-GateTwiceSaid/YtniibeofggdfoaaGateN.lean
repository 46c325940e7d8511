/-
  GateN: lemmas on what Go functions of this seat come to (for whatever arguments, as each says). No condition but those that stand in each lemma.
-/
import Derived.Test.YtniibeofggdfoaaGateM
namespace Go.Proofs.Ytniibeofggdfoaa
open Go Go.Ev
set_option maxRecDepth 100000
set_option linter.unusedVariables false
set_option linter.unusedSimpArgs false

/-- the mark i is set to a bool -/
def turnM (M : Nat → Bool) (i : Int) (to : Bool) : Nat → Bool := if 0 ≤ i ∧ i ≤ 255 then fun j => if j = i.toNat then to else M j else M
def turnR (M : Nat → Bool) (i : Int) (to : Bool) : Bool := if 0 ≤ i ∧ i ≤ 255 then M i.toNat != to else false
def hasR (M : Nat → Bool) (i : Int) : Bool := if 0 ≤ i ∧ i ≤ 255 then M i.toNat else false
def cntR (M : Nat → Bool) : Nat := (List.range 256).countP M

/-- marks in memory: four words -/
def Mk (w : World) (b : Nat) (M : Nat → Bool) : Prop := ∃ xs : Nat → BitVec 64, Blk w b ((List.range 4).map fun k => .int .u64 (((xs k).toNat : Nat) : Int)) 51 ∧ ∀ k i, k < 4 → i < 64 → (xs k).getLsbD i = M (64 * k + i)
/-- the document's: one bool each -/
def Rm (w : World) (b : Nat) (M : Nat → Bool) : Prop := Blk w b ((List.range 256).map fun i => .bool (M i)) 59

theorem Mk.fr {w w' : World} {b : Nat} {M : Nat → Bool} {S : List Nat} (h : Mk w b M) (hf : Fr S w w') (hb : b ∉ S) : Mk w' b M := let ⟨xs, h1, h2⟩ := h; ⟨xs, h1.fr hf hb, h2⟩
theorem Rm.fr {w w' : World} {b : Nat} {M : Nat → Bool} {S : List Nat} (h : Rm w b M) (hf : Fr S w w') (hb : b ∉ S) : Rm w' b M := Blk.fr h hf hb
theorem Mk.lt {w : World} {b : Nat} {M : Nat → Bool} (h : Mk w b M) : b < w.heap.size := let ⟨_, h1, _⟩ := h; h1.lt
theorem Rm.lt {w : World} {b : Nat} {M : Nat → Bool} (h : Rm w b M) : b < w.heap.size := Blk.lt h

theorem Mk.new (w : World) : Mk (w.alloc (.cells #[.int .u64 0, .int .u64 0, .int .u64 0, .int .u64 0] 51)) w.heap.size (fun _ => false) :=
  ⟨fun _ => 0#64, Blk.new w ((List.range 4).map fun k => .int .u64 (((0#64).toNat : Nat) : Int)) 51, fun k i _ _ => by simp⟩

theorem word_idx {i : Int} (h : 0 ≤ i ∧ i ≤ 255) : ∃ k r : Nat, i = ((64 * k + r : Nat) : Int) ∧ k < 4 ∧ r < 64 ∧ IntKind.i64.wrap (Int.tdiv i 64) = (k : Int) ∧ Int.tmod i 64 = (r : Int) ∧ i.toNat = 64 * k + r := by
  refine ⟨(i / 64).toNat, (i % 64).toNat, by omega, by omega, by omega, ?_, ?_, by omega⟩
  · rw [Int.tdiv_eq_ediv_of_nonneg h.1, wrap_i64 (by omega) (by omega)]; omega
  · rw [Int.tmod_eq_emod_of_nonneg h.1]; omega

theorem one_shl64 {r : Nat} (hr : r < 64) : BitVec.ofInt 64 (IntKind.u64.wrap (1 * 2 ^ (min (Int.toNat (r : Int)) 64))) = 1#64 <<< r := by
  have e : min (Int.toNat (r : Int)) 64 = r := by simp; omega
  have hp : 2 ^ r < 18446744073709551616 := by
    have : 2 ^ r < 2 ^ 64 := Nat.pow_lt_pow_right (by omega) hr
    simpa using this
  have e2 : (1 * 2 ^ r : Int) = ((2 ^ r : Nat) : Int) := by simp
  rw [e, e2, wrapN, Nat.mod_eq_of_lt hp, BitVec.ofInt_natCast]
  apply BitVec.eq_of_toNat_eq
  simp [Nat.shiftLeft_eq]

theorem shl_bit {r j : Nat} (hr : r < 64) (hj : j < 64) : (1#64 <<< r).getLsbD j = decide (j = r) := by
  rw [BitVec.getLsbD_shiftLeft]
  by_cases h : j = r
  · subst h; simp [hj]
  · by_cases h2 : j < r
    · simp [h2, h]
    · have h3 : j - r ≠ 0 := by omega
      simp [h2, h, hj, BitVec.getLsbD_one, h3]

theorem and_bit {x : BitVec 64} {r : Nat} (hr : r < 64) : ((IntKind.u64.wrap (((x &&& 1#64 <<< r).toNat : Nat) : Int)) != 0) = x.getLsbD r := by
  have hw : IntKind.u64.wrap (((x &&& 1#64 <<< r).toNat : Nat) : Int) = (((x &&& 1#64 <<< r).toNat : Nat) : Int) := by
    rw [wrapN, Nat.mod_eq_of_lt (BitVec.isLt _)]
  rw [hw]
  cases hx : x.getLsbD r
  · have : x &&& 1#64 <<< r = 0#64 := by
      apply BitVec.eq_of_getLsbD_eq
      intro j hj
      rw [BitVec.getLsbD_and, shl_bit hr hj]
      by_cases h : j = r
      · subst h; simp [hx]
      · simp [h]
    rw [this]; rfl
  · have : x &&& 1#64 <<< r ≠ 0#64 := by
      intro h
      have := congrArg (fun v => v.getLsbD r) h
      simp [BitVec.getLsbD_and, shl_bit hr hr, hx] at this
    have h2 : (x &&& 1#64 <<< r).toNat ≠ 0 := fun h => this (BitVec.eq_of_toNat_eq h)
    simpa using h2

theorem xor_bit {x : BitVec 64} {r j : Nat} (hr : r < 64) (hj : j < 64) : (x ^^^ 1#64 <<< r).getLsbD j = if j = r then !x.getLsbD r else x.getLsbD j := by
  rw [BitVec.getLsbD_xor, shl_bit hr hj]
  by_cases h : j = r
  · subst h; simp
  · simp [h]

section
variable {w : World}

theorem turn31 {b : Nat} {M : Nat → Bool} (h : Mk w b M) (i : Int) (to : Bool) :
    ∃ w', callF Try.prog 31 #[.pointer (some ⟨b, 0, none⟩), .int .i64 i, .bool to] w = some (.bool (turnR M i to), w') ∧ Mk w' b (turnM M i to) ∧ Fr [b] w w' := by
  by_cases hi : 0 ≤ i ∧ i ≤ 255
  · obtain ⟨xs, hb, hx⟩ := h
    obtain ⟨k, r, e0, hk, hr, ek, er, et⟩ := word_idx hi
    have ix : idxA (some ⟨b, 0, none⟩) 4 1 (k : Int) = some ⟨b, k, none⟩ := by
      unfold idxA
      rw [if_pos (by omega)]
      simp [addr_add]
    have hcell : w.cell? ⟨b, k, none⟩ = some (.int .u64 (((xs k).toNat : Nat) : Int)) := by rw [hb.cell]; simp [hk]
    have e29 := load29 hcell
    have hbit : ((IntKind.u64.wrap (((BitVec.ofInt 64 (((xs k).toNat : Nat) : Int) &&& BitVec.ofInt 64 (IntKind.u64.wrap (1 * 2 ^ (min (Int.toNat (r : Int)) 64)))).toNat : Nat) : Int)) != 0) = M i.toNat := by
      rw [one_shl64 hr, BitVec.ofInt_natCast, BitVec.ofNat_toNat, BitVec.setWidth_eq, and_bit hr, hx k r hk hr, et]
    have hlo : ¬ i < 0 := by omega
    have hhi : ¬ i > 255 := by omega
    have hrn : ¬ (r : Int) < 0 := by omega
    cases hto : (M i.toNat == to)
    · have e30 := cas30 (y := IntKind.u64.wrap (((BitVec.ofInt 64 (((xs k).toNat : Nat) : Int) ^^^ BitVec.ofInt 64 (IntKind.u64.wrap (1 * 2 ^ (min (Int.toNat (r : Int)) 64)))).toNat : Nat) : Int)) hcell (hb.frozen k)
      have hval : IntKind.u64.wrap (((BitVec.ofInt 64 (((xs k).toNat : Nat) : Int) ^^^ BitVec.ofInt 64 (IntKind.u64.wrap (1 * 2 ^ (min (Int.toNat (r : Int)) 64)))).toNat : Nat) : Int) = (((xs k ^^^ 1#64 <<< r).toNat : Nat) : Int) := by
        rw [one_shl64 hr, BitVec.ofInt_natCast, BitVec.ofNat_toNat, BitVec.setWidth_eq, wrapN, Nat.mod_eq_of_lt (BitVec.isLt _)]
      rw [hval] at e30
      have hset := hb.set k (.int .u64 (((xs k ^^^ 1#64 <<< r).toNat : Nat) : Int))
      refine ⟨w.setCell ⟨b, k, none⟩ (.int .u64 (((xs k ^^^ 1#64 <<< r).toNat : Nat) : Int)), g31_call ?_, ⟨fun j => if j = k then xs k ^^^ 1#64 <<< r else xs j, ?_, ?_⟩, Fr.setCell⟩
      · have hb1 : g31_l1_b (some ⟨b, 0, none⟩) i to false w = some (.ret, true, w.setCell ⟨b, k, none⟩ (.int .u64 (((xs k ^^^ 1#64 <<< r).toNat : Nat) : Int))) := by
          unfold g31_l1_b
          simp only [ek, er, ix, e29, hbit, hto, hval, e30, Option.bind_some, asP_pointer, asB_bool, asI_int, asS_string, asSl_slice, asM_map, asTup0, asTup1, asTup2, asTup3, asTup4, asTup5, getD0, getD1, getD2, getD3, getD4, Bool.not_true, Bool.not_false, Bool.false_eq_true, Bool.true_eq_false, ↓reduceIte, decide_true, decide_false, Option.isNone_some, Option.isNone_none, Option.isSome_some, Option.isSome_none, beq_self_eq_true, bne_self_eq_false, Bool.and_true, Bool.true_and, Bool.and_false, Bool.false_and, not_true_eq_false, not_false_eq_true]
        have hne : turnR M i to = true := by
          unfold turnR; rw [if_pos hi]; simpa [bne] using hto
        rw [hne]
        unfold g31
        simp only [hlo, hhi, er, hrn, g31_l1_ret_of (loopS_out (by simp) hb1), g31_l1_ret, Option.bind_some, asP_pointer, asB_bool, asI_int, asS_string, asSl_slice, asM_map, asTup0, asTup1, asTup2, asTup3, asTup4, asTup5, getD0, getD1, getD2, getD3, getD4, Bool.not_true, Bool.not_false, Bool.false_eq_true, Bool.true_eq_false, ↓reduceIte, decide_true, decide_false, Option.isNone_some, Option.isNone_none, Option.isSome_some, Option.isSome_none, beq_self_eq_true, bne_self_eq_false, Bool.and_true, Bool.true_and, Bool.and_false, Bool.false_and, not_true_eq_false, not_false_eq_true]
      · have : (List.range 4).map (fun j => Value.int .u64 ((((if j = k then xs k ^^^ 1#64 <<< r else xs j) : BitVec 64).toNat : Nat) : Int)) = ((List.range 4).map fun j => Value.int .u64 (((xs j).toNat : Nat) : Int)).set k (.int .u64 (((xs k ^^^ 1#64 <<< r).toNat : Nat) : Int)) := by
          apply List.ext_getElem
          · simp
          · intro m h1 h2
            rw [List.getElem_set]
            simp only [List.getElem_map, List.getElem_range]
            by_cases hm : k = m
            · subst hm; simp
            · have : ¬ m = k := fun e => hm e.symm
              simp [hm, this]
        rw [this]; exact hset
      · intro j m hj hm
        unfold turnM
        rw [if_pos hi]
        simp only [et]
        by_cases hjk : j = k
        · subst hjk
          simp only [if_true]
          rw [xor_bit hr hm]
          by_cases hmr : m = r
          · subst hmr
            rw [if_pos rfl, if_pos rfl, hx j m hj hm, ← et]
            revert hto; cases M i.toNat <;> cases to <;> simp
          · rw [if_neg hmr, if_neg (by omega), hx j m hj hm]
        · simp only [hjk, if_false]
          rw [if_neg (by omega), hx j m hj hm]
    · refine ⟨w, g31_call ?_, ?_, Fr.refl _ _⟩
      · have hb1 : g31_l1_b (some ⟨b, 0, none⟩) i to false w = some (.ret, false, w) := by
          unfold g31_l1_b
          simp only [ek, er, ix, e29, hbit, hto, Option.bind_some, asP_pointer, asB_bool, asI_int, asS_string, asSl_slice, asM_map, asTup0, asTup1, asTup2, asTup3, asTup4, asTup5, getD0, getD1, getD2, getD3, getD4, Bool.not_true, Bool.not_false, Bool.false_eq_true, Bool.true_eq_false, ↓reduceIte, decide_true, decide_false, Option.isNone_some, Option.isNone_none, Option.isSome_some, Option.isSome_none, beq_self_eq_true, bne_self_eq_false, Bool.and_true, Bool.true_and, Bool.and_false, Bool.false_and, not_true_eq_false, not_false_eq_true]
        have hne : turnR M i to = false := by
          unfold turnR; rw [if_pos hi]; simpa [bne] using hto
        rw [hne]
        unfold g31
        simp only [hlo, hhi, er, hrn, g31_l1_ret_of (loopS_out (by simp) hb1), g31_l1_ret, Option.bind_some, asP_pointer, asB_bool, asI_int, asS_string, asSl_slice, asM_map, asTup0, asTup1, asTup2, asTup3, asTup4, asTup5, getD0, getD1, getD2, getD3, getD4, Bool.not_true, Bool.not_false, Bool.false_eq_true, Bool.true_eq_false, ↓reduceIte, decide_true, decide_false, Option.isNone_some, Option.isNone_none, Option.isSome_some, Option.isSome_none, beq_self_eq_true, bne_self_eq_false, Bool.and_true, Bool.true_and, Bool.and_false, Bool.false_and, not_true_eq_false, not_false_eq_true]
      · have : turnM M i to = M := by
          unfold turnM; rw [if_pos hi]
          funext j
          split
          · rename_i h; subst h; exact (by simpa using hto : M i.toNat = to).symm
          · rfl
        rw [this]; exact ⟨xs, hb, hx⟩
  · have h1 : turnR M i to = false := by unfold turnR; rw [if_neg hi]
    have h2 : turnM M i to = M := by unfold turnM; rw [if_neg hi]
    rw [h1, h2]
    refine ⟨w, g31_call ?_, h, Fr.refl _ _⟩
    by_cases hlo : i < 0
    · unfold g31
      simp only [hlo, Option.bind_some, asP_pointer, asB_bool, asI_int, asS_string, asSl_slice, asM_map, asTup0, asTup1, asTup2, asTup3, asTup4, asTup5, getD0, getD1, getD2, getD3, getD4, Bool.not_true, Bool.not_false, Bool.false_eq_true, Bool.true_eq_false, ↓reduceIte, decide_true, decide_false, Option.isNone_some, Option.isNone_none, Option.isSome_some, Option.isSome_none, beq_self_eq_true, bne_self_eq_false, Bool.and_true, Bool.true_and, Bool.and_false, Bool.false_and, not_true_eq_false, not_false_eq_true]
    · have hhi : i > 255 := by omega
      unfold g31
      simp only [hlo, hhi, Option.bind_some, asP_pointer, asB_bool, asI_int, asS_string, asSl_slice, asM_map, asTup0, asTup1, asTup2, asTup3, asTup4, asTup5, getD0, getD1, getD2, getD3, getD4, Bool.not_true, Bool.not_false, Bool.false_eq_true, Bool.true_eq_false, ↓reduceIte, decide_true, decide_false, Option.isNone_some, Option.isNone_none, Option.isSome_some, Option.isSome_none, beq_self_eq_true, bne_self_eq_false, Bool.and_true, Bool.true_and, Bool.and_false, Bool.false_and, not_true_eq_false, not_false_eq_true]

theorem set19 {b : Nat} {M : Nat → Bool} (h : Mk w b M) (i : Int) : ∃ w', callF Try.prog 19 #[.pointer (some ⟨b, 0, none⟩), .int .i64 i] w = some (.bool (turnR M i true), w') ∧ Mk w' b (turnM M i true) ∧ Fr [b] w w' := by
  obtain ⟨w', e, m, f⟩ := turn31 h i true
  refine ⟨w', g19_call ?_, m, f⟩
  unfold g19
  simp only [e, Option.bind_some, asP_pointer, asB_bool, asI_int, asS_string, asSl_slice, asM_map, asTup0, asTup1, asTup2, asTup3, asTup4, asTup5, getD0, getD1, getD2, getD3, getD4, Bool.not_true, Bool.not_false, Bool.false_eq_true, Bool.true_eq_false, ↓reduceIte, decide_true, decide_false, Option.isNone_some, Option.isNone_none, Option.isSome_some, Option.isSome_none, beq_self_eq_true, bne_self_eq_false, Bool.and_true, Bool.true_and, Bool.and_false, Bool.false_and, not_true_eq_false, not_false_eq_true]
theorem clear21 {b : Nat} {M : Nat → Bool} (h : Mk w b M) (i : Int) : ∃ w', callF Try.prog 21 #[.pointer (some ⟨b, 0, none⟩), .int .i64 i] w = some (.bool (turnR M i false), w') ∧ Mk w' b (turnM M i false) ∧ Fr [b] w w' := by
  obtain ⟨w', e, m, f⟩ := turn31 h i false
  refine ⟨w', g21_call ?_, m, f⟩
  unfold g21
  simp only [e, Option.bind_some, asP_pointer, asB_bool, asI_int, asS_string, asSl_slice, asM_map, asTup0, asTup1, asTup2, asTup3, asTup4, asTup5, getD0, getD1, getD2, getD3, getD4, Bool.not_true, Bool.not_false, Bool.false_eq_true, Bool.true_eq_false, ↓reduceIte, decide_true, decide_false, Option.isNone_some, Option.isNone_none, Option.isSome_some, Option.isSome_none, beq_self_eq_true, bne_self_eq_false, Bool.and_true, Bool.true_and, Bool.and_false, Bool.false_and, not_true_eq_false, not_false_eq_true]

theorem bit1 {x : BitVec 64} {r : Nat} (hr : r < 64) : ((IntKind.u64.wrap (((BitVec.ofInt 64 (Int.fdiv ((x.toNat : Nat) : Int) (2 ^ (min (Int.toNat (r : Int)) 64))) &&& BitVec.ofInt 64 1).toNat : Nat) : Int)) == 1) = x.getLsbD r := by
  have e : min (Int.toNat (r : Int)) 64 = r := by simp; omega
  have hx := x.isLt
  have hd : x.toNat / 2 ^ r ≤ x.toNat := Nat.div_le_self _ _
  have c : (1 : Int) = ((2 ^ 1 - 1 : Nat) : Int) := rfl
  rw [e, fdivN]
  conv => lhs; lhs; rw [c]
  rw [andN (by omega) (by decide), Nat.and_two_pow_sub_one_eq_mod, wrapN, Nat.mod_eq_of_lt (by omega)]
  rw [BitVec.getLsbD, Nat.testBit_eq_decide_div_mod_eq]
  by_cases h : x.toNat / 2 ^ r % 2 = 1
  · simp [h]
  · have h0 : x.toNat / 2 ^ r % 2 = 0 := by omega
    simp [h0]

theorem has23 {b : Nat} {M : Nat → Bool} (h : Mk w b M) (i : Int) : callF Try.prog 23 #[.pointer (some ⟨b, 0, none⟩), .int .i64 i] w = some (.bool (hasR M i), w) := by
  refine g23_call ?_
  by_cases hi : 0 ≤ i ∧ i ≤ 255
  · obtain ⟨xs, hb, hx⟩ := h
    obtain ⟨k, r, e0, hk, hr, ek, er, et⟩ := word_idx hi
    have ix : idxA (some ⟨b, 0, none⟩) 4 1 (k : Int) = some ⟨b, k, none⟩ := by
      unfold idxA
      rw [if_pos (by omega)]
      simp [addr_add]
    have hcell : w.cell? ⟨b, k, none⟩ = some (.int .u64 (((xs k).toNat : Nat) : Int)) := by rw [hb.cell]; simp [hk]
    have e29 := load29 hcell
    have h1 : i ≥ 0 := hi.1
    have h2 : i ≤ 255 := hi.2
    have hrn : ¬ (r : Int) < 0 := by omega
    have hres : hasR M i = (xs k).getLsbD r := by unfold hasR; rw [if_pos hi, hx k r hk hr, et]
    rw [hres]
    unfold g23
    simp only [h1, h2, ek, er, ix, e29, hrn, bit1 hr, Option.bind_some, asP_pointer, asB_bool, asI_int, asS_string, asSl_slice, asM_map, asTup0, asTup1, asTup2, asTup3, asTup4, asTup5, getD0, getD1, getD2, getD3, getD4, Bool.not_true, Bool.not_false, Bool.false_eq_true, Bool.true_eq_false, ↓reduceIte, decide_true, decide_false, Option.isNone_some, Option.isNone_none, Option.isSome_some, Option.isSome_none, beq_self_eq_true, bne_self_eq_false, Bool.and_true, Bool.true_and, Bool.and_false, Bool.false_and, not_true_eq_false, not_false_eq_true]
  · have h1 : hasR M i = false := by unfold hasR; rw [if_neg hi]
    rw [h1]
    by_cases hlo : i ≥ 0
    · have hhi : ¬ i ≤ 255 := by omega
      unfold g23
      simp only [hlo, hhi, Option.bind_some, asP_pointer, asB_bool, asI_int, asS_string, asSl_slice, asM_map, asTup0, asTup1, asTup2, asTup3, asTup4, asTup5, getD0, getD1, getD2, getD3, getD4, Bool.not_true, Bool.not_false, Bool.false_eq_true, Bool.true_eq_false, ↓reduceIte, decide_true, decide_false, Option.isNone_some, Option.isNone_none, Option.isSome_some, Option.isSome_none, beq_self_eq_true, bne_self_eq_false, Bool.and_true, Bool.true_and, Bool.and_false, Bool.false_and, not_true_eq_false, not_false_eq_true]
    · unfold g23
      simp only [hlo, Option.bind_some, asP_pointer, asB_bool, asI_int, asS_string, asSl_slice, asM_map, asTup0, asTup1, asTup2, asTup3, asTup4, asTup5, getD0, getD1, getD2, getD3, getD4, Bool.not_true, Bool.not_false, Bool.false_eq_true, Bool.true_eq_false, ↓reduceIte, decide_true, decide_false, Option.isNone_some, Option.isNone_none, Option.isSome_some, Option.isSome_none, beq_self_eq_true, bne_self_eq_false, Bool.and_true, Bool.true_and, Bool.and_false, Bool.false_and, not_true_eq_false, not_false_eq_true]

theorem rhas24 {b : Nat} {M : Nat → Bool} (h : Rm w b M) (i : Int) : callF Try.prog 24 #[.pointer (some ⟨b, 0, none⟩), .int .i64 i] w = some (.bool (hasR M i), w) := by
  refine g24_call ?_
  by_cases hi : 0 ≤ i ∧ i ≤ 255
  · have ix : idxA (some ⟨b, 0, none⟩) 256 1 i = some ⟨b, i.toNat, none⟩ := by
      unfold idxA
      rw [if_pos (by omega)]
      simp [addr_add]
    have hcell : w.cell? ⟨b, i.toNat, none⟩ = some (.bool (M i.toNat)) := by rw [Blk.cell h, List.getElem?_map, List.getElem?_range (by omega)]; rfl
    have h1 : i ≥ 0 := hi.1
    have h2 : i < 256 := by omega
    have hres : hasR M i = M i.toNat := by unfold hasR; rw [if_pos hi]
    rw [hres]
    unfold g24
    simp only [h1, h2, ix, hcell, Option.bind_some, asP_pointer, asB_bool, asI_int, asS_string, asSl_slice, asM_map, asTup0, asTup1, asTup2, asTup3, asTup4, asTup5, getD0, getD1, getD2, getD3, getD4, Bool.not_true, Bool.not_false, Bool.false_eq_true, Bool.true_eq_false, ↓reduceIte, decide_true, decide_false, Option.isNone_some, Option.isNone_none, Option.isSome_some, Option.isSome_none, beq_self_eq_true, bne_self_eq_false, Bool.and_true, Bool.true_and, Bool.and_false, Bool.false_and, not_true_eq_false, not_false_eq_true]
  · have h1 : hasR M i = false := by unfold hasR; rw [if_neg hi]
    rw [h1]
    by_cases hlo : i ≥ 0
    · have hhi : ¬ i < 256 := by omega
      unfold g24
      simp only [hlo, hhi, Option.bind_some, asP_pointer, asB_bool, asI_int, asS_string, asSl_slice, asM_map, asTup0, asTup1, asTup2, asTup3, asTup4, asTup5, getD0, getD1, getD2, getD3, getD4, Bool.not_true, Bool.not_false, Bool.false_eq_true, Bool.true_eq_false, ↓reduceIte, decide_true, decide_false, Option.isNone_some, Option.isNone_none, Option.isSome_some, Option.isSome_none, beq_self_eq_true, bne_self_eq_false, Bool.and_true, Bool.true_and, Bool.and_false, Bool.false_and, not_true_eq_false, not_false_eq_true]
    · unfold g24
      simp only [hlo, Option.bind_some, asP_pointer, asB_bool, asI_int, asS_string, asSl_slice, asM_map, asTup0, asTup1, asTup2, asTup3, asTup4, asTup5, getD0, getD1, getD2, getD3, getD4, Bool.not_true, Bool.not_false, Bool.false_eq_true, Bool.true_eq_false, ↓reduceIte, decide_true, decide_false, Option.isNone_some, Option.isNone_none, Option.isSome_some, Option.isSome_none, beq_self_eq_true, bne_self_eq_false, Bool.and_true, Bool.true_and, Bool.and_false, Bool.false_and, not_true_eq_false, not_false_eq_true]

theorem rturn22 {b : Nat} {M : Nat → Bool} (h : Rm w b M) (i : Int) (to : Bool) :
    ∃ w', callF Try.prog 22 #[.pointer (some ⟨b, 0, none⟩), .int .i64 i, .bool to] w = some (.bool (turnR M i to), w') ∧ Rm w' b (turnM M i to) ∧ Fr [b] w w' := by
  by_cases hi : 0 ≤ i ∧ i ≤ 255
  · have ix : idxA (some ⟨b, 0, none⟩) 256 1 i = some ⟨b, i.toNat, none⟩ := by
      unfold idxA
      rw [if_pos (by omega)]
      simp [addr_add]
    have hcell : w.cell? ⟨b, i.toNat, none⟩ = some (.bool (M i.toNat)) := by rw [Blk.cell h, List.getElem?_map, List.getElem?_range (by omega)]; rfl
    have hlo : ¬ i < 0 := by omega
    have hhi : ¬ i > 255 := by omega
    have hst : st1 w ⟨b, i.toNat, none⟩ (.bool to) = some (w.setCell ⟨b, i.toNat, none⟩ (.bool to)) := Blk.st1 h (by simp; omega) rfl
    have hset := Blk.set h i.toNat (.bool to)
    refine ⟨w.setCell ⟨b, i.toNat, none⟩ (.bool to), g22_call ?_, ?_, Fr.setCell⟩
    · have hres : turnR M i to = !(M i.toNat == to) := by unfold turnR; rw [if_pos hi]; rfl
      rw [hres]
      unfold g22
      simp only [hlo, hhi, ix, hcell, hst, Option.bind_some, asP_pointer, asB_bool, asI_int, asS_string, asSl_slice, asM_map, asTup0, asTup1, asTup2, asTup3, asTup4, asTup5, getD0, getD1, getD2, getD3, getD4, Bool.not_true, Bool.not_false, Bool.false_eq_true, Bool.true_eq_false, ↓reduceIte, decide_true, decide_false, Option.isNone_some, Option.isNone_none, Option.isSome_some, Option.isSome_none, beq_self_eq_true, bne_self_eq_false, Bool.and_true, Bool.true_and, Bool.and_false, Bool.false_and, not_true_eq_false, not_false_eq_true]
    · have : (List.range 256).map (fun j => Value.bool (turnM M i to j)) = ((List.range 256).map fun j => Value.bool (M j)).set i.toNat (.bool to) := by
        apply List.ext_getElem
        · simp
        · intro m h1 h2
          rw [List.getElem_set]
          simp only [List.getElem_map, List.getElem_range]
          unfold turnM
          rw [if_pos hi]
          by_cases hm : i.toNat = m
          · subst hm; simp
          · have : ¬ m = i.toNat := fun e => hm e.symm
            simp [hm, this]
      unfold Rm
      rw [this]; exact hset
  · have h1 : turnR M i to = false := by unfold turnR; rw [if_neg hi]
    have h2 : turnM M i to = M := by unfold turnM; rw [if_neg hi]
    rw [h1, h2]
    refine ⟨w, g22_call ?_, h, Fr.refl _ _⟩
    by_cases hlo : i < 0
    · unfold g22
      simp only [hlo, Option.bind_some, asP_pointer, asB_bool, asI_int, asS_string, asSl_slice, asM_map, asTup0, asTup1, asTup2, asTup3, asTup4, asTup5, getD0, getD1, getD2, getD3, getD4, Bool.not_true, Bool.not_false, Bool.false_eq_true, Bool.true_eq_false, ↓reduceIte, decide_true, decide_false, Option.isNone_some, Option.isNone_none, Option.isSome_some, Option.isSome_none, beq_self_eq_true, bne_self_eq_false, Bool.and_true, Bool.true_and, Bool.and_false, Bool.false_and, not_true_eq_false, not_false_eq_true]
    · have hhi : i > 255 := by omega
      unfold g22
      simp only [hlo, hhi, Option.bind_some, asP_pointer, asB_bool, asI_int, asS_string, asSl_slice, asM_map, asTup0, asTup1, asTup2, asTup3, asTup4, asTup5, getD0, getD1, getD2, getD3, getD4, Bool.not_true, Bool.not_false, Bool.false_eq_true, Bool.true_eq_false, ↓reduceIte, decide_true, decide_false, Option.isNone_some, Option.isNone_none, Option.isSome_some, Option.isSome_none, beq_self_eq_true, bne_self_eq_false, Bool.and_true, Bool.true_and, Bool.and_false, Bool.false_and, not_true_eq_false, not_false_eq_true]

theorem cnt_word (x : BitVec 64) : Pop.S (fun i => x.toNat / 2 ^ i % 2) 64 = Pop.S (fun i => if x.getLsbD i = true then 1 else 0) 64 := by
  apply Pop.S_congr
  intro i hi
  rw [BitVec.getLsbD, Nat.testBit_eq_decide_div_mod_eq]
  by_cases h : x.toNat / 2 ^ i % 2 = 1
  · simp [h]
  · have h0 : x.toNat / 2 ^ i % 2 = 0 := by omega
    simp [h0]

theorem S_add (f : Nat → Nat) (m : Nat) : ∀ n, Pop.S f (m + n) = Pop.S f m + Pop.S (fun i => f (m + i)) n
  | 0 => rfl
  | n + 1 => by
    have := S_add f m n
    rw [← Nat.add_assoc]
    simp only [Pop.S, this]; omega
theorem S_le (p : Nat → Bool) : ∀ n, Pop.S (fun i => if p i = true then 1 else 0) n ≤ n
  | 0 => Nat.le_refl _
  | n + 1 => by have := S_le p n; simp only [Pop.S]; split <;> omega

/-- how many of the first n are set -/
def cntN (M : Nat → Bool) (n : Nat) : Nat := Pop.S (fun i => if M i = true then 1 else 0) n

theorem count20 {b : Nat} {M : Nat → Bool} (h : Mk w b M) : callF Try.prog 20 #[.pointer (some ⟨b, 0, none⟩)] w = some (.int .i64 ((cntN M 256 : Nat) : Int), w) := by
  obtain ⟨xs, hb, hx⟩ := h
  obtain ⟨t, w', e, g1, g2⟩ := loopS_count (b := g20_l1_b (some ⟨b, 0, none⟩)) (I := fun k s x => s = (((cntN M (64 * k) : Nat) : Int), (k : Int)) ∧ x = w) (n := 4)
    (fun k s x hk ⟨hs, hxw⟩ => by
      subst hs hxw
      have ix : idxA (some ⟨b, 0, none⟩) 4 1 (k : Int) = some ⟨b, k, none⟩ := by
        unfold idxA
        rw [if_pos (by omega)]
        simp [addr_add]
      have hcell : x.cell? ⟨b, k, none⟩ = some (.int .u64 (((xs k).toNat : Nat) : Int)) := by rw [hb.cell]; simp [hk]
      have e29 := load29 hcell
      have e32 := ones32 (xs k).isLt x
      have hc : (k : Int) < 4 := by omega
      have hs := wrap_succ (n := k) (by omega)
      have hnext : cntN M (64 * (k + 1)) = cntN M (64 * k) + Pop.S (fun i => (xs k).toNat / 2 ^ i % 2) 64 := by
        unfold cntN
        rw [Nat.mul_add, Nat.mul_one, S_add, cnt_word]
        congr 1
        exact Pop.S_congr 64 fun i hi => by rw [hx k i hk hi]
      have hle : cntN M (64 * (k + 1)) ≤ 256 := by have := S_le M (64 * (k + 1)); unfold cntN; omega
      have hw : IntKind.i64.wrap (((cntN M (64 * k) : Nat) : Int) + ((Pop.S (fun i => (xs k).toNat / 2 ^ i % 2) 64 : Nat) : Int)) = ((cntN M (64 * (k + 1)) : Nat) : Int) := by
        rw [hnext] at hle ⊢
        rw [wrap_i64 (by omega) (by omega)]; omega
      refine ⟨(((cntN M (64 * (k + 1)) : Nat) : Int), ((k + 1 : Nat) : Int)), x, ?_, rfl, rfl⟩
      unfold g20_l1_b
      simp only [hc, ix, e29, e32, hw, hs, Option.bind_some, asP_pointer, asB_bool, asI_int, asS_string, asSl_slice, asM_map, asTup0, asTup1, asTup2, asTup3, asTup4, asTup5, getD0, getD1, getD2, getD3, getD4, Bool.not_true, Bool.not_false, Bool.false_eq_true, Bool.true_eq_false, ↓reduceIte, decide_true, decide_false, Option.isNone_some, Option.isNone_none, Option.isSome_some, Option.isSome_none, beq_self_eq_true, bne_self_eq_false, Bool.and_true, Bool.true_and, Bool.and_false, Bool.false_and, not_true_eq_false, not_false_eq_true])
    (fun s x ⟨hs, hxw⟩ => by
      subst hs hxw
      have hc : ¬ ((4 : Nat) : Int) < 4 := by decide
      unfold g20_l1_b
      simp only [hc, Option.bind_some, asP_pointer, asB_bool, asI_int, asS_string, asSl_slice, asM_map, asTup0, asTup1, asTup2, asTup3, asTup4, asTup5, getD0, getD1, getD2, getD3, getD4, Bool.not_true, Bool.not_false, Bool.false_eq_true, Bool.true_eq_false, ↓reduceIte, decide_true, decide_false, Option.isNone_some, Option.isNone_none, Option.isSome_some, Option.isSome_none, beq_self_eq_true, bne_self_eq_false, Bool.and_true, Bool.true_and, Bool.and_false, Bool.false_and, not_true_eq_false, not_false_eq_true])
    (Nat.zero_le _) (k := 0) (s := (0, 0)) (w := w) ⟨rfl, rfl⟩
  subst g2
  refine g20_call ?_
  unfold g20
  simp only [g20_l1_x0_of e, g20_l1_x0, g1, Option.bind_some, asP_pointer, asB_bool, asI_int, asS_string, asSl_slice, asM_map, asTup0, asTup1, asTup2, asTup3, asTup4, asTup5, getD0, getD1, getD2, getD3, getD4, Bool.not_true, Bool.not_false, Bool.false_eq_true, Bool.true_eq_false, ↓reduceIte, decide_true, decide_false, Option.isNone_some, Option.isNone_none, Option.isSome_some, Option.isSome_none, beq_self_eq_true, bne_self_eq_false, Bool.and_true, Bool.true_and, Bool.and_false, Bool.false_and, not_true_eq_false, not_false_eq_true]

theorem rcount25 {b : Nat} {M : Nat → Bool} (h : Rm w b M) : callF Try.prog 25 #[.pointer (some ⟨b, 0, none⟩)] w = some (.int .i64 ((cntN M 256 : Nat) : Int), w) := by
  obtain ⟨t, w', e, g1, g2⟩ := loopS_count (b := g25_l1_b (some ⟨b, 0, none⟩)) (I := fun k s x => s = (((cntN M k : Nat) : Int), (k : Int)) ∧ x = w) (n := 256)
    (fun k s x hk ⟨hs, hxw⟩ => by
      subst hs hxw
      have ix : idxA (some ⟨b, 0, none⟩) 256 1 (k : Int) = some ⟨b, k, none⟩ := by
        unfold idxA
        rw [if_pos (by omega)]
        simp [addr_add]
      have hcell : x.cell? ⟨b, k, none⟩ = some (.bool (M k)) := by rw [Blk.cell h, List.getElem?_map, List.getElem?_range (by omega)]; rfl
      have hc : (k : Int) < 256 := by omega
      have hs := wrap_succ (n := k) (by omega)
      have hle : cntN M k ≤ k := S_le M k
      refine ⟨(((cntN M (k + 1) : Nat) : Int), ((k + 1 : Nat) : Int)), x, ?_, rfl, rfl⟩
      cases hM : M k
      · have : cntN M (k + 1) = cntN M k := by unfold cntN; simp [Pop.S, hM]
        rw [hM] at hcell
        unfold g25_l1_b
        simp only [hc, ix, hcell, this, hs, Option.bind_some, asP_pointer, asB_bool, asI_int, asS_string, asSl_slice, asM_map, asTup0, asTup1, asTup2, asTup3, asTup4, asTup5, getD0, getD1, getD2, getD3, getD4, Bool.not_true, Bool.not_false, Bool.false_eq_true, Bool.true_eq_false, ↓reduceIte, decide_true, decide_false, Option.isNone_some, Option.isNone_none, Option.isSome_some, Option.isSome_none, beq_self_eq_true, bne_self_eq_false, Bool.and_true, Bool.true_and, Bool.and_false, Bool.false_and, not_true_eq_false, not_false_eq_true]
      · have : cntN M (k + 1) = cntN M k + 1 := by unfold cntN; simp [Pop.S, hM]
        rw [hM] at hcell
        have hw := wrap_succ (n := cntN M k) (by omega)
        unfold g25_l1_b
        simp only [hc, ix, hcell, this, hs, hw, Option.bind_some, asP_pointer, asB_bool, asI_int, asS_string, asSl_slice, asM_map, asTup0, asTup1, asTup2, asTup3, asTup4, asTup5, getD0, getD1, getD2, getD3, getD4, Bool.not_true, Bool.not_false, Bool.false_eq_true, Bool.true_eq_false, ↓reduceIte, decide_true, decide_false, Option.isNone_some, Option.isNone_none, Option.isSome_some, Option.isSome_none, beq_self_eq_true, bne_self_eq_false, Bool.and_true, Bool.true_and, Bool.and_false, Bool.false_and, not_true_eq_false, not_false_eq_true])
    (fun s x ⟨hs, hxw⟩ => by
      subst hs hxw
      have hc : ¬ ((256 : Nat) : Int) < 256 := by decide
      unfold g25_l1_b
      simp only [hc, Option.bind_some, asP_pointer, asB_bool, asI_int, asS_string, asSl_slice, asM_map, asTup0, asTup1, asTup2, asTup3, asTup4, asTup5, getD0, getD1, getD2, getD3, getD4, Bool.not_true, Bool.not_false, Bool.false_eq_true, Bool.true_eq_false, ↓reduceIte, decide_true, decide_false, Option.isNone_some, Option.isNone_none, Option.isSome_some, Option.isSome_none, beq_self_eq_true, bne_self_eq_false, Bool.and_true, Bool.true_and, Bool.and_false, Bool.false_and, not_true_eq_false, not_false_eq_true])
    (Nat.zero_le _) (k := 0) (s := (0, 0)) (w := w) ⟨rfl, rfl⟩
  subst g2
  refine g25_call ?_
  unfold g25
  simp only [g25_l1_x0_of e, g25_l1_x0, g1, Option.bind_some, asP_pointer, asB_bool, asI_int, asS_string, asSl_slice, asM_map, asTup0, asTup1, asTup2, asTup3, asTup4, asTup5, getD0, getD1, getD2, getD3, getD4, Bool.not_true, Bool.not_false, Bool.false_eq_true, Bool.true_eq_false, ↓reduceIte, decide_true, decide_false, Option.isNone_some, Option.isNone_none, Option.isSome_some, Option.isSome_none, beq_self_eq_true, bne_self_eq_false, Bool.and_true, Bool.true_and, Bool.and_false, Bool.false_and, not_true_eq_false, not_false_eq_true]
end
end Go.Proofs.Ytniibeofggdfoaa
